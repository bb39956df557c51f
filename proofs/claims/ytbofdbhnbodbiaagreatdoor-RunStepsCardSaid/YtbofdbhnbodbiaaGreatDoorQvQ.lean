/- A part of the proof; the statement is proved in the last part. -/
import Derived.Test.YtbofdbhnbodbiaaGreatDoorQvP
set_option linter.all false
set_option maxRecDepth 100000
set_option maxHeartbeats 20000000
namespace Go.Proofs.YtbofdbhnbodbiaaGreatDoor.Am
def oP:List bu:=[[109,97,105,110],[116,49],[116,50],[116,51]]
def PH(bm bt b0 bp nmb:Nat)(t:List UInt8)(a:Nat)(th le:Int)(se tx at_ lo:Bool)(o:Option Nat)(ar:List bu)(oT:Option Nat)(m:Nat)(ts:List ai):SH:=
 (bm,bI bt th le se tx at_ lo o 0)::(bt,aY t a)::(b0,⟨2,[[.nils,.nils]]⟩)::(bp,⟨2,[[.lst (bM.map aM.enc),aj oT m]]⟩)::(nmb,⟨1,oP.map au⟩)::(ab oT 4 (ts.map ai.enc)++ab o 1 (ar.map au))
def E8{D bm bt i j:Nat}{x y:Blk}{o:Option Nat}{rows:List (List AV)}(B:D≠bm)(u:D≠bt)(G:∀b,o=some b->D≠b):∀z∈[rm j ⟨af (.ptr D 0 (0+3)),[],[],[]⟩],W.free z ⟨i,[],SH.names ((bm,x)::(bt,y)::ab o 1 rows),[],true,[]⟩:=by
 intro z E;simp only[Sz]at E;subst E;cases o with
 |none=>simp[rm,W.free,ab,SH.names,af,fk,B,u,B.symm,u.symm]
 |some b=>have:=G b rfl;simp[rm,W.free,ab,SH.names,af,fk,B,u,B.symm,u.symm,this,this.symm]
def PZ(b0 bp:Nat)(ts:List ai):SH:=[(b0,⟨2,[[.nils,.nils]]⟩),(bp,⟨2,[[.lst (bM.map aM.enc),.lst (ts.map ai.enc)]]⟩)]
def cW{K:SH}{x y:List AV}(h:fU K x y)(j:Nat)(r u:List AV)(B:[x][j]? =some r)(h2:[y][j]? =some u):fU K r u:=by
 match j with
 |0=>cases B;cases h2;exact h
 |j+1=>simp at B
def ff{K:SH}{b n:Nat}{ts:List ai}{x:ai}{raw:List AV}{rows:List (List AV)}(M:(b,⟨4,rows⟩)∈K)(E:rows=ts.map ai.enc++[raw])(G:n=ts.length+1)(h:fU K raw x.enc):Fz K (.sl b 0 n) (.lst ((ts++[x]).map ai.enc)):=by
 have e:(ts++[x]).map ai.enc=(ts.map (λt:ai=>(t.enc,t))++[(raw,x)]).map (λy:List AV×ai=>y.2.enc):=by rw[LT,LT,List.map_map];rfl
 rw[e];refine Fz.slm (f:=Prod.fst) (g:=λy:List AV×ai=>y.2.enc) M (by rw[E,LT,List.map_map];rfl) Ue (by rw[G,SD,Ty];rfl) (λy j=>?_) λy j q a D B u=>?_
 .rcases SC.1 j with j|j
  .obtain⟨s,_,rfl⟩:=Tl.1 j;rfl
  .rw[Sz.1 j];exact h.at_.1
 .rcases SC.1 j with j|j
  .obtain⟨s,_,rfl⟩:=Tl.1 j;replace B:s.enc[q]? =some a:=B;replace u:s.enc[q]? =some D:=u;rw[B]at u;cases u;exact .refl _
  .rw[Sz.1 j]at B u;exact h.at_.2 q a D B u
def E9{bm bt:Nat}{t:List UInt8}{a r:Nat}{th le:Int}{se tx at_ lo:Bool}{o:Option Nat}{ar:List bu}{L L1 L2 L3:SH}{i:Nat}{Z:Int}{us:List W.WR}{KN:AV->SH->List Nat->Prop}(Y:Z=((1+r:Nat):Int))(hr:r<3)(h1:eJ bm (bI bt th le se tx at_ lo o 0) L L1)(h2:eJ bt (aY t a) L1 L2)(h3:ea o 1 (ar.map au) L2 L3)(ht:t.length<2^40)(ha:a<=t.length)(ho:o=none->ar=[])
  (hf:∀y∈us,W.free y ⟨i,[],SH.names ((bm,bI bt th le se tx at_ lo o 0)::(bt,aY t a)::ab o 1 (ar.map au)),[],true,[]⟩)
  (hq:∀(l:List aa) (O:Nat) (B G:Int) (D u M E:Bool) (N:Option Nat) (j:List bu) (S:List Nat),aa.wts l<=30000->O<=t.length->(N=none->j=[])->KN (.lst (l.map aa.enc)) ((bm,bI bt B G D u M E N 0)::(bt,aY t O)::(ab N 1 (j.map au)++L3)) S):W.dcallM Tryz.prog us i 57 [.ptr bm 0 0,.Uf 2,.Uf Z] L KN:=by
 subst Y;refine K8 (C4 2 Pm (1+r) Ua) h1 h2 h3 ht ha ho (SL _) Ue hf ?_;rintro _ O B G D u M E N j S ⟨l,rfl,hl⟩ q2 q3 q4;refine hq l O B G D u M E N j S (SK hl ?_) q2 q3;have:cy 2=10000:=by decide
 rw[this];omega
def db{α:Type}{f:α->List AV}{K:SH}{ts:List α}{x:α}{raw:List AV}(h:fU K raw (f x))(j:Nat)(r B:List AV)(u:(ts.map f++[raw])[j]? =some r)(h2:((ts++[x]).map f)[j]? =some B):fU K r B:=by
 rw[LT]at h2;rcases Fn j (ts.map f).length with g|g
 .rw[SE g]at u h2;rw[u]at h2;cases h2;exact .refl _ _
 .rw[SA g]at u h2;generalize j-(ts.map f).length=k at u h2
  match k with
  |0=>cases u;cases h2;exact h
  |k+1=>simp at u
def iL(l m:List aa):aa.wts (l++m)=aa.wts l+aa.wts m:=by
 induction l with
 |nil=>simp[aa.wts]
 |cons x l j=>simp only[TF,aa.wts,j];omega
def Lg(ps:List (List AV×aa))(l:List aa):List (List AV×aa):=ps++l.map λs=>(s.enc,s)
structure fS(ps:List (List AV×aa)):Prop where
 len:∀y∈ps,y.1.length=11
 fz:∀(K:SH),∀y∈ps,∀(q:Nat) (a a2:AV),y.1[q]? =some a->y.2.row[q]? =some a2->Fz K a a2
def fS.pl{ps:List (List AV×aa)}(h:fS ps)(l:List aa):fS (Lg ps l):=by
 constructor
 .intro y j;rcases SC.1 j with j|j
  .exact h.len y j
  .obtain⟨s,_,rfl⟩:=Tl.1 j;show s.enc.length=11;rw[aa.enc_row];rfl
 .intro K y j q a D B u;rcases SC.1 j with j|j
  .exact h.fz K y j q a D B u
  .obtain⟨s,_,rfl⟩:=Tl.1 j;rw[<-aa.enc_row]at u;replace B:s.enc[q]? =some a:=B;replace u:s.enc[q]? =some D:=u;rw[B]at u;cases u;exact .refl _
def fS.raw{ps:List (List AV×aa)}(h:fS ps)(op:Int)(D:bu):fS (ps++[(AU op D,kv op D)]):=by
 constructor
 .intro y j;rcases SC.1 j with j|j
  .exact h.len y j
  .rw[Sz.1 j];rfl
 .intro K y j q a E B u;rcases SC.1 j with j|j
  .exact h.fz K y j q a E B u
  .rw[Sz.1 j]at B u;exact Gm q a E B u
def fS.go{ps:List (List AV×aa)}(h:fS ps){K:SH}{b n:Nat}{rows:List (List AV)}(B:(b,⟨11,rows⟩)∈K)(j:rows=ps.map Prod.fst)(u:n=ps.length):Fz K (.sl b 0 n) (.lst ((ps.map Prod.snd).map aa.enc)):=zP ps B j u h.len (h.fz K)
def jZ(ps:List (List AV×aa))(l:List aa):(Lg ps l).map Prod.fst=ps.map Prod.fst++l.map aa.enc:=by simp[Lg,Function.comp]
def j4(ps:List (List AV×aa))(l:List aa):(Lg ps l).map Prod.snd=ps.map Prod.snd++l:=by rw[Lg,LT,List.map_map,show(Prod.snd∘λs:aa=>(s.enc,s))=id from rfl,List.map_id]
def j5(ps:List (List AV×aa))(l:List aa):(Lg ps l).length=ps.length+l.length:=by simp[Lg]
def Pn{n23:Kn}{bm bt D B u bh G a n i:Nat}{t:List UInt8}{th le:Int}{se tx at_ lo:Bool}{o oT oB:Option Nat}{ar:List bu}{ts:List ai}{ps:List (List AV×aa)}{nm:bu}
  (ht:t.length<2^40) (ha:a<=t.length) (ho:o=none->ar=[]) (hoT:oT=none->ts=[]) (hoB:oB=none->ps=[]) (vS:ts.length<=4) (hps:ps.length<=4)
  (f1:bh≠bm) (f2:bh≠bt) (f3:∀b,o=some b->bh≠b) (hg:fS ps) (hnm:nm.length<=4) (hpw:aa.wts (ps.map Prod.snd)<=100)
  (hn:∀(x:ai) (a':Nat) (th' le':Int) (se' tx' at' lo':Bool) (o':Option Nat) (ar':List bu) (nbT:Nat) (L':SH),(ai.wt x<=40000/\x.name=nm/\x.locals=[[97],[98]])->a'<=t.length->(o'=none->ar'=[])->az [.ptr D 0 0,.ptr bm 0 0,.ptr B 0 0,.Uf n,.sl u 0 4,.Uf (IntKind.i64.wrap ((i:Int)+1))] L' [.ptr D 0 0,.ptr bm 0 0,.ptr B 0 0,.Uf n,.sl u 0 4,.Uf (IntKind.i64.wrap ((i:Int)+1))] (PH bm bt D B u t a' th' le' se' tx' at' lo' o' ar' (some nbT) (ts.length+1) (ts++[x]))->az [.ptr D 0 0,.ptr bm 0 0,.ptr B 0 0,.Uf n,.sl u 0 4,.Uf (IntKind.i64.wrap ((i:Int)+1))] L' [.ptr D 0 0,.ptr bm 0 0,.ptr B 0 0,.Uf n,.sl u 0 4,.Uf (IntKind.i64.wrap ((i:Int)+1))] (PZ D B (ts++[x]))->n23 [.ptr D 0 0,.ptr bm 0 0,.ptr B 0 0,.Uf n,.sl u 0 4,.Uf (IntKind.i64.wrap ((i:Int)+1))] L')
  : du n23 [.ptr D 0 0,.ptr bm 0 0,.ptr B 0 0,.Uf n,.sl u 0 4,.Uf i,.ptr bh 0 0] ((bh,⟨4,[[.str nm,.Uf 0,.sl G 0 2,aj oB ps.length]]⟩)::(G,⟨1,[[.str [97]],[.str [98]]]⟩)::(bm,bI bt th le se tx at_ lo o 0)::(bt,aY t a)::(D,⟨2,[[.nils,.nils]]⟩)::(B,⟨2,[[.lst (bM.map aM.enc),aj oT ts.length]]⟩)::(u,⟨1,oP.map au⟩)::(ab oB 11 (ps.map Prod.fst)++(ab oT 4 (ts.map ai.enc)++ab o 1 (ar.map au)))):=by
 unfold bI lz;refine vw ?_
 repeat' (first|refine jt (qM ?_ (ME Ua))|refine st ?_|((with_reducible refine bb 56 ?_);(refine fL ht Ub rp (λr_ a_ hr_ E=>?_)))|((with_reducible refine eh 56 ?_);refine xi ht Ub rp (λr_ a_ hr_ E=>?_))|((with_reducible refine eh 57 ?_);refine E9 rfl Ua rp rp rp ht Ub Ub (E8 f1 f2 f3) ?_;rintro l_ a_ N Z O M at_ Y o_ ar_ ks_ hl_ E ho_;have hl9_:=aa.wts_len l_;rcases o_ with _|S;all_goals dsimp only[xg,xh,List.nil_append,List.cons_append])|(refine nC rp (λx=>by rw[aa.enc_row];rfl) Ud (λe=>by simp[hoB e]) Ua Ua (λx=>by rw[aa.enc_row];rfl) (λo2_ ho2_=>?_);rcases o2_ with _|ob2_;(have e_:=ho2_ rfl;simp only[List.append_eq_nil_iff,List.map_eq_nil_iff]at e_;obtain⟨rfl,rfl⟩:=e_);all_goals dsimp only[xg,xh,List.nil_append,List.cons_append])|refine bF (rows:=[]) (o:=none) rp (.here _) Uc (λ_=>rfl) Uc Ud Ud Ud Uc (λj hnb_=>?_)|refine bF rp rp Ud (λe=>by first|simp[ho2_ e]|simp[hoT e]|simp[hoB e]) Uc Ud (by simp;omega) (by simp;omega) Uc (λj hnb_=>?_)|refine sb λj hnb_=>?_|refine s2 (λh=>?_) λh=>?_|fail)
 all_goals first
  |exact hn ⟨nm,0,[[97],[98]],((Lg ps l_).map Prod.snd)⟩ a_ N Z O M at_ Y none ar_ j _ ⟨by simp only[ai.wt,j4,iL,LT,Sx,S6,kv,wz,SQ,S2,Tx,TX];omega,rfl,rfl⟩ E ho_ (az.rowA (A:=[(bm,_),(bt,_),(D,_),(B,_),(u,_)]) (b:=j) (R:=[]) (rows':=(ts++[_]).map ai.enc) rp Ud (db (f:=ai.enc) (.cons (.refl _) (.cons (.refl _) (.cons (Fz.sls (l:=[[97],[98]]) (f:=au) (size:=1) (b:=G) mm Uc Ue Uc) (.cons ((hg.pl l_).go mm (jZ _ _).symm (j5 _ _).symm) .nil))))) rfl) (az.rowA (A:=[(D,_)]) (b:=B) (R:=[]) (rows':=[[.lst (bM.map aM.enc),.lst ((ts++[_]).map ai.enc)]]) rp Uc (cW (.cons (.refl _) (.cons (ff (b:=j) mm Uc Uc (.cons (.refl _) (.cons (.refl _) (.cons (Fz.sls (l:=[[97],[98]]) (f:=au) (size:=1) (b:=G) mm Uc Ue Uc) (.cons ((hg.pl l_).go mm (jZ _ _).symm (j5 _ _).symm) .nil))))) .nil))) rfl)
  |exact hn ⟨nm,0,[[97],[98]],((Lg ps l_++[(AU 13 [116,49],kv 13 [116,49])]).map Prod.snd)⟩ a_ N Z O M at_ Y none ar_ j _ ⟨by simp only[ai.wt,j4,iL,LT,Sx,S6,kv,wz,SQ,S2,Tx,TX];omega,rfl,rfl⟩ E ho_ (az.rowA (A:=[(bm,_),(bt,_),(D,_),(B,_),(u,_)]) (b:=j) (R:=[]) (rows':=(ts++[_]).map ai.enc) rp Ud (db (f:=ai.enc) (.cons (.refl _) (.cons (.refl _) (.cons (Fz.sls (l:=[[97],[98]]) (f:=au) (size:=1) (b:=G) mm Uc Ue Uc) (.cons (((hg.pl l_).raw 13 [116,49]).go mm (by rw[LT,jZ];rfl) (by rw[SD,j5];rfl)) .nil))))) rfl) (az.rowA (A:=[(D,_)]) (b:=B) (R:=[]) (rows':=[[.lst (bM.map aM.enc),.lst ((ts++[_]).map ai.enc)]]) rp Uc (cW (.cons (.refl _) (.cons (ff (b:=j) mm Uc Uc (.cons (.refl _) (.cons (.refl _) (.cons (Fz.sls (l:=[[97],[98]]) (f:=au) (size:=1) (b:=G) mm Uc Ue Uc) (.cons (((hg.pl l_).raw 13 [116,49]).go mm (by rw[LT,jZ];rfl) (by rw[SD,j5];rfl)) .nil))))) .nil))) rfl)
  |exact hn ⟨nm,0,[[97],[98]],[]⟩ a_ N Z O M at_ Y none ar_ j _ ⟨by simp only[ai.wt,j4,iL,LT,Sx,S6,kv,wz,SQ,S2,Tx,TX];omega,rfl,rfl⟩ E ho_ (az.rowA (A:=[(bm,_),(bt,_),(D,_),(B,_),(u,_)]) (b:=j) (R:=[]) (rows':=(ts++[_]).map ai.enc) rp Ud (db (f:=ai.enc) (.cons (.refl _) (.cons (.refl _) (.cons (Fz.sls (l:=[[97],[98]]) (f:=au) (size:=1) (b:=G) mm Uc Ue Uc) (.cons .emp .nil))))) rfl) (az.rowA (A:=[(D,_)]) (b:=B) (R:=[]) (rows':=[[.lst (bM.map aM.enc),.lst ((ts++[_]).map ai.enc)]]) rp Uc (cW (.cons (.refl _) (.cons (ff (b:=j) mm Uc Uc (.cons (.refl _) (.cons (.refl _) (.cons (Fz.sls (l:=[[97],[98]]) (f:=au) (size:=1) (b:=G) mm Uc Ue Uc) (.cons .emp .nil))))) .nil))) rfl)
  |exact hn ⟨nm,0,[[97],[98]],[kv 13 [116,49]]⟩ a_ N Z O M at_ Y none ar_ j _ ⟨by simp only[ai.wt,j4,iL,LT,Sx,S6,kv,wz,SQ,S2,Tx,TX];omega,rfl,rfl⟩ E ho_ (az.rowA (A:=[(bm,_),(bt,_),(D,_),(B,_),(u,_)]) (b:=j) (R:=[]) (rows':=(ts++[_]).map ai.enc) rp Ud (db (f:=ai.enc) (.cons (.refl _) (.cons (.refl _) (.cons (Fz.sls (l:=[[97],[98]]) (f:=au) (size:=1) (b:=G) mm Uc Ue Uc) (.cons (((fS.mk nofun nofun:fS []).raw 13 [116,49]).go mm Uc Uc) .nil))))) rfl) (az.rowA (A:=[(D,_)]) (b:=B) (R:=[]) (rows':=[[.lst (bM.map aM.enc),.lst ((ts++[_]).map ai.enc)]]) rp Uc (cW (.cons (.refl _) (.cons (ff (b:=j) mm Uc Uc (.cons (.refl _) (.cons (.refl _) (.cons (Fz.sls (l:=[[97],[98]]) (f:=au) (size:=1) (b:=G) mm Uc Ue Uc) (.cons (((fS.mk nofun nofun:fS []).raw 13 [116,49]).go mm Uc Uc) .nil))))) .nil))) rfl)
  |exact hn ⟨nm,0,[[97],[98]],((Lg ps l_).map Prod.snd)⟩ a_ N Z O M at_ Y (some S) ar_ j _ ⟨by simp only[ai.wt,j4,iL,LT,Sx,S6,kv,wz,SQ,S2,Tx,TX];omega,rfl,rfl⟩ E ho_ (az.rowA (A:=[(bm,_),(bt,_),(D,_),(B,_),(u,_)]) (b:=j) (R:=[(S,_)]) (rows':=(ts++[_]).map ai.enc) rp Ud (db (f:=ai.enc) (.cons (.refl _) (.cons (.refl _) (.cons (Fz.sls (l:=[[97],[98]]) (f:=au) (size:=1) (b:=G) mm Uc Ue Uc) (.cons ((hg.pl l_).go mm (jZ _ _).symm (j5 _ _).symm) .nil))))) rfl) (az.rowA (A:=[(D,_)]) (b:=B) (R:=[]) (rows':=[[.lst (bM.map aM.enc),.lst ((ts++[_]).map ai.enc)]]) rp Uc (cW (.cons (.refl _) (.cons (ff (b:=j) mm Uc Uc (.cons (.refl _) (.cons (.refl _) (.cons (Fz.sls (l:=[[97],[98]]) (f:=au) (size:=1) (b:=G) mm Uc Ue Uc) (.cons ((hg.pl l_).go mm (jZ _ _).symm (j5 _ _).symm) .nil))))) .nil))) rfl)
  |exact hn ⟨nm,0,[[97],[98]],((Lg ps l_++[(AU 13 [116,49],kv 13 [116,49])]).map Prod.snd)⟩ a_ N Z O M at_ Y (some S) ar_ j _ ⟨by simp only[ai.wt,j4,iL,LT,Sx,S6,kv,wz,SQ,S2,Tx,TX];omega,rfl,rfl⟩ E ho_ (az.rowA (A:=[(bm,_),(bt,_),(D,_),(B,_),(u,_)]) (b:=j) (R:=[(S,_)]) (rows':=(ts++[_]).map ai.enc) rp Ud (db (f:=ai.enc) (.cons (.refl _) (.cons (.refl _) (.cons (Fz.sls (l:=[[97],[98]]) (f:=au) (size:=1) (b:=G) mm Uc Ue Uc) (.cons (((hg.pl l_).raw 13 [116,49]).go mm (by rw[LT,jZ];rfl) (by rw[SD,j5];rfl)) .nil))))) rfl) (az.rowA (A:=[(D,_)]) (b:=B) (R:=[]) (rows':=[[.lst (bM.map aM.enc),.lst ((ts++[_]).map ai.enc)]]) rp Uc (cW (.cons (.refl _) (.cons (ff (b:=j) mm Uc Uc (.cons (.refl _) (.cons (.refl _) (.cons (Fz.sls (l:=[[97],[98]]) (f:=au) (size:=1) (b:=G) mm Uc Ue Uc) (.cons (((hg.pl l_).raw 13 [116,49]).go mm (by rw[LT,jZ];rfl) (by rw[SD,j5];rfl)) .nil))))) .nil))) rfl)
  |exact hn ⟨nm,0,[[97],[98]],[]⟩ a_ N Z O M at_ Y (some S) ar_ j _ ⟨by simp only[ai.wt,j4,iL,LT,Sx,S6,kv,wz,SQ,S2,Tx,TX];omega,rfl,rfl⟩ E ho_ (az.rowA (A:=[(bm,_),(bt,_),(D,_),(B,_),(u,_)]) (b:=j) (R:=[(S,_)]) (rows':=(ts++[_]).map ai.enc) rp Ud (db (f:=ai.enc) (.cons (.refl _) (.cons (.refl _) (.cons (Fz.sls (l:=[[97],[98]]) (f:=au) (size:=1) (b:=G) mm Uc Ue Uc) (.cons .emp .nil))))) rfl) (az.rowA (A:=[(D,_)]) (b:=B) (R:=[]) (rows':=[[.lst (bM.map aM.enc),.lst ((ts++[_]).map ai.enc)]]) rp Uc (cW (.cons (.refl _) (.cons (ff (b:=j) mm Uc Uc (.cons (.refl _) (.cons (.refl _) (.cons (Fz.sls (l:=[[97],[98]]) (f:=au) (size:=1) (b:=G) mm Uc Ue Uc) (.cons .emp .nil))))) .nil))) rfl)
  |exact hn ⟨nm,0,[[97],[98]],[kv 13 [116,49]]⟩ a_ N Z O M at_ Y (some S) ar_ j _ ⟨by simp only[ai.wt,j4,iL,LT,Sx,S6,kv,wz,SQ,S2,Tx,TX];omega,rfl,rfl⟩ E ho_ (az.rowA (A:=[(bm,_),(bt,_),(D,_),(B,_),(u,_)]) (b:=j) (R:=[(S,_)]) (rows':=(ts++[_]).map ai.enc) rp Ud (db (f:=ai.enc) (.cons (.refl _) (.cons (.refl _) (.cons (Fz.sls (l:=[[97],[98]]) (f:=au) (size:=1) (b:=G) mm Uc Ue Uc) (.cons (((fS.mk nofun nofun:fS []).raw 13 [116,49]).go mm Uc Uc) .nil))))) rfl) (az.rowA (A:=[(D,_)]) (b:=B) (R:=[]) (rows':=[[.lst (bM.map aM.enc),.lst ((ts++[_]).map ai.enc)]]) rp Uc (cW (.cons (.refl _) (.cons (ff (b:=j) mm Uc Uc (.cons (.refl _) (.cons (.refl _) (.cons (Fz.sls (l:=[[97],[98]]) (f:=au) (size:=1) (b:=G) mm Uc Ue Uc) (.cons (((fS.mk nofun nofun:fS []).raw 13 [116,49]).go mm Uc Uc) .nil))))) .nil))) rfl)
section
theorem zQ{α:Type}{o:Option Nat}{size:Nat}{l:List α}{f:α->List AV}{L:SH}(B:o=none->l=[])(j:0<size)(u:∀q∈ab o size (l.map f),q∈L):Fz L (aj o l.length) (.lst (l.map f)):=by
 cases o with
 |none=>rw[B rfl];exact .emp
 |some b=>exact Fz.sls (u _ (.head _)) rfl j rfl
theorem u6(o:Option Nat)(n:Nat):(aj o n).one=true:=by cases o<;>rfl
theorem Fa(o:Option Nat)(n:Nat):(aj o n).cells? =some [aj o n]:=by cases o<;>rfl
section
variable {n151:Kn} {b2 b6 i:Nat} {oc ol od of ot os:Option Nat} {w:aI} {dl:List (List AV)} {ts:List ai} {Q:R}
theorem MH(hi:i<ts.length)(hi1:IntKind.i64.wrap ((i:Int)+1)=((i+1:Nat):Int))(O:i=w.threads.length)(S:i<2^20)(hb:aa.wts ts[i].body<2^20)(Y:w.sites.length<2^29)(j:AT b6 oc ol od of ot os w)
  (G:Nr (n151 [.pptr [[.lst dl,.lst (ts.map ai.enc)]] 0 0,.ptr b2 0 0,.ptr b6 0 0,.Uf ((i+1:Nat):Int)]) b2 b6 (dH w ts[i])) :
  zI n151 (zS b2 b6 oc ol od of ot os w) (.ptr b6 0 0) (.pptr [[.lst dl,.lst (ts.map ai.enc)]] 0 0) (.Uf i) (.ptr b2 0 0):=by
 have hx:=ao (f:=ai.enc) hi;have hcw:=aa.cnts_wt ts[i].body;have Z:=K7 i (2^20) ts[i].body Ua Ua;have D:ot=none->w.threads.map au=[]:=λe=>by rw[j.t e];rfl
 unfold dH at G;rw[<-O]at G;unfold zS;refine vw ?_
 repeat' (first|refine st ?_|refine bF rp rp Ud (λe=>by first|simp[D e]) Uc Ud (by simp;omega) (by simp;omega) Uc (λu B=>?_)|((with_reducible refine eh 95 ?_);refine md ?_;refine Gl (t:=i) (n:=0) Z rp rfl rfl j.s Ua Ua (λM E N=>?_);simp only[TF,Tu,S3])|refine vl ?_ (h2:=Fa _ _) (h4:=u6 _ _)|refine sb λu B=>?_|refine s2 (λh=>?_) λh=>?_|fail)
 exact G oc ol od of (some u) M _ _ _ _ _ _ _ _ _ _ _ _ _ ⟨j.c,j.l,j.d,j.f,nofun,E,j.n⟩ rp (by simp[aj]) rfl rfl rfl rfl (by rw[LT];rfl) rfl
theorem Po(vS:ts.length<2^20)(hb:∀t∈ts,aa.wts t.body<2^20)(hw0:w.threads=[])(hs0:w.sites=[])(hsl:∀k,(((ts.take k).foldl dH w).sites.length<2^29))(u:AT b6 oc ol od of ot os w)
  (hq:∀(v:AV) (L:SH),Fz L v (.agg (ts.foldl dH w).enc)->Q v L) :
  W.loop (zJ Q) [.pptr [[.lst dl,.lst (ts.map ai.enc)]] 0 0,.ptr b2 0 0,.ptr b6 0 0,.Uf 0] (zS b2 b6 oc ol od of ot os w):=by
 have M:∀k,k<=ts.length->((ts.take k).foldl dH w).threads.length=k:=by
  intro k
  induction k with
  |zero=>intro _;simp[hw0]
  |succ k ih=>intro h;rw[rI (show k<ts.length by omega)];simp[dH,ih Ua]
 refine bD (β:=Option Nat×Option Nat×Option Nat×Option Nat×Option Nat×Option Nat) ts.length (λi q=>([.pptr [[.lst dl,.lst (ts.map ai.enc)]] 0 0,.ptr b2 0 0,.ptr b6 0 0,.Uf i],zS b2 b6 q.1 q.2.1 q.2.2.1 q.2.2.2.1 q.2.2.2.2.1 q.2.2.2.2.2 ((ts.take i).foldl dH w)))
  (λi q=>AT b6 q.1 q.2.1 q.2.2.1 q.2.2.2.1 q.2.2.2.2.1 q.2.2.2.2.2 ((ts.take i).foldl dH w)) (oc,ol,od,of,ot,os) u (.refl _ _) ?_
 rintro i ⟨oc,ol,od,of,ot,os⟩ hi u;dsimp only at u ⊢;refine vw ?_;generalize G:(λ(vs':List AV) (L':SH)=>∃j o',i<j/\j<=ts.length/\_)=nx;rcases Nat.lt_or_ge i ts.length with D|D
 .have hd:=aW D;have hi1:=ax D Ua;have N:Nr (nx [.pptr [[.lst dl,.lst (ts.map ai.enc)]] 0 0,.ptr b2 0 0,.ptr b6 0 0,.Uf ((i+1:Nat):Int)]) b2 b6 (dH ((ts.take i).foldl dH w) ts[i]):=.of λoc2 Y od2 Z O S L' q1 q2=>by subst G;rw[<-rI (f:=dH) (a:=w) D]at q1 q2;exact⟨i+1,(oc2,Y,od2,Z,O,S),Ua,Ua,q1,az.pick q2 rfl⟩
  have hr:=MH (dl:=dl) D hi1 (M i Ua).symm Ua (hb _ (Sy D)) (hsl i) u N;clear G N;generalize hW:zS b2 b6 oc ol od of ot os ((ts.take i).foldl dH w)=LW at *
  repeat' (first|exact hr|refine st ?_|refine sb λE B=>?_|refine s2 (λh=>?_) λh=>?_|fail)
 .have hd:=aX D;have e:i=ts.length:=by omega
  subst e;rw[T4]at u ⊢;unfold zS
  repeat' (first|refine st ?_|refine sb λE B=>?_|refine s2 (λh=>?_) λh=>?_|fail)
  refine a8 (cs:=[aj oc (List.foldl dH w ts).cells.length,aj ol (List.foldl dH w ts).locks.length,aj od (List.foldl dH w ts).conds.length,aj of (List.foldl dH w ts).futures.length,aj ot (List.foldl dH w ts).threads.length,aj os (List.foldl dH w ts).sites.length]) (.there _ (.here _)) rfl rfl (by simp[u6]) rfl ?_
  repeat' (first|refine st ?_|refine sb λE B=>?_|refine s2 (λh=>?_) λh=>?_|fail)
  refine hq _ _ (Fz.aggs (.cons (zQ u.c Ue λq h=>.tail _ (.tail _ (Tt _ h))) (.cons (zQ u.l Ue λq h=>.tail _ (.tail _ (SP _ (Tt _ h)))) (.cons (zQ u.d Ue λq h=>.tail _ (.tail _ (SP _ (SP _ (Tt _ h))))) (.cons (zQ u.f Ue λq h=>.tail _ (.tail _ (SP _ (SP _ (SP _ (Tt _ h)))))) (.cons (zQ u.t Ue λq h=>.tail _ (.tail _ (SP _ (SP _ (SP _ (SP _ (Tt _ h))))))) (.cons (zQ u.s Ue λq h=>.tail _ (.tail _ (SP _ (SP _ (SP _ (SP _ (SP _ h))))))) .nil)))))))
end
theorem IG(w:aI)(d:aM)(j:d.size<=4):(bW w d).cells.length<=w.cells.length+4/\(bW w d).locks.length<=w.locks.length+1/\(bW w d).conds.length<=w.conds.length+1/\(bW w d).futures.length<=w.futures.length+1/\(bW w d).threads=w.threads/\(bW w d).sites=w.sites:=by
 unfold bW
 repeat' split
 all_goals simp[aM.celW]
 all_goals omega
theorem BN(w:aI):∀(l:List aM),(∀d∈l,d.size<=4)->(l.foldl bW w).cells.length<=w.cells.length+4*l.length/\(l.foldl bW w).locks.length<=w.locks.length+l.length/\(l.foldl bW w).conds.length<=w.conds.length+l.length/\(l.foldl bW w).futures.length<=w.futures.length+l.length/\(l.foldl bW w).threads=w.threads/\(l.foldl bW w).sites=w.sites:=by
 intro l
 induction l generalizing w with
 |nil=>intro _;simp
 |cons d l j=>
  intro h;obtain⟨Z,Y,S,O,E,D⟩:=IG w d (h d (.head _));obtain⟨N,b2,M,G,B,b6⟩:=j (bW w d) λx u=>h x (.tail _ u)
  simp only[TL,SQ];exact⟨Ua,Ua,Ua,Ua,B.trans E,b6.trans D⟩
theorem Gp(ts:List ai):∀(w:aI),(ts.foldl dH w).sites.length=w.sites.length+gA (λt=>aa.cnts t.body) ts:=by
 induction ts with
 |nil=>intro w;simp[gA]
 |cons t l j=>intro w;rw[TL,j];simp[dH,sitL_len,gA];omega
theorem IH(p:bT){ln:Int}(B:∀d∈p.decls,(1<=d.kind/\d.kind<=6)/\d.size<=4)(hck:aq Tryz.prog 50 [.agg p.enc] (.tup [.Uf 0,.Uf ln]))(hw:p.wt<=200000):aq Tryz.prog 51 [.agg p.enc] (.agg (ku p).enc):=by
 have hdl:=p.decls_len;have htl:=p.threads_len;refine ac.fz (zK _ _ _ ?_);unfold bT.enc;refine vw ?_;generalize hQ:(λ(v:AV) (L:SH)=>∃v2 L2,az [v] L [v2] L2/\v2=.agg (ku p).enc/\L2=[])=Q;have hq:∀v L,Fz L v (.agg (ku p).enc)->Q v L:=λv L h=>by subst hQ;exact⟨_,[],az.all h,rfl,rfl⟩
 clear hQ
 repeat' (first|refine st ?_|(refine pf 50 ?_;refine pm (hck) ?_)|refine sb λu E=>?_|refine s2 (λh=>?_) λh=>?_|fail)
 rename_i b0 hb0 b2 hb2;have O:∀k,((p.decls.take k).foldl bW aI.zero).cells.length<2^30/\((p.decls.take k).foldl bW aI.zero).locks.length<2^30/\((p.decls.take k).foldl bW aI.zero).conds.length<2^30/\((p.decls.take k).foldl bW aI.zero).futures.length<2^30:=λk=>by
  obtain⟨a1,a2,a3,a4,_,_⟩:=BN aI.zero (p.decls.take k) λd Y=>(B d (List.mem_of_mem_take Y)).2
  have:(p.decls.take k).length<=200000:=by rw[ST];omega
  simp only[aI.zero,S2]at a1 a2 a3 a4;exact⟨by show List.length _<_;unfold aI.zero;omega,by show List.length _<_;unfold aI.zero;omega,by show List.length _<_;unfold aI.zero;omega,by show List.length _<_;unfold aI.zero;omega⟩
 obtain⟨_,_,_,_,M,D⟩:=BN aI.zero p.decls λd Y=>(B d Y).2
 refine bD (β:=Option Nat×Option Nat×Option Nat×Option Nat×Option Nat×Option Nat) p.decls.length (λi q=>([.pptr [[.lst (p.decls.map aM.enc),.lst (p.threads.map ai.enc)]] 0 0,.ptr b2 0 0,.ptr u 0 0,.Uf i],zS b2 u q.1 q.2.1 q.2.2.1 q.2.2.2.1 q.2.2.2.2.1 q.2.2.2.2.2 ((p.decls.take i).foldl bW aI.zero)))
  (λi q=>AT u q.1 q.2.1 q.2.2.1 q.2.2.2.1 q.2.2.2.2.1 q.2.2.2.2.2 ((p.decls.take i).foldl bW aI.zero)) (none,none,none,none,none,none) ⟨λ_=>rfl,λ_=>rfl,λ_=>rfl,λ_=>rfl,λ_=>rfl,λ_=>rfl,nofun⟩ ?_ ?_
 .exact az.rowA (K:=[]) (A:=[]) (R:=[(b2,⟨6,[O8]⟩)]) (rows:=[[.nils,.nils,.nils,.nils,.nils,.nils]]) (.one (.here _) (.one (.here _) (.nil _))) rfl (cW (.cons .nile (.cons .nile (.cons .nile (.cons .nile (.cons .nile (.cons .nile .nil))))))) rfl
 rintro i ⟨oc,ol,od,of,ot,os⟩ hi ho;dsimp only at ho ⊢;refine vw ?_;generalize N:(λ(vs':List AV) (L':SH)=>∃j o',i<j/\j<=p.decls.length/\_)=nx;rcases Nat.lt_or_ge i p.decls.length with G|G
 .have Y:=aW G;have hi1:=ax G Ua;have S:Nr (nx [.pptr [[.lst (p.decls.map aM.enc),.lst (p.threads.map ai.enc)]] 0 0,.ptr b2 0 0,.ptr u 0 0,.Uf ((i+1:Nat):Int)]) b2 u (bW ((p.decls.take i).foldl bW aI.zero) p.decls[i]):=.of λoc2 ol2 od2 of2 Z os2 L' q1 q2=>by subst N;rw[<-rI (f:=bW) (a:=aI.zero) G]at q1 q2;exact⟨i+1,(oc2,ol2,od2,of2,Z,os2),Ua,Ua,q1,az.pick q2 rfl⟩
  obtain⟨a1,a2,a3,a4⟩:=O i;have hk:=B _ (Sy G);have hr:=O9 (rows:=p.decls.map aM.enc) (tl:=p.threads.map ai.enc) (d:=p.decls[i]) (ao G) hk.1 Ua hi1 ho a1 a2 a3 a4 S;clear N S;generalize hW:zS b2 u oc ol od of ot os ((p.decls.take i).foldl bW aI.zero)=LW at *
  repeat' (first|exact hr|refine st ?_|refine sb λu E=>?_|refine s2 (λh=>?_) λh=>?_|fail)
 .have Y:=aX G;have e:i=p.decls.length:=by omega
  subst e;rw[T4]at ho ⊢;have hl:=Po (Q:=Q) (dl:=p.decls.map aM.enc) (ts:=p.threads) (b2:=b2) Ua (λt ht=>?hb) M D (λk=>?hs) ho hq
  case hb=>
   obtain⟨j,hj,rfl⟩:=TG ht;have:=p.thread_wt hj;unfold ai.wt at this;omega
  case hs=>
   rw[Gp,D];have h1:=zr (λt:ai=>aa.cnts t.body) p.threads k;have h2:gA (λt:ai=>aa.cnts t.body) p.threads<=p.wt:=by have:=EW (f:=λt:ai=>aa.cnts t.body) (g:=ai.wt) (λt=>by have:=aa.cnts_wt t.body;unfold ai.wt;omega) p.threads;unfold bT.wt;unfold gA at *;omega
   simp only[aI.zero,S2];omega
  generalize hW:zS b2 u oc ol od of ot os (p.decls.foldl bW aI.zero)=LW at *
  repeat' (first|exact hl|refine st ?_|refine sb λu E=>?_|refine s2 (λh=>?_) λh=>?_|fail)
end
def Lh{α:Type}{f:α->List AV}{l:List α}{n by_:Nat}{L:SH}{KL:AV->SH->Prop}(B:∀x,(f x).length=n)(h2:2*l.length*by_<=2^48)(D:2*l.length<=2^62)(h4:∀x,(f x).all AV.one=true)
  (h:l=[]->KL .nils L) (E:∀b,KL (.sl b 0 l.length) ((b,⟨n,l.map f⟩)::L)):W.append n by_ .nils (.lst (l.map f)) L KL:=by
 have j:((l.map f).all λr=>r.all AV.one)=true:=by rw[SM];intro r u;obtain⟨x,_,rfl⟩:=Tl.1 u;exact h4 x
 refine⟨[],l.map f,rfl,oU B,by simpa using h2,by simpa using D,j,λe=>?_,λe b G=>?_⟩
 .exact h (by simpa using e)
 .have:=E b;simpa using this
def Pp{n23:Kn}{bm bt D B u bh M a n i:Nat}{t:List UInt8}{th le:Int}{se tx at_ lo:Bool}{o oT:Option Nat}{ar:List bu}{ts:List ai}{nm:bu}
  (ht:t.length<2^40) (ha:a<=t.length) (ho:o=none->ar=[]) (hoT:oT=none->ts=[]) (vS:ts.length<=4)
  (f1:bh≠bm) (f2:bh≠bt) (f3:∀b,o=some b->bh≠b) (hnm:nm.length<=4)
  (hz:decide ((i:Int)=0)=false) (hn:∀(x:ai) (a':Nat) (th' le':Int) (se' tx' at' lo':Bool) (o':Option Nat) (ar':List bu) (nbT:Nat) (L':SH),(ai.wt x<=40000/\x.name=nm/\x.locals=[[97],[98]])->a'<=t.length->(o'=none->ar'=[])->az [.ptr D 0 0,.ptr bm 0 0,.ptr B 0 0,.Uf n,.sl u 0 4,.Uf (IntKind.i64.wrap ((i:Int)+1))] L' [.ptr D 0 0,.ptr bm 0 0,.ptr B 0 0,.Uf n,.sl u 0 4,.Uf (IntKind.i64.wrap ((i:Int)+1))] (PH bm bt D B u t a' th' le' se' tx' at' lo' o' ar' (some nbT) (ts.length+1) (ts++[x]))->az [.ptr D 0 0,.ptr bm 0 0,.ptr B 0 0,.Uf n,.sl u 0 4,.Uf (IntKind.i64.wrap ((i:Int)+1))] L' [.ptr D 0 0,.ptr bm 0 0,.ptr B 0 0,.Uf n,.sl u 0 4,.Uf (IntKind.i64.wrap ((i:Int)+1))] (PZ D B (ts++[x]))->n23 [.ptr D 0 0,.ptr bm 0 0,.ptr B 0 0,.Uf n,.sl u 0 4,.Uf (IntKind.i64.wrap ((i:Int)+1))] L')
  : du n23 [.ptr D 0 0,.ptr bm 0 0,.ptr B 0 0,.Uf n,.sl u 0 4,.Uf (i:Int),.ptr bh 0 0] ((bh,⟨4,[[.str nm,.Uf 0,.sl M 0 2,AV.nils]]⟩)::(M,⟨1,[[.str [97]],[.str [98]]]⟩)::(bm,bI bt th le se tx at_ lo o 0)::(bt,aY t a)::(D,⟨2,[[.nils,.nils]]⟩)::(B,⟨2,[[.lst (bM.map aM.enc),aj oT ts.length]]⟩)::(u,⟨1,oP.map au⟩)::(ab oT 4 (ts.map ai.enc)++ab o 1 (ar.map au))):=by
 unfold bI lz;refine vw ?_
 repeat' (first|refine jt (qM ?_ (ME Ua))|refine st ?_|((with_reducible refine bb 56 ?_);(refine fL ht Ub rp (λr_ a_ hr_ G=>?_)))|((with_reducible refine eh 56 ?_);refine xi ht Ub rp (λr_ a_ hr_ G=>?_))|((with_reducible refine eh 57 ?_);refine E9 rfl Ua rp rp rp ht Ub Ub (E8 f1 f2 f3) ?_;rintro l_ a_ O le_ S N at_ Z o_ ar_ ks_ hl_ G ho_;have hl9_:=aa.wts_len l_;rcases o_ with _|Y;all_goals dsimp only[xg,xh,List.nil_append,List.cons_append])|(refine Lh (λx=>by rw[aa.enc_row];rfl) Ua Ua (λx=>by rw[aa.enc_row];rfl) ?_ ?_;all_goals first|(intro e_;subst e_)|intro E)|refine bF rp rp Ud (λe=>by first|simp[hoT e]) Uc Ud (by simp;omega) (by simp;omega) Uc (λj hnb_=>?_)|refine sb λj hnb_=>?_|refine s2 (λh=>?_) λh=>?_|fail)
 all_goals first
  |exact hn ⟨nm,0,[[97],[98]],l_⟩ a_ O le_ S N at_ Z none ar_ j _ ⟨by simp only[ai.wt,aa.wts,Sx,S6,SQ,S2,Tx,TX];omega,rfl,rfl⟩ G ho_ (az.rowA (A:=[(bm,_),(bt,_),(D,_),(B,_),(u,_)]) (b:=j) (R:=[]) (rows':=(ts++[_]).map ai.enc) rp Ud (db (f:=ai.enc) (.cons (.refl _) (.cons (.refl _) (.cons (Fz.sls (l:=[[97],[98]]) (f:=au) (size:=1) (b:=M) mm Uc Ue Uc) (.cons (Fz.sls (l:=l_) (f:=aa.enc) (size:=11) (b:=E) mm Uc Ue Uc) .nil))))) rfl) (az.rowA (A:=[(D,_)]) (b:=B) (R:=[]) (rows':=[[.lst (bM.map aM.enc),.lst ((ts++[_]).map ai.enc)]]) rp Uc (cW (.cons (.refl _) (.cons (ff (b:=j) mm Uc Uc (.cons (.refl _) (.cons (.refl _) (.cons (Fz.sls (l:=[[97],[98]]) (f:=au) (size:=1) (b:=M) mm Uc Ue Uc) (.cons (Fz.sls (l:=l_) (f:=aa.enc) (size:=11) (b:=E) mm Uc Ue Uc) .nil))))) .nil))) rfl)
  |exact hn ⟨nm,0,[[97],[98]],[]⟩ a_ O le_ S N at_ Z none ar_ j _ ⟨by simp only[ai.wt,aa.wts,Sx,S6,SQ,S2,Tx,TX];omega,rfl,rfl⟩ G ho_ (az.rowA (A:=[(bm,_),(bt,_),(D,_),(B,_),(u,_)]) (b:=j) (R:=[]) (rows':=(ts++[_]).map ai.enc) rp Ud (db (f:=ai.enc) (.cons (.refl _) (.cons (.refl _) (.cons (Fz.sls (l:=[[97],[98]]) (f:=au) (size:=1) (b:=M) mm Uc Ue Uc) (.cons .nils .nil))))) rfl) (az.rowA (A:=[(D,_)]) (b:=B) (R:=[]) (rows':=[[.lst (bM.map aM.enc),.lst ((ts++[_]).map ai.enc)]]) rp Uc (cW (.cons (.refl _) (.cons (ff (b:=j) mm Uc Uc (.cons (.refl _) (.cons (.refl _) (.cons (Fz.sls (l:=[[97],[98]]) (f:=au) (size:=1) (b:=M) mm Uc Ue Uc) (.cons .nils .nil))))) .nil))) rfl)
  |exact hn ⟨nm,0,[[97],[98]],l_⟩ a_ O le_ S N at_ Z (some Y) ar_ j _ ⟨by simp only[ai.wt,aa.wts,Sx,S6,SQ,S2,Tx,TX];omega,rfl,rfl⟩ G ho_ (az.rowA (A:=[(bm,_),(bt,_),(D,_),(B,_),(u,_)]) (b:=j) (R:=[(Y,_)]) (rows':=(ts++[_]).map ai.enc) rp Ud (db (f:=ai.enc) (.cons (.refl _) (.cons (.refl _) (.cons (Fz.sls (l:=[[97],[98]]) (f:=au) (size:=1) (b:=M) mm Uc Ue Uc) (.cons (Fz.sls (l:=l_) (f:=aa.enc) (size:=11) (b:=E) mm Uc Ue Uc) .nil))))) rfl) (az.rowA (A:=[(D,_)]) (b:=B) (R:=[]) (rows':=[[.lst (bM.map aM.enc),.lst ((ts++[_]).map ai.enc)]]) rp Uc (cW (.cons (.refl _) (.cons (ff (b:=j) mm Uc Uc (.cons (.refl _) (.cons (.refl _) (.cons (Fz.sls (l:=[[97],[98]]) (f:=au) (size:=1) (b:=M) mm Uc Ue Uc) (.cons (Fz.sls (l:=l_) (f:=aa.enc) (size:=11) (b:=E) mm Uc Ue Uc) .nil))))) .nil))) rfl)
  |exact hn ⟨nm,0,[[97],[98]],[]⟩ a_ O le_ S N at_ Z (some Y) ar_ j _ ⟨by simp only[ai.wt,aa.wts,Sx,S6,SQ,S2,Tx,TX];omega,rfl,rfl⟩ G ho_ (az.rowA (A:=[(bm,_),(bt,_),(D,_),(B,_),(u,_)]) (b:=j) (R:=[(Y,_)]) (rows':=(ts++[_]).map ai.enc) rp Ud (db (f:=ai.enc) (.cons (.refl _) (.cons (.refl _) (.cons (Fz.sls (l:=[[97],[98]]) (f:=au) (size:=1) (b:=M) mm Uc Ue Uc) (.cons .nils .nil))))) rfl) (az.rowA (A:=[(D,_)]) (b:=B) (R:=[]) (rows':=[[.lst (bM.map aM.enc),.lst ((ts++[_]).map ai.enc)]]) rp Uc (cW (.cons (.refl _) (.cons (ff (b:=j) mm Uc Uc (.cons (.refl _) (.cons (.refl _) (.cons (Fz.sls (l:=[[97],[98]]) (f:=au) (size:=1) (b:=M) mm Uc Ue Uc) (.cons .nils .nil))))) .nil))) rfl)
end Go.Proofs.YtbofdbhnbodbiaaGreatDoor.Am
