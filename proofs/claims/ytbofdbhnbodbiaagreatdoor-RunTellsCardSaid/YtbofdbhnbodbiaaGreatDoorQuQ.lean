/- A part of the proof; the statement is proved in the last part. -/
import Derived.Test.YtbofdbhnbodbiaaGreatDoorQuP
import Derived.Test.YtbofdbhnbodbiaaGreatDoorRows
import Derived.OpenShut
import Derived.MakeChecks
import Derived.FnData
set_option linter.all false
set_option maxRecDepth 100000
set_option maxHeartbeats 20000000
namespace Go.Proofs.YtbofdbhnbodbiaaGreatDoor.Am
@[irreducible] def JJ (n23:Kn) (v:List AV) (L:SH):Prop:=dC n23 v L
def N7{n23:Kn}{v:List AV}{L:SH}(h:JJ n23 v L):dC n23 v L:=by unfold JJ at h;exact h
def N8{n23:Kn}{v:List AV}{L:SH}(h:dC n23 v L):JJ n23 v L:=by unfold JJ;exact h
def HV(r:Nat):(o6.getD r []).length<=4:=by
 rcases r with _|_|_|_|r
 all_goals simp[o6]
def P9{n23:Kn}{bm bt S N u O E a n:Nat}{t:List UInt8}{th le:Int}{se tx at_ lo:Bool}{o oT:Option Nat}{ar:List bv}{ts:List ai}{Y:bv}{m:Nat}(hn4:n<=4)(h1:1<=n)
  (hj:∀(B:Option Nat) (ps:List (List AV×aa)),(B=none->ps=[])->ps.length<=4->ga ps->aa.wts (ps.map Prod.snd)<=100->JJ n23 [.ptr S 0 0,.ptr bm 0 0,.ptr N 0 0,.U1 n,.sl u 0 4,.U1 ((0:Nat):Int),.ptr O 0 0] ((O,⟨4,[[.str Y,.U1 0,.sl E 0 2,aj B ps.length]]⟩)::(E,⟨1,[[.str [97]],[.str [98]]]⟩)::(bm,bI bt th le se tx at_ lo o 0)::(bt,aZ t a)::(S,⟨2,[[.nils,.nils]]⟩)::(N,⟨2,[[.lst (bM.map aN.enc),aj oT m]]⟩)::(u,⟨1,o6.map au⟩)::(ab B 11 (ps.map Prod.fst)++(ab oT 4 (ts.map ai.enc)++ab o 1 (ar.map au))))) :
  W.loop (xj (dC n23)) [.ptr S 0 0,.ptr bm 0 0,.ptr N 0 0,.U1 n,.sl u 0 4,.U1 ((0:Nat):Int),.ptr O 0 0,.U1 1] ((O,⟨4,[[.str Y,.U1 0,.sl E 0 2,.nils]]⟩)::(E,⟨1,[[.str [97]],[.str [98]]]⟩)::(bm,bI bt th le se tx at_ lo o 0)::(bt,aZ t a)::(S,⟨2,[[.nils,.nils]]⟩)::(N,⟨2,[[.lst (bM.map aN.enc),aj oT m]]⟩)::(u,⟨1,o6.map au⟩)::(ab oT 4 (ts.map ai.enc)++ab o 1 (ar.map au))):=by
 refine bz (β:=Option Nat×List (List AV×aa)) (n-1) (λj ⟨B,ps⟩=>([.ptr S 0 0,.ptr bm 0 0,.ptr N 0 0,.U1 n,.sl u 0 4,.U1 ((0:Nat):Int),.ptr O 0 0,.U1 ((j+1:Nat):Int)],(O,⟨4,[[.str Y,.U1 0,.sl E 0 2,aj B j]]⟩)::(E,⟨1,[[.str [97]],[.str [98]]]⟩)::(bm,bI bt th le se tx at_ lo o 0)::(bt,aZ t a)::(S,⟨2,[[.nils,.nils]]⟩)::(N,⟨2,[[.lst (bM.map aN.enc),aj oT m]]⟩)::(u,⟨1,o6.map au⟩)::(ab B 11 (ps.map Prod.fst)++(ab oT 4 (ts.map ai.enc)++ab o 1 (ar.map au)))))
  (λj ⟨B,ps⟩=>(B=none->ps=[])/\ps.length=j/\ga ps/\aa.wts (ps.map Prod.snd)<=10*j) (none,[]) ⟨λ_=>rfl,rfl,ga.mk nofun nofun,TG _⟩ ?_ ?_
 .refine az.row (R:=_) (K:=[]) (rows:=[[.str Y,.U1 0,.sl E 0 2,.nils]]) (rows':=[[.str Y,.U1 0,.sl E 0 2,aj none 0]]) (.refl _) UY (λj r r' q1 q2=>?_)
  match j with
   |0=>cases q1;cases q2;exact .cons (.refl _) (.cons (.refl _) (.cons (.refl _) (.cons .nile .nil)))
   |j+1=>simp at q1
 rintro j ⟨B,ps⟩ hjn ⟨M,hl,hg,hw⟩;dsimp only at M hl hg hw ⊢;refine vw ?_;generalize Z:(λ(vs':List AV) (L':SH)=>_)=nx;subst hl;rcases Nat.lt_or_ge (ps.length+1) n with g|g
 .have hd1:=aS g;have hi1:=aw g UW;unfold bI lK
  repeat' (first|refine st ?_|refine fe (l:=o6) ?_ mm rfl (by simp[o6];omega)|refine dQ ?_ UW|refine bA rp rp UZ (λe=>by first|simp[M e]) UY UZ (by simp;omega) (by simp;omega) UY (λD G=>?_)|refine sb λD G=>?_|refine s2 (λh=>?_) λh=>?_|fail)
  subst Z;have hnl:=HV (ps.length+1);generalize o6.getD (ps.length+1) []=w at hnl ⊢;refine⟨ps.length+1,(some D,ps++[(Bl 12 w,kJ 12 w)]),UW,UW,⟨nofun,UZ,hg.raw 12 w,?_⟩,az.pickE (R:=(O,_)::(E,_)::(bm,_)::(bt,_)::(S,_)::(N,_)::(u,_)::(D,⟨11,ps.map Prod.fst++[Bl 12 w]⟩)::(ab oT 4 (ts.map ai.enc)++ab o 1 (ar.map au))) (.one (.there _ (.there _ (.here _))) (.one (.there _ (.there _ (.here _))) (.one (.there _ (.there _ (.here _))) (.one (.there _ (.there _ (.here _))) (.one (.there _ (.there _ (.here _))) (.one (.there _ (.there _ (.here _))) (.one (.there _ (.there _ (.here _))) (.one (.here _) (.slot (.there _ (.here _)) (.slotl (.there _ .last))))))))))) rfl ?_⟩
  .rw[Ti,iT];simp only[Tj,TV,kJ,wz,TQ];omega
  .dsimp only;rw[List.map_append];rfl
 .have hd1:=aX g;clear Z;unfold bI lK at *
  repeat' (first|(with_reducible refine N7 ?_)|refine st ?_|refine sb λD G=>?_|refine s2 (λh=>?_) λh=>?_|fail)
  exact hj B ps M UW hg UW
def lP{b c:Nat}{L:SH}{y:Blk}(h:¬b∈SH.names L)(j:(c,y)∈L):b≠c:=λe=>h (by subst e;exact TR.2 ⟨_,j,rfl⟩)
def FJ{o:Option Nat}{b n:Nat}{rows:List (List AV)}(h:o=some b):(b,(⟨n,rows⟩:Blk))∈ab o n rows:=by subst h;exact .head _
def Jh{Q:R}{n23:Kn}{bm bt E D u a n i:Nat}{t:List UInt8}{th le:Int}{se tx at_ lo:Bool}{o oT:Option Nat}{ar:List bv}{ts:List ai}
  (ht:t.length<2^40) (ha:a<=t.length) (ho:o=none->ar=[]) (G:oT=none->ts=[]) (wx:ts.length=i) (hi:i<n) (hn4:n<=4)
  (hn:∀(x:ai) (a':Nat) (O le':Int) (S N at' Z:Bool) (o':Option Nat) (M:List bv) (Y:Nat) (L':SH),(ai.wt x<=40000/\x.name=o6.getD i []/\x.locals=[[97],[98]])->a'<=t.length->(o'=none->M=[])->az [.ptr E 0 0,.ptr bm 0 0,.ptr D 0 0,.U1 n,.sl u 0 4,.U1 (IntKind.i64.wrap ((i:Int)+1))] L' [.ptr E 0 0,.ptr bm 0 0,.ptr D 0 0,.U1 n,.sl u 0 4,.U1 (IntKind.i64.wrap ((i:Int)+1))] (PH bm bt E D u t a' O le' S N at' Z o' M (some Y) (ts.length+1) (ts++[x]))->az [.ptr E 0 0,.ptr bm 0 0,.ptr D 0 0,.U1 n,.sl u 0 4,.U1 (IntKind.i64.wrap ((i:Int)+1))] L' [.ptr E 0 0,.ptr bm 0 0,.ptr D 0 0,.U1 n,.sl u 0 4,.U1 (IntKind.i64.wrap ((i:Int)+1))] (PZ E D (ts++[x]))->n23 [.ptr E 0 0,.ptr bm 0 0,.ptr D 0 0,.U1 n,.sl u 0 4,.U1 (IntKind.i64.wrap ((i:Int)+1))] L') :
  xk Q [.ptr E 0 0,.ptr bm 0 0,.ptr D 0 0,.U1 n,.sl u 0 4,.U1 (i:Int)] (PH bm bt E D u t a th le se tx at_ lo o ar oT ts.length ts) n23:=by
 have hd1:=aS hi;unfold PH bI lK;refine vw ?_;rcases i with _|i
 .repeat' (first|refine st ?_|refine fe (l:=o6) ?_ mm rfl (by simp[o6])|refine dQ ?_ UW|refine sb λB j=>?_|refine s2 (λh=>?_) λh=>?_|fail)
  have f1:B≠bm:=lP j (.tail _ (.head _));have f2:B≠bt:=lP j (.tail _ (.tail _ (.head _)));have f3:∀b,o=some b->B≠b:=λb e=>lP j (.tail _ (.tail _ (.tail _ (.tail _ (.tail _ (.tail _ (TA _ (FJ e))))))))
  exact P9 hn4 UW λoB ps hoB hps hg hw=>N8 (P6 ht ha ho G hoB UW hps f1 f2 f3 hg U0 hw hn)
 .have hz:decide (((i+1:Nat):Int)=0)=false:=by simp;omega
  repeat' (first|(with_reducible refine N7 ?_)|refine st ?_|refine fe (l:=o6) ?_ mm rfl (by simp[o6];omega)|refine dQ ?_ UW|refine sb λB j=>?_|refine s2 (λh=>?_) λh=>?_|fail)
  have f1:B≠bm:=lP j (.tail _ (.head _));have f2:B≠bt:=lP j (.tail _ (.tail _ (.head _)));have f3:∀b,o=some b->B≠b:=λb e=>lP j (.tail _ (.tail _ (.tail _ (.tail _ (.tail _ (.tail _ (TA _ (FJ e))))))))
  exact N8 (P8 ht ha ho G UW f1 f2 f3 (HV (i+1)) hz hn)
def S7{r:Nat}(h:r<100):IntKind.i64.wrap (2+(r:Int))=((2+r:Nat):Int):=by rw[TY _ UW];omega
inductive Ji (K:SH):SH->SH->Prop where
 |nil:Ji K [] []
 |same (p:Nat×Blk) {R R2:SH}:Ji K R R2->Ji K (p::R) (p::R2)
 |box {b n:Nat} {r r':List AV} {R R2:SH}:eP K r r'->Ji K R R2->Ji K ((b,⟨n,[r]⟩)::R) ((b,⟨n,[r']⟩)::R2)
def az.blks{vs E:List AV}{L K R R2:SH}(M:L.Perm (K++R))(h:Ji K R R2)(Y:vs=E):az vs L E R2:=by
 subst Y;refine⟨K,R,M,⟨rfl,λi a a2 u B=>by rw[u]at B;cases B;exact .refl _⟩,?_,?_⟩
 .clear M
  induction h with
  |nil=>rfl
  |same p h D=>simp[D]
  |box u h D=>simp[D]
 .clear M
  induction h with
  |nil=>intro i p q u;simp at u
  |same p h D=>
   intro i x y u B
   match i with
   |0=>cases u;cases B;exact⟨rfl,rfl,rfl,λj r O N G=>by rw[N]at G;cases G;exact⟨rfl,λk a a2 h5 S=>by rw[h5]at S;cases S;exact .refl _⟩⟩
   |i+1=>exact D i x y (by simpa using u) (by simpa using B)
  |box Z h D=>
   intro i x y u B
   match i with
   |0=>cases u;cases B;exact⟨rfl,rfl,rfl,λj r O N G=>(cZ Z j r O N G).at_⟩
   |i+1=>exact D i x y (by simpa using u) (by simpa using B)
def Jj{L R K:SH}(h:uo L R K)(j:K=[]:=by rfl):L.Perm ([]++R):=by subst j;exact h.perm
def LT(t:List UInt8)(ht:t.length<2^40):ac Tryz.prog 25 [.lst (t.map fL)] [] λv K=>∃p:bU,v=.agg p.enc/\K=[]/\p.wt<=200000/\p.decls=bM:=by
 refine ac.fz (xl _ _ _ ?_);refine vw ?_;generalize hQ:(λ(v:AV) (L:SH)=>∃v2 L2,az [v] L [v2] L2/\∃p:bU,v2=.agg p.enc/\L2=[]/\p.wt<=200000/\p.decls=bM)=Q;have hq:∀(p:bU) (v:AV) (L:SH),Fz L v (.agg p.enc)->p.wt<=200000->p.decls=bM->Q v L:=λp v L h1 h2 h3=>by subst hQ;exact⟨_,_,az.all h1,p,rfl,rfl,h2,h3⟩
 clear hQ
 repeat' (first|refine g9 (qW (c:=((2+_:Nat):Int)) ?_ (S7 UW))|refine st ?_|(refine pf 55 ?_;refine pm (tS) ?_)|((with_reducible refine bb 56 ?_);(refine fS (t:=t) (a:=0) ht (TG _) rp (λu a_ hr_ ha_=>?_)))|refine sb λj E=>?_|refine s2 (λh=>?_) λh=>?_|fail)
 rename_i M hb0 bt hbt bm hbm G hbp;refine bz (β:=Nat×Int×Int×Bool×Bool×Bool×Bool×Option Nat×List bv×Option Nat×List ai) (2+u) (λi ⟨a,th,le,se,Z,at_,lo,o,S,N,ts⟩=>([.ptr M 0 0,.ptr bm 0 0,.ptr G 0 0,.U1 ((2+u:Nat):Int),.sl j 0 4,.U1 (i:Int)],if i=2+u then PZ M G ts else PH bm bt M G j t a th le se Z at_ lo o S N ts.length ts))
  (λi ⟨a,th,le,se,Z,at_,lo,o,S,N,ts⟩=>a<=t.length/\(o=none->S=[])/\(N=none->ts=[])/\ts.length=i/\(∀x∈ts,ai.wt x<=40000)) (a_,0,20,false,false,false,false,none,[],none,[]) ⟨ha_,λ_=>rfl,λ_=>rfl,rfl,nofun⟩ ?_ ?_
 .show az _ _ _ (if 0=2+u then PZ M G []else _);rw[if_neg UW];exact az.blks (K:=[]) (R:=(bm,⟨8,[[.ptr bt 0 0,.U1 0,.U1 20,.bool false,.bool false,.bool false,.bool false,.nils]]⟩)::(bt,aZ t a_)::(M,⟨2,[[.nils,.nils]]⟩)::(G,⟨2,[[.lst (bM.map aN.enc),.nils]]⟩)::(j,⟨1,o6.map au⟩)::[]) (Jj (.one (.there _ (.there _ (.there _ (.here _)))) (.one (.there _ (.here _)) (.one (.there _ (.there _ (.here _))) (.one (.there _ (.here _)) (.one (.here _) (.nil _))))))) (.box (.cons (.refl _) (.cons (.refl _) (.cons (.refl _) (.cons (.refl _) (.cons (.refl _) (.cons (.refl _) (.cons (.refl _) (.cons .nile .nil)))))))) (.same _ (.same _ (.box (.cons (.refl _) (.cons .nile .nil)) (.same _ .nil))))) rfl
 .rintro i ⟨a,th,le,se,Z,at_,lo,o,S,N,ts⟩ hi ⟨ha,ho,B,wx,O⟩;dsimp only at ha ho B wx O ⊢;rcases Nat.lt_or_eq_of_le hi with g|g
  .rw[if_neg UW];refine Jh ht ha ho B wx g UW ?_;intro x a' th' le' se' Y at' lo' o' ar' nbT L' ⟨q1,_,_⟩ q2 q3 q4 q5;have e:IntKind.i64.wrap ((i:Int)+1)=((i+1:Nat):Int):=aw g UW;rw[e]at q4 q5 ⊢;refine⟨i+1,(a',th',le',se',Y,at',lo',o',ar',some nbT,ts++[x]),UW,UW,⟨q2,q3,nofun,by simp[wx],?_⟩,?_⟩
   .intro y D;rcases Tn.1 D with D|D
    .exact O y D
    .rw[Tl.1 D];exact q1
   .dsimp only;by_cases z:i+1=2+u
    .rw[if_pos z];exact q5
    .rw[if_neg z,Tp];exact q4
  .rw[if_pos g];subst g;have hd1:decide (((2+u:Nat):Int)<((2+u:Nat):Int))=false:=by simp
   have hpw:bU.wt ⟨bM,ts⟩<=200000:=by
    have h1:(ts.map ai.wt).sum<=ts.length*40000:=by
     clear wx hi B
     induction ts with
     |nil=>simp
     |cons y l ih=>
      have:=O y (.head _);have:=ih λz hz=>O z (.tail _ hz)
      simp only[Tj,Ul,TC];omega
    have h2:(bM.map aN.wt).sum=19:=by decide
    show(bM.map aN.wt).sum+(ts.map ai.wt).sum<=200000;rw[h2];omega
   have hc1:=B9 ⟨bM,ts⟩ UW;unfold PZ;refine vw ?_
   repeat' (first|refine st ?_|(refine pf 50 ?_;refine pm (hc1) ?_)|(refine pf 55 ?_;refine pm (tS) ?_)|(refine pf 59 ?_;refine pm (Du _) ?_)|(refine pf 58 ?_;refine pm (cM _ _) ?_)|refine sb λj E=>?_|refine s2 (λh=>?_) λh=>?_|fail)
   .exact hq ⟨bM,[⟨[109,97,105,110],0,[[97],[98]],[cJ [120] (Dt 1)]⟩]⟩ _ _ (Fz.aggs (.cons (.refl _) (.cons (fm (ts:=[]) (b:=j) mm UY UY (.cons (.refl _) (.cons (.refl _) (.cons (Fz.sls (l:=[[97],[98]]) (f:=au) (size:=1) mm UY U0 UY) (.cons (Fz.sls (l:=[cJ [120] (Dt 1)]) (f:=aa.enc) (size:=11) mm (by simp[aa.enc_row]) U0 UY) .nil))))) .nil))) U0 rfl
   .exact hq ⟨bM,ts⟩ _ _ (.refl _) hpw rfl
section
section
variable {w:aG} {loc:List bv}
theorem GV(l:List aa)(hll:l.length<2^40)(h:∀i (hi:i<l.length),lN 96 [.agg l[i].row] w loc (3*l[i].wt)):lN 52 [.lst (l.map aa.enc)] w loc (3*aa.wts l):=by
 intro bg o D M N h0 hl
 refine ac.fz (rV _ _ _ _ ?_);refine vw ?_;generalize hQ:(λ(v:AV) (L:SH)=>∃v2 L2,az [v] L [v2] L2/\∃(E:Option Nat) (u:List aT) (Y next':Int),_)=Q;have fin:=vz hQ;clear hQ;refine bz l.length (λi (q:Option Nat×Int×Int×List aT)=>([.ptr bg 0 0,.lst (l.map aa.enc),.U1 i],(bg,gz w loc (aj q.1 q.2.2.2.length) q.2.1 q.2.2.1)::ab q.1 6 (q.2.2.2.map aT.enc)))
  (λi q=>(q.1=none->q.2.2.2=[])/\D.length<=q.2.2.2.length/\q.2.2.2.length<=D.length+3*aa.wts (l.take i)) (o,M,N,D) ⟨h0,Te _,TW _ _⟩ (.refl _ _) ?_
 rintro i ⟨o1,s1,n1,B⟩ hi ⟨q1,q2,q3⟩;dsimp only at q1 q2 q3 ⊢;refine vw ?_;generalize O:(λ(vs':List AV) (L':SH)=>∃j E,i<j/\j<=l.length/\_)=nx;rcases Nat.lt_or_ge i l.length with G|G
 .have hd:=aS G;have hi1:=aw G UW;have hx:=BD G;have hwi:=aa.wts_succ G;have hwt:=aa.wts_take l (i+1);have hK:=h i G;have hn:∀(E:Option Nat) (u:List aT) (Z n':Int),(E=none->u=[])->B.length<=u.length->u.length<=B.length+3*l[i].wt->nx [.ptr bg 0 0,.lst (l.map aa.enc),.U1 ((i+1:Nat):Int)] ((bg,gz w loc (aj E u.length) Z n')::([]++ab E 6 (u.map aT.enc))):=by intro E u Z n' h1 h2 h3;subst O;exact⟨i+1,(E,Z,n',u),UW,UW,⟨h1,by dsimp only;omega,by dsimp only;omega⟩,.refl _ _⟩
  clear O h;generalize l[i]=x at *
  repeat' (first|refine st ?_|((with_reducible refine bb 96 ?_);(refine du hK rp rp om an om (λo_ out_ s_ n_ ho_ hl_ hm_=>?_)))|refine sb λnb_ S=>?_|refine s2 (λh=>?_) λh=>?_|fail)
  exact hn _ _ _ _ ho_ hl_ hm_
 .have hd:=aX G;have e:i=l.length:=by omega
  subst e;rw[UQ]at q3
  repeat' (first|refine st ?_|refine sb λnb_ S=>?_|refine s2 (λh=>?_) λh=>?_|fail)
  exact fin _ _ _ _ _ _ (.one (.here _) (.slotl .last)) om an om om
theorem Nl(B:WQ w)(j:loc.length<2^40):∀(n:Nat) (l:List aa),aa.wts l<=n->n<2^27->lN 52 [.lst (l.map aa.enc)] w loc (3*aa.wts l):=by
 intro n
 induction n using Nat.strongRecOn with
 |_ n u=>
 intro l G E;refine GV l (by have:=aa.wts_len l;omega) λi D=>?_
 have N:=aa.wts_get l i D;have M:=(l[i]).wt_eq;exact(PR B j l[i] UW (u _ UW l[i].body (Te _) UW) (u _ UW l[i].els (Te _) UW)).mono UW
end
theorem ac.fzL{P:Program}{f:FuncId}{args args2:List AV}{L L2:SH}{Q:AV->SH->Prop}(hz:az args L args2 L2)(h:ac P f args2 L2 Q):ac P f args L Q:=⟨h.1,λH hb hs=>by
 obtain⟨H2,D,N,f3,f4⟩:=kV hz hs hb;obtain⟨v,H',L',h1,h2,h3⟩:=h.2 H2 D.bd D.sub;refine⟨v,H',L',λw E G hW B=>?_,D.trans (h2.low (by rw[N];exact Te _)) (Te _),h3⟩;obtain⟨g1,M,g3⟩:=f3 w E hW;refine(h1 w E G g1 (g3 G B)).mono ?_;rintro e w' ⟨O,u,rfl,k1,Z,e1,Y⟩;exact⟨O,u,rfl,k1,Z,⟨e1.os,e1.tape,e1.output,e1.size,λc j hT=>e1.keep c j (λh=>hT (M c h)),e1.shape,e1.sig,e1.eqfr,e1.frame,λc j=>(e1.own c j).imp (M c) id⟩,λc S j=>by rw[<-N];exact Y c S j⟩⟩
section
variable {n81:Kn} {x1 x2 x3 x4 x5 x6:AV} {bt bg k:Nat} {v:AV} {R:SH}
theorem Nm(l:List Int)(hl:l.length<2^30)(N:IntKind.i64.wrap ((k:Int)+1)=((k+1:Nat):Int))
  (M:∀a:Int,n81 [x1,x2,x3,x4,x5,x6,.ptr bt 0 0,.U1 ((k+1:Nat):Int)] ((bt,⟨2,[[.U1 a,v]]⟩)::R)) (a:Int) :
  W.loop (vq n81) [x1,x2,x3,x4,x5,x6,.ptr bt 0 0,.U1 k,.lst (l.map ah),.U1 0] ((bt,⟨2,[[.U1 a,v]]⟩)::R):=by
 refine bz (β:=Int) l.length (λj a=>([x1,x2,x3,x4,x5,x6,.ptr bt 0 0,.U1 k,.lst (l.map ah),.U1 j],(bt,⟨2,[[.U1 a,v]]⟩)::R)) (λ_ _=>True) a trivial (.refl _ _) λj a hj _=>?_
 dsimp only;refine vw ?_;generalize u:(λ(G:List AV) (L':SH)=>∃i Y,j<i/\i<=l.length/\_)=nx;rcases Nat.lt_or_ge j l.length with g|g
 .have S:=aS g;have O:=aw g UW;have Z:=am (f:=ah) g;have E:∀a:Int,nx [x1,x2,x3,x4,x5,x6,.ptr bt 0 0,.U1 k,.lst (l.map ah),.U1 ((j+1:Nat):Int)] ((bt,⟨2,[[.U1 a,v]]⟩)::R):=λa=>by subst u;exact⟨j+1,a,UW,UW,trivial,.refl _ _⟩
  clear u
  repeat' (first|refine st ?_|refine GJ ?_|refine sb λD B=>?_|refine s2 (λh=>?_) λh=>?_|fail)
  exact E _
 .have S:=aX g
  repeat' (first|refine st ?_|refine sb λD B=>?_|refine s2 (λh=>?_) λh=>?_|fail)
  exact M _
theorem Nn{n23:Kn}{w:aG}{loc:List bv}{b:Nat}{site next:Int}{M N:SH}(out:List aT)(a:Int)(hl:out.length<2^30)
  (S:∀a:Int,vt n23 ((bt,⟨2,[[.U1 a,v]]⟩)::(bg,gz w loc (aj (some b) out.length) site next)::(b,⟨6,out.map aT.enc⟩)::M) x3 (.ptr bt 0 0) x5 x1 x2 x4) :
  fE N ((bt,⟨2,[[.U1 a,v]]⟩)::(bg,gz w loc (aj (some b) out.length) site next)::(b,⟨6,out.map aT.enc⟩)::M)->W.loop (vu n23) [x1,x2,x3,x4,x5,.ptr bg 0 0,.ptr bt 0 0,.U1 0] N:=by
 intro hp;refine bz (β:=Int) out.length (λj a=>([x1,x2,x3,x4,x5,.ptr bg 0 0,.ptr bt 0 0,.U1 j],(bt,⟨2,[[.U1 a,v]]⟩)::(bg,gz w loc (aj (some b) out.length) site next)::(b,⟨6,out.map aT.enc⟩)::M)) (λ_ _=>True) a trivial (az.pick hp rfl) ?_;intro j a Y _;dsimp only;refine vw ?_;generalize u:(λ(O:List AV) (L':SH)=>∃k o',j<k/\k<=out.length/\_)=nx;rcases Nat.lt_or_ge j out.length with h|h
 .have hd:=aS h;have Z:=aw h UW;have hj:=am (f:=aT.enc) h;have E:(aO out[j]).length<2^30:=by
   generalize out[j]=i;unfold aO
   repeat' split
   all_goals simp
  have B:=Nm (n81:=nx) (x1:=x1) (x2:=x2) (x3:=x3) (x4:=x4) (x5:=x5) (x6:=.ptr bg 0 0) (bt:=bt) (v:=v) (R:=(bg,gz w loc (aj (some b) out.length) site next)::(b,⟨6,out.map aT.enc⟩)::M) (aO out[j]) E Z (λa=>by
   subst u;exact⟨j+1,a,UW,UW,trivial,.refl _ _⟩) a
  clear u
  repeat' (first|exact B|refine st ?_|(refine pf 54 ?_;refine pm (ml out[j]) ?_)|refine sb λG D=>?_|refine s2 (λh=>?_) λh=>?_|fail)
 .have hd:=aX h;clear u
  repeat' (first|exact S _|refine st ?_|refine sb λG D=>?_|refine s2 (λh=>?_) λh=>?_|fail)
end
def Sv(b19:Nat)(w:aG)(v:AV):Nat×Blk:=(b19,⟨7,[[.lst (w.cells.map aF.enc),.lst (w.locks.map bn.enc),.lst (w.conds.map bP.enc),.lst (w.futures.map au),.lst (w.threads.map au),.lst (w.sites.map bQ.enc),v]]⟩)
def N9(b2 b19:Nat)(w:aG)(oT:Option Nat)(ts:List eB):SH:=Sv b19 w (aj oT ts.length)::(b2,⟨7,[[.nils,.nils,.nils,.nils,.nils,.nils,.nils]]⟩)::ab oT 2 (ts.map eB.enc)
section
variable {n23:Kn} {b2 b19 i:Nat} {n:Int} {w:aG} {oT:Option Nat} {ts:List eB} {dl:List (List AV)} {th:List ai} {kb:Nat}
theorem No(hi:i<th.length)(hi1:IntKind.i64.wrap ((i:Int)+1)=((i+1:Nat):Int))(hT:oT=none->ts=[])(wx:ts.length<2^20)(hK:lN 52 [.lst (th[i].body.map aa.enc)] w th[i].locals kb)(hkb:kb<2^28)
  (hn:∀(Y:Nat) (S:SH) (D:Int) (O:eB),O.ins.length<2^30->az [.pptr [[.lst dl,.lst (th.map ai.enc)]] 0 0,.ptr b2 0 0,.ptr b19 0 0,.U1 D,.U1 ((i+1:Nat):Int)] S [.pptr [[.lst dl,.lst (th.map ai.enc)]] 0 0,.ptr b2 0 0,.ptr b19 0 0,.U1 D,.U1 ((i+1:Nat):Int)] (N9 b2 b19 w (some Y) (ts++[O]))->n23 [.pptr [[.lst dl,.lst (th.map ai.enc)]] 0 0,.ptr b2 0 0,.ptr b19 0 0,.U1 D,.U1 ((i+1:Nat):Int)] S) :
  vx n23 (N9 b2 b19 w oT ts) (.ptr b19 0 0) (.pptr [[.lst dl,.lst (th.map ai.enc)]] 0 0) (.U1 i) (.U1 n) (.ptr b2 0 0):=by
 have hx:=am (f:=ai.enc) hi;have G:oT=none->ts.map eB.enc=[]:=λe=>by rw[hT e];rfl
 have h00:([]:List aT).length=0:=rfl;unfold N9 Sv;refine vw ?_
 repeat' (first|refine st ?_|((with_reducible refine bb 52 ?_);(refine⟨ac.fzL (az.row (K:=[]) (rows':=(gz w th[i].locals (aj none 0) 0 n).rows) (.refl _) rfl (cZ (.cons (.refl _) (.cons (.refl _) (.cons (.refl _) (.cons (.refl _) (.cons (.refl _) (.cons (.refl _) (.cons (.refl _) (.cons .nile (.cons (.refl _) (.cons (.refl _) .nil)))))))))))) (du (o:=none) (out:=[]) (m:=0) (site:=0) (next:=n) hK rp (.here _) rfl (λ_=>rfl) om (λo_ j s_ Z ho_ E hm_=>?_)).1⟩;dsimp only[List.nil_append,List.cons_append]))|((with_reducible refine bb 53 ?_);(refine dP (site:=-1) rp rp om an om (λN j E=>?_);simp only[List.cons_append,List.append_assoc,List.nil_append,List.append_nil]))|refine sb λu B=>?_|refine s2 (λh=>?_) λh=>?_|fail)
 refine Nn (out:=j) (b:=N) (w:=w) (loc:=th[i].locals) (site:=-1) (next:=Z) (M:=(b19,⟨7,[[.lst (w.cells.map aF.enc),.lst (w.locks.map bn.enc),.lst (w.conds.map bP.enc),.lst (w.futures.map au),.lst (w.threads.map au),.lst (w.sites.map bQ.enc),aj oT ts.length]]⟩)::(b2,⟨7,[[.nils,.nils,.nils,.nils,.nils,.nils,.nils]]⟩)::ab oT 2 (ts.map eB.enc)) th[i].locals.length UW (λa=>?_) (.one (.here _) (.one (.here _) (fE.slot (o:=some N) (n:=6) (.there _ (.there _ (.skip _ _ _ .last))) (.one (.here _) (.one (.here _) (.slotl rp))))));refine vw ?_
 repeat' (first|refine st ?_|refine bA rp rp UZ (λe=>by first|simp[G e]) UY UZ (by simp;omega) (by simp;omega) UY (λu B=>?_)|refine sb λu B=>?_|refine s2 (λh=>?_) λh=>?_|fail)
 have e:N9 b2 b19 w (some u) (ts++[eB.mk a j])=[Sv b19 w (.sl u 0 (ts.length+1)),(b2,⟨7,[[.nils,.nils,.nils,.nils,.nils,.nils,.nils]]⟩)]++(u,⟨2,(ts++[eB.mk a j]).map eB.enc⟩)::[]:=by unfold N9;rw[Tp];rfl
 refine hn u _ _ (.mk a j) (by show j.length<_;omega) ?_;rw[e];refine az.rowA (rows:=ts.map eB.enc++[[.U1 a,.sl N 0 j.length]]) (.one (.there _ (.there _ (.there _ (.there _ (.there _ (.here _)))))) (.one (.there _ (.there _ (.there _ (.there _ (.there _ (.here _)))))) (.one (.here _) (.nil _)))) UZ (df (f:=eB.enc) (x:=.mk a j) (.cons (.refl _) (.cons (Fz.sls (l:=j) (f:=aT.enc) (size:=6) mm rfl U0 rfl) .nil))) rfl
end
end
def So(ts:List ai):∀(w:aG),(ts.foldl dK w).cells=w.cells/\(ts.foldl dK w).locks=w.locks/\(ts.foldl dK w).conds=w.conds/\(ts.foldl dK w).futures=w.futures/\(ts.foldl dK w).threads=w.threads++ts.map ai.name:=by
 induction ts with
 |nil=>intro w;simp
 |cons t l j=>intro w;rw[Ut];obtain⟨a,b,c,d,e⟩:=j (dK w t);exact⟨a,b,c,d,by rw[e];simp[dK]⟩
def Sp{p:bU}(M:p.decls=bM)(N:p.threads.length<=200000):WQ (kI p):=by
 obtain⟨a,b,c,d,e⟩:=So p.threads (p.decls.foldl bW aG.zero);unfold kI;have j:p.decls.foldl bW aG.zero=bM.foldl bW aG.zero:=by rw[M]
 have z:(bM.foldl bW aG.zero).cells.length=5/\(bM.foldl bW aG.zero).locks.length=3/\(bM.foldl bW aG.zero).conds.length=1/\(bM.foldl bW aG.zero).futures.length=1/\(bM.foldl bW aG.zero).threads.length=0/\sI (bM.foldl bW aG.zero).cells [113]=3:=by decide
 rw[j]at a b c d e ⊢;obtain⟨u,G,z3,E,D,B⟩:=z;refine⟨by rw[a,u];decide,by rw[b,G];decide,by rw[c,z3];decide,by rw[d,E];decide,by rw[e];simp[D];omega,3,by rw[a,u];decide,by rw[a,B];rfl⟩
def GW:∀d∈bM,(1<=d.kind/\d.kind<=6)/\d.size<=4:=by decide
def aY.pure(c:aY):bD (.agg c.enc):=.aggs (eJ (.lmap λx _=>by unfold aF.enc;exact pv) (eJ (.lmap λx _=>by unfold bn.enc;exact pv) (eJ (.lmap λx _=>by unfold bP.enc;exact pv) (eJ (.lmap λx _=>lG x) (eJ (.lmap λx _=>lG x) (eJ (.lmap λx _=>by unfold bQ.enc;exact pv) (eJ (.lmap λx _=>by unfold eB.enc;exact eJ (.int _ _) (eJ (.lmap λx _=>by unfold aT.enc;exact pv) zL)) zL)))))))
def FK(p:bU){e ln:Int}(hd:p.decls=bM)(G:aq Tryz.prog 50 [.agg p.enc] (.tup [.U1 e,.U1 ln]))(hw:p.wt<=200000):
  ∃(c:aY) (a b:Int),((∀x∈c.ts,x.ins.length<2^40)/\c.w.locks.length<2^40/\c.ts.length<2^40)/\aq Tryz.prog 24 [.agg p.enc] (.tup [.agg c.enc,.U1 a,.U1 b]):=by
 have htl:=p.threads_len
 suffices h:ac Tryz.prog 24 [.agg p.enc] [] λv K=>∃(c:aY) (a b:Int),v=.tup [.agg c.enc,.U1 a,.U1 b]/\(∀x∈c.ts,x.ins.length<2^40)/\c.w.locks.length<2^40/\c.ts.length<2^40 by obtain⟨v,K,⟨c,a,b,rfl,hc⟩,hp⟩:=h.pure pv (by rintro _ _ ⟨c,a,b,rfl,_⟩;exact .tups (eJ (aY.pure c) (eJ (.int _ _) (eJ (.int _ _) zL))));exact⟨c,a,b,hc,hp⟩
 refine ac.fz (vy _ _ _ ?_);unfold bU.enc;refine vw ?_;generalize hQ:(λ(v:AV) (L:SH)=>∃v2 L2,az [v] L [v2] L2/\∃(c:aY) (a b:Int),_)=Q;have hq:∀(c:aY) (v:AV) (a b:Int) (L:SH),Fz L v (.agg c.enc)->(∀x∈c.ts,x.ins.length<2^40)/\c.w.locks.length<2^40/\c.ts.length<2^40->Q (.tup [v,.U1 a,.U1 b]) L:=λc v a b L h h2=>by subst hQ;exact⟨_,[],az.all (.tups (.cons h (.cons (.refl _) (.cons (.refl _) .nil)))),c,a,b,rfl,h2⟩
 clear hQ;by_cases he:e=0
 case neg=>
  have d0:decide (e≠0)=true:=decide_eq_true he
  repeat' (first|refine st ?_|(refine pf 50 ?_;refine pm (G) ?_)|refine sb λu B=>?_|refine s2 (λh=>?_) λh=>?_|fail)
  exact hq ⟨⟨[],[],[],[],[],[]⟩,[]⟩ _ _ _ _ (Fz.aggs (.cons .nils (.cons .nils (.cons .nils (.cons .nils (.cons .nils (.cons .nils (.cons .nils .nil)))))))) ⟨λx D=>(T6 D).elim,U0,U0⟩
 subst he;have hW:=Jg p (by rw[hd];exact GW) G hw;have O:=Sp hd UW
 repeat' (first|refine st ?_|(refine pf 50 ?_;refine pm (G) ?_)|(refine pf 51 ?_;refine pm (hW) ?_)|refine sb λu B=>?_|refine s2 (λh=>?_) λh=>?_|fail)
 rename_i b0 hb0 b2 hb2;refine bz (β:=Option Nat×List eB×Int) p.threads.length (λi q=>([.pptr [[.lst (p.decls.map aN.enc),.lst (p.threads.map ai.enc)]] 0 0,.ptr b2 0 0,.ptr u 0 0,.U1 q.2.2,.U1 i],N9 b2 u (kI p) q.1 q.2.1)) (λi q=>(q.1=none->q.2.1=[])/\q.2.1.length=i/\∀x∈q.2.1,x.ins.length<2^40) (none,[],0) ⟨λ_=>rfl,rfl,nofun⟩ ?_ ?_
 .dsimp only;refine az.row (K:=[]) (b:=u) (n:=7) (rows:=[bu [.nils,.nils,.nils,.nils,.nils,.nils,.nils] 0 (kI p).enc]) (rows':=[[.lst ((kI p).cells.map aF.enc),.lst ((kI p).locks.map bn.enc),.lst ((kI p).conds.map bP.enc),.lst ((kI p).futures.map au),.lst ((kI p).threads.map au),.lst ((kI p).sites.map bQ.enc),.emp]]) (.refl _) rfl ?_;refine cZ ?_;show eP [] [.lst ((kI p).cells.map aF.enc),.lst ((kI p).locks.map bn.enc),.lst ((kI p).conds.map bP.enc),.lst ((kI p).futures.map au),.lst ((kI p).threads.map au),.lst ((kI p).sites.map bQ.enc),.nils] _;exact .cons (.refl _) (.cons (.refl _) (.cons (.refl _) (.cons (.refl _) (.cons (.refl _) (.cons (.refl _) (.cons .nile .nil))))))
 rintro i ⟨oT,ts,nx⟩ hi ⟨Z,wx,E⟩;dsimp only at Z wx E ⊢;refine vw ?_;generalize N:(λ(vs':List AV) (L':SH)=>∃j o',i<j/\j<=p.threads.length/\_)=nxt;rcases Nat.lt_or_ge i p.threads.length with M|M
 .have Y:=aS M;have S:=aw M UW;have hwt:=p.thread_wt M;have hwe:(p.threads[i]).wt=1+(p.threads[i]).name.length+(p.threads[i]).locals.length+((p.threads[i]).locals.map List.length).sum+aa.wts (p.threads[i]).body:=rfl;have hK:=Nl (loc:=p.threads[i].locals) O UW _ p.threads[i].body (Te _) UW;have hr:=No (n23:=nxt) (b2:=b2) (b19:=u) (n:=nx) (dl:=p.decls.map aN.enc) (oT:=oT) (ts:=ts) M S Z UW hK UW (λnb L' n2 tc h1 hz=>by
   subst N;refine⟨i+1,(some nb,ts++[tc],n2),UW,UW,⟨nofun,by simp[wx],λx D=>?_⟩,hz⟩;rcases Tn.1 D with D|D
   .exact E x D
   .rw[Tl.1 D];omega)
  clear N;generalize hL:N9 b2 u (kI p) oT ts=LW at *
  repeat' (first|exact hr|refine st ?_|refine sb λu B=>?_|refine s2 (λh=>?_) λh=>?_|fail)
 .have Y:=aX M;unfold N9 Sv
  repeat' (first|refine st ?_|refine sb λu B=>?_|refine s2 (λh=>?_) λh=>?_|fail)
  refine a8 (.there _ (.here _)) rfl rfl (by simp[vC];exact⟨rfl,rfl,rfl,rfl,rfl,rfl⟩) rfl ?_
  repeat' (first|refine st ?_|refine sb λu B=>?_|refine s2 (λh=>?_) λh=>?_|fail)
  exact hq ⟨kI p,ts⟩ _ _ _ _ (Fz.aggs (.cons (.refl _) (.cons (.refl _) (.cons (.refl _) (.cons (.refl _) (.cons (.refl _) (.cons (.refl _) (.cons (Af Z U0 λq h=>.tail _ (.tail _ h)) .nil)))))))) ⟨E,O.l,by show ts.length<_;omega⟩
def GX(s:UInt8):∀a∈fL s,bD a:=λa h=>by rw[Tl.1 h];exact .int _ _
def Jk(t:List UInt8)(ht:t.length<2^40):∃c:aY,aq Tryz.prog 7 [.lst (t.map fL)] (.agg c.enc)/\(∀x∈c.ts,x.ins.length<2^40)/\c.w.locks.length<2^40/\c.ts.length<2^40:=by
 obtain⟨v,K,⟨p,rfl,rfl,M,O⟩,hprog⟩:=(LT t ht).pure (eJ (.lmap λx _=>GX x) zL) (λu K ⟨p,Z,_⟩=>by rw[Z];exact p.pure);obtain⟨c,a,b,S,Y⟩:=FK p O (B9 p UW) M;refine⟨c,?_,S⟩;refine ac.fz (Ds _ _ _ ?_);refine vw ?_;generalize D:(λ(v:AV) (L:SH)=>∃j E,az [v] L [j] E/\j=AV.agg c.enc/\E=[])=Q;have N:∀L,Q (.agg c.enc) L:=λL=>by subst D;exact⟨_,[],az.all (.refl _),rfl,rfl⟩
 clear D
 repeat' (first|refine st ?_|(refine pf 25 ?_;refine pm (hprog) ?_)|(refine pf 24 ?_;refine pm (Y) ?_)|refine sb λG B=>?_|refine s2 (λh=>?_) λh=>?_|fail)
 exact N _
def Jl(t s:List UInt8):aq Tryz.prog 3 [.lst (t.map fL),.lst (s.map fL)] (.bool true):=LE t s λh=>(Jk t h).imp λc h=>⟨h.1,h.2.1⟩
section
open Go.ChangeShapes Go.WideShapes Go.ChangeAt Go.RowKit
def Jm:bF:=⟨λ_=>none,λ_=>False⟩
def Jn:Nat->Prop:=λ_=>False
def Sw{α:Type}(e:α->List AV)(G:α->Prop):Rel α:=λw _ x cs=>G x/\eK w Jm Jn (e x) cs
theorem FL{w:World}{σ:bF}{T:Nat->Prop}{a:AV}{v:Value}(h:bq w σ T a v):eK w σ T [a] [v]:=⟨rfl,λi x u j B=>by
 match i with
 |0=>cases j;cases B;exact h
 |i+1=>simp at j⟩
theorem Ce{w:World}{σ:bF}{T:Nat->Prop}{a:AV}{v:Value}{l:List AV}{m:List Value}(h:eK w σ T [a] [v])(j:eK w σ T l m):eK w σ T (a::l) (v::m):=⟨by simp[j.1],λi x u D B=>by
 match i with
 |0=>exact h.2 0 x u D B
 |i+1=>exact j.2 i x u (by simpa using D) (by simpa using B)⟩
theorem LU{w:World}{σ:bF}{T:Nat->Prop}:eK w σ T [] []:=⟨rfl,λi x u j B=>by simp at j⟩
section
variable {H:Type} {enc:TypeId×Value->H} {P:Program} {w:World} {base:Nat} {spare:Nat->Bool} {held:Bool}
theorem Qa{t:TypeId}{k:IntKind}(ht:P.underlying t=some (.int k)):Opens H enc P w base spare held t (Sw (λn:Int=>[.int k n]) λn=>(Lit.int k n).wf=true):=λj B x h=>by obtain⟨n,rfl,u⟩:=opens_int ht j B x h;exact⟨n,u,FL (.int k n)⟩
theorem LV{α:Type}{t e:TypeId}{size:Nat}{f:α->List AV}{G:α->Prop}(ht:P.underlying t=some (.slice e))(hc:P.cellsOf e=size)(hs:0<size)(he:Opens H enc P w base spare held e (Sw f G)):
  Opens H enc P w base spare held t (Sw (λl:List α=>[.lst (l.map f)]) λl=>l.length<=maxLen/\∀x∈l,G x):=λS cs x h=>by
 obtain⟨l,A,c,rfl,h1,h2,h3⟩:=opens_slice ht hc hs he S cs x h;refine⟨l,⟨UW,λx M=>?_⟩,FL ?_⟩
 .obtain⟨i,hi,rfl⟩:=Ur M;obtain⟨b,o,_,_,B⟩:=h3 UW;obtain⟨E,_,hR,_⟩:=B i l[i] (Td hi);exact hR.1
 .rcases Ug l.length with Y|Y
  .have:l=[]:=T9.1 Y;subst this;exact .lst0 A c h2
  .obtain⟨b,o,rfl,hb,B⟩:=h3 Y;have:=bq.lst (w:=w) (σ:=Jm) (T:=Jn) (l.map f) b o size c ⟨λh=>h,λi r D=>?_,λi j hi hj=>?_,hs,by simpa using Y⟩ (by simpa using h1) h2 (λi r j a u D ha hu=>?_)
   .simpa using this
   .rw[Tw]at D;cases M:l[i]? with
    |none=>rw[M]at D;cases D
    |some y=>rw[M]at D;cases D;obtain⟨E,k1,N,_⟩:=B i y M;rw[N.2.1,k1]
   .have hi':i<l.length:=by simpa using hi
    obtain⟨E,k1,N,Z⟩:=B i l[i] (Td hi');exact⟨E[j],Z j _ (Td UW)⟩
   .rw[Tw]at D;cases M:l[i]? with
    |none=>rw[M]at D;cases D
    |some y=>
     rw[M]at D;cases D;obtain⟨E,k1,N,Z⟩:=B i y M;have hj:j<E.length:=by rw[<-N.2.1];exact aA ha
     have O:=Z j _ (Td hj);rw[hu]at O;cases O;exact N.2.2 j a _ ha (Td hj)
end
theorem Jo{P:Program}{f:FuncId}{args:List AV}{vs:List Value}(h:aq P f args (.bool true))(w:World)(O:eK w Jm Jn args vs)(hG:io w Jn:=by exact λg r h=>by cases h):Calls P f vs.toArray w λe w'=>e=.returned (.bool true)/\Below w.heap.size w w':=by
 obtain⟨v,H',L',h1,h2,rfl,rfl⟩:=h.2 ae.empty (λb _=>db b) ⟨List.nodup_nil,λp hp=>by simp at hp⟩;have j:aQ Jm ae.empty=Jn:=by
  funext c;apply propext;constructor
  .rintro(h|⟨b,x,D,E,_,_⟩)
   .exact h
   .rw[db]at E;cases E
  .exact λh=>h.elim
 have Z:bB w Jm ae.empty:=⟨λb D u=>(by cases u),λb D u=>(by cases u),λb x u=>(by rw[db]at u;cases u),λc Y=>Y.elim,λb b' x x' D M u=>(by rw[db]at u;cases u),by rw[j];exact hG⟩;refine(h1 w Jm vs Z (by rw[j];exact O)).mono ?_;rintro e w' ⟨v',G,rfl,N,k2,B,_⟩;cases N;rw[j]at B;exact⟨rfl,B.os,B.tape,B.output,B.size,λk S=>B.keep k S λh=>h⟩
end
section
open Go.ChangeShapes Go.WideShapes Go.ChangeAt Go.RowKit
def Sx(n:Int):List AV:=[.int .u8 n]
def S9(l:List Int):List UInt8:=l.map λx=>UInt8.ofNat x.toNat
theorem Oa{x:Int}(h:(Lit.int .u8 x).wf=true):0<=x/\x<256:=by
 simp only[Lit.wf,Ty,decide_eq_true_eq]at h;have u:IntKind.u8.min=0:=by decide
 have j:IntKind.u8.max=255:=by decide
 omega
theorem HW{l:List Int}(h:∀x∈l,0<=x/\x<256):(S9 l).map fL=l.map Sx:=by
 unfold S9;rw[List.map_map];refine List.map_congr_left λx j=>?_
 have:=h x j;show [AV.int .u8 (((UInt8.ofNat x.toNat).toNat:Nat):Int)]=[AV.int .u8 x];rw[UInt8.toNat_ofNat_of_lt' (by show x.toNat<256;omega),Int.toNat_of_nonneg this.1]
section
variable {H:Type} {enc:TypeId×Value->H} {w:World} {base:Nat} {spare:Nat->Bool} {held:Bool}
theorem LX:Opens H enc Tryz.prog w base spare held 22 (Sw (λl:List Int=>[.lst (l.map Sx)]) λl=>l.length<=maxLen/\∀x∈l,(Lit.int .u8 x).wf=true):=
 LV (size:=1) Tryz.underlying22 (by kernel_rfl) U0 (Qa (by kernel_rfl))
end
end
section
open Go.ChangeShapes Go.WideShapes Go.ChangeAt Go.RowKit
def LY{H:Type}{enc:TypeId×Value->H}{P:Program}{w:World}{base:Nat}{j:Nat->Bool}{B:Bool}{fuel:Nat}{t e:TypeId}{n:Nat}{cs:List Value}{ds:List (DataW H)}{q:List MemPlace}(ht:P.underlying t=some (.array n e))(Y:P.cellsOf e=1)(Z:P.cellsOf t=n)(h:DataW.trod enc P w base j B fuel t cs=some (.agg ds,q)){i:Nat}{d:DataW H}(E:ds[i]? =some d):
  ∃m c y,cs[i]? =some c/\DataW.trod enc P w base j B m e [c]=some (d,y):=by
 obtain⟨xs,m,_,N,hl,G,M⟩:=DataW.trod_array ht h;simp only[Prod.mk.injEq,DataW.agg.injEq]at N;rw[N.1,Tw]at E;cases u:xs[i]? with
 |none=>rw[u]at E;cases E
 |some x=>
  rw[u]at E;cases E;have S:i<n:=by rw[<-G];exact(T4.1 u).1
  have D:i<cs.length:=by omega
  have O:=M i S;rw[Y,Nat.mul_one,u,Uu D,List.take_succ_cons,List.take_zero]at O;exact⟨m,cs[i],x.2,Td D,O⟩
def Np{P:Program}{w:World}{fuel:Nat}{t e:TypeId}{n:Nat}{cs:Array Value}{l:List Int}{q:List MemPlace}{g:Nat}{M:String}(S:P.globalNamed M=some g)(N:w.var? P M=some cs)(ht:P.underlying t=some (.array n e))(Z:P.cellsOf e=1)(O:P.cellsOf t=n)(Y:P.underlying e=some (.int .i64))(h:DataW.trod (λ_=>()) P w 0 (λ_=>true) false fuel t cs.toList=some (.agg (l.map λn=>.lit (.int .i64 n)),q))(j:Nat)(a:AV)(B:(l.map λn=>AV.int .i64 n)[j]? =some a):∃u,w.cell? ⟨g,j,none⟩=some u/\DE u=some a:=by
 rw[Tw]at B;cases E:l[j]? with
 |none=>rw[E]at B;cases B
 |some v=>
  rw[E]at B;cases B;obtain⟨m,c,y,G,D⟩:=LY ht Z O h (i:=j) (d:=.lit (.int .i64 v)) (by rw[Tw,E];rfl);obtain⟨k,e1,e2,_⟩:=DataW.trod_int Y D;simp only[List.cons.injEq,and_true]at e1;simp only[Prod.mk.injEq,DataW.lit.injEq,Lit.int.injEq,true_and]at e2;refine⟨c,?_,?_⟩
  .rw[World.var?_cell S N j,<-TN,G]
  .rw[e1,<-e2.1];rfl
def Nq{P:Program}{w:World}{fuel:Nat}{t e:TypeId}{n:Nat}{cs:Array Value}{l:List (List UInt8)}{q:List MemPlace}{g:Nat}{M:String}(S:P.globalNamed M=some g)(N:w.var? P M=some cs)(ht:P.underlying t=some (.array n e))(Z:P.cellsOf e=1)(O:P.cellsOf t=n)(Y:P.underlying e=some .string)(h:DataW.trod (λ_=>()) P w 0 (λ_=>true) false fuel t cs.toList=some (.agg (l.map λn=>.lit (.string n)),q))(j:Nat)(a:AV)(B:(l.map AV.str)[j]? =some a):∃u,w.cell? ⟨g,j,none⟩=some u/\DE u=some a:=by
 rw[Tw]at B;cases E:l[j]? with
 |none=>rw[E]at B;cases B
 |some v=>
  rw[E]at B;cases B;obtain⟨m,c,y,G,D⟩:=LY ht Z O h (i:=j) (d:=.lit (.string v)) (by rw[Tw,E];rfl);obtain⟨k,e1,e2,_⟩:=DataW.trod_string Y D;simp only[List.cons.injEq,and_true]at e1;simp only[Prod.mk.injEq,DataW.lit.injEq,Lit.string.injEq]at e2;refine⟨c,?_,?_⟩
  .rw[World.var?_cell S N j,<-TN,G]
  .rw[e1,e2.1];rfl
def Sq:(Tryz.prog.globals[1]?).map (·.type)=some 251:=by kernel_rfl
def Qb:(Tryz.prog.globals[0]?).map (·.type)=some 151:=by kernel_rfl
def Sr : Tryz.prog.globalNamed "interleave/token.keywords" = some 1 := by kernel_rfl
def Qc : Tryz.prog.globalNamed "interleave/run.kinds" = some 0 := by kernel_rfl
def Nr {W : World} (h : laidMetH Tryz.prog [("interleave/token.keywords", Rows.laid_interleave_token_keywords), ("interleave/run.kinds", Rows.laid_interleave_run_kinds)] W) : io W Jn := by
 rw[MakeChecks.laidMetH_plain _ _ _ (by kernel_rfl)]at h;obtain⟨ps,⟨g0,t0,cs0,f0,p0,q0,hg0,ht0,hv0,hd0,⟨g1,t1,cs1,f1,p1,q1,hg1,ht1,hv1,hd1,_,_⟩,_⟩,_,_⟩:=h;obtain rfl:=UL (Sr.symm.trans hg0);obtain rfl:=UL (Qc.symm.trans hg1);obtain rfl:=UL (Sq.symm.trans ht0);obtain rfl:=UL (Qb.symm.trans ht1);intro g r hg;unfold St at hg;split at hg
 .rename_i e;subst e;cases hg;exact⟨λh=>h,U0,Np hg1 hv1 Tryz.underlying151 (by kernel_rfl) (by kernel_rfl) Tryz.underlying3 hd1⟩
 .split at hg
  .rename_i e;subst e;cases hg;exact⟨λh=>h,U0,Nq hg0 hv0 Tryz.underlying251 (by kernel_rfl) (by kernel_rfl) Tryz.underlying9 hd0⟩
  .cases hg
end
end Go.Proofs.YtbofdbhnbodbiaaGreatDoor.Am
