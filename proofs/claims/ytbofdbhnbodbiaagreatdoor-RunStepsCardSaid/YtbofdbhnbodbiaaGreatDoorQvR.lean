/- RunSteps: Start, Pending, Enabled and Step give what the reference gives, step by step: the law returns true for every input. The two package-level tables start as the program's text lays them (the card ties them). -/
import Derived.Test.YtbofdbhnbodbiaaGreatDoorQvQ
import Derived.SizedLaws
import Derived.Test.YtbofdbhnbodbiaaGreatDoorRows
import Derived.OpenShut
import Derived.MakeChecks
import Derived.FnData
import Derived.Test.YtbofdbhnbodbiaaGreatDoorChecked
import Derived.Test.YtbofdbhnbodbiaaGreatDoorTie
import Derived.Test.YtbofdbhnbodbiaaGreatDoorCards
import Derived.ProofKit
import Derived.LaidMore
import Derived.Stop.Joined
set_option linter.all false
set_option maxRecDepth 100000
set_option maxHeartbeats 20000000
namespace Go.Proofs.YtbofdbhnbodbiaaGreatDoor.Am
@[irreducible] def JJ (n23:Kn) (v:List AV) (L:SH):Prop:=du n23 v L
def Nx{n23:Kn}{v:List AV}{L:SH}(h:JJ n23 v L):du n23 v L:=by unfold JJ at h;exact h
def Ny{n23:Kn}{v:List AV}{L:SH}(h:du n23 v L):JJ n23 v L:=by unfold JJ;exact h
def Hu(r:Nat):(oP.getD r []).length<=4:=by
 rcases r with _|_|_|_|r
 all_goals simp[oP]
def Pq{n23:Kn}{bm bt S N u O E a n:Nat}{t:List UInt8}{th le:Int}{se tx at_ lo:Bool}{o oT:Option Nat}{ar:List bu}{ts:List ai}{Y:bu}{m:Nat}(hn4:n<=4)(h1:1<=n)
  (hj:∀(B:Option Nat) (ps:List (List AV×aa)),(B=none->ps=[])->ps.length<=4->fS ps->aa.wts (ps.map Prod.snd)<=100->JJ n23 [.ptr S 0 0,.ptr bm 0 0,.ptr N 0 0,.Uf n,.sl u 0 4,.Uf ((0:Nat):Int),.ptr O 0 0] ((O,⟨4,[[.str Y,.Uf 0,.sl E 0 2,aj B ps.length]]⟩)::(E,⟨1,[[.str [97]],[.str [98]]]⟩)::(bm,bI bt th le se tx at_ lo o 0)::(bt,aY t a)::(S,⟨2,[[.nils,.nils]]⟩)::(N,⟨2,[[.lst (bM.map aM.enc),aj oT m]]⟩)::(u,⟨1,oP.map au⟩)::(ab B 11 (ps.map Prod.fst)++(ab oT 4 (ts.map ai.enc)++ab o 1 (ar.map au))))) :
  W.loop (wS (du n23)) [.ptr S 0 0,.ptr bm 0 0,.ptr N 0 0,.Uf n,.sl u 0 4,.Uf ((0:Nat):Int),.ptr O 0 0,.Uf 1] ((O,⟨4,[[.str Y,.Uf 0,.sl E 0 2,.nils]]⟩)::(E,⟨1,[[.str [97]],[.str [98]]]⟩)::(bm,bI bt th le se tx at_ lo o 0)::(bt,aY t a)::(S,⟨2,[[.nils,.nils]]⟩)::(N,⟨2,[[.lst (bM.map aM.enc),aj oT m]]⟩)::(u,⟨1,oP.map au⟩)::(ab oT 4 (ts.map ai.enc)++ab o 1 (ar.map au))):=by
 refine bD (β:=Option Nat×List (List AV×aa)) (n-1) (λj ⟨B,ps⟩=>([.ptr S 0 0,.ptr bm 0 0,.ptr N 0 0,.Uf n,.sl u 0 4,.Uf ((0:Nat):Int),.ptr O 0 0,.Uf ((j+1:Nat):Int)],(O,⟨4,[[.str Y,.Uf 0,.sl E 0 2,aj B j]]⟩)::(E,⟨1,[[.str [97]],[.str [98]]]⟩)::(bm,bI bt th le se tx at_ lo o 0)::(bt,aY t a)::(S,⟨2,[[.nils,.nils]]⟩)::(N,⟨2,[[.lst (bM.map aM.enc),aj oT m]]⟩)::(u,⟨1,oP.map au⟩)::(ab B 11 (ps.map Prod.fst)++(ab oT 4 (ts.map ai.enc)++ab o 1 (ar.map au)))))
  (λj ⟨B,ps⟩=>(B=none->ps=[])/\ps.length=j/\fS ps/\aa.wts (ps.map Prod.snd)<=10*j) (none,[]) ⟨λ_=>rfl,rfl,fS.mk nofun nofun,SL _⟩ ?_ ?_
 .refine az.row (R:=_) (K:=[]) (rows:=[[.str Y,.Uf 0,.sl E 0 2,.nils]]) (rows':=[[.str Y,.Uf 0,.sl E 0 2,aj none 0]]) (.refl _) Uc (λj r r' q1 q2=>?_)
  match j with
   |0=>cases q1;cases q2;exact .cons (.refl _) (.cons (.refl _) (.cons (.refl _) (.cons .nile .nil)))
   |j+1=>simp at q1
 rintro j ⟨B,ps⟩ hjn ⟨M,hl,hg,hw⟩;dsimp only at M hl hg hw ⊢;refine vw ?_;generalize Z:(λ(vs':List AV) (L':SH)=>_)=nx;subst hl;rcases Nat.lt_or_ge (ps.length+1) n with g|g
 .have hd1:=aW g;have hi1:=ax g Ua;unfold bI lz
  repeat' (first|refine st ?_|refine eW (l:=oP) ?_ mm rfl (by simp[oP];omega)|refine dN ?_ Ua|refine bF rp rp Ud (λe=>by first|simp[M e]) Uc Ud (by simp;omega) (by simp;omega) Uc (λD G=>?_)|refine sb λD G=>?_|refine s2 (λh=>?_) λh=>?_|fail)
  subst Z;have hnl:=Hu (ps.length+1);generalize oP.getD (ps.length+1) []=w at hnl ⊢;refine⟨ps.length+1,(some D,ps++[(AU 12 w,kv 12 w)]),Ua,Ua,⟨nofun,Ud,hg.raw 12 w,?_⟩,az.pickE (R:=(O,_)::(E,_)::(bm,_)::(bt,_)::(S,_)::(N,_)::(u,_)::(D,⟨11,ps.map Prod.fst++[AU 12 w]⟩)::(ab oT 4 (ts.map ai.enc)++ab o 1 (ar.map au))) (.one (.there _ (.there _ (.here _))) (.one (.there _ (.there _ (.here _))) (.one (.there _ (.there _ (.here _))) (.one (.there _ (.there _ (.here _))) (.one (.there _ (.there _ (.here _))) (.one (.there _ (.there _ (.here _))) (.one (.there _ (.there _ (.here _))) (.one (.here _) (.slot (.there _ (.here _)) (.slotl (.there _ .last))))))))))) rfl ?_⟩
  .rw[LT,iL];simp only[Sx,S6,kv,wz,S2];omega
  .dsimp only;rw[List.map_append];rfl
 .have hd1:=aX g;clear Z;unfold bI lz at *
  repeat' (first|(with_reducible refine Nx ?_)|refine st ?_|refine sb λD G=>?_|refine s2 (λh=>?_) λh=>?_|fail)
  exact hj B ps M Ua hg Ua
def lF{b c:Nat}{L:SH}{y:Blk}(h:¬b∈SH.names L)(j:(c,y)∈L):b≠c:=λe=>h (by subst e;exact Tl.2 ⟨_,j,rfl⟩)
def Fb{o:Option Nat}{b n:Nat}{rows:List (List AV)}(h:o=some b):(b,(⟨n,rows⟩:Blk))∈ab o n rows:=by subst h;exact .head _
def II{Q:R}{n23:Kn}{bm bt E D u a n i:Nat}{t:List UInt8}{th le:Int}{se tx at_ lo:Bool}{o oT:Option Nat}{ar:List bu}{ts:List ai}
  (ht:t.length<2^40) (ha:a<=t.length) (ho:o=none->ar=[]) (G:oT=none->ts=[]) (vS:ts.length=i) (hi:i<n) (hn4:n<=4)
  (hn:∀(x:ai) (a':Nat) (O le':Int) (S N at' Z:Bool) (o':Option Nat) (M:List bu) (Y:Nat) (L':SH),(ai.wt x<=40000/\x.name=oP.getD i []/\x.locals=[[97],[98]])->a'<=t.length->(o'=none->M=[])->az [.ptr E 0 0,.ptr bm 0 0,.ptr D 0 0,.Uf n,.sl u 0 4,.Uf (IntKind.i64.wrap ((i:Int)+1))] L' [.ptr E 0 0,.ptr bm 0 0,.ptr D 0 0,.Uf n,.sl u 0 4,.Uf (IntKind.i64.wrap ((i:Int)+1))] (PH bm bt E D u t a' O le' S N at' Z o' M (some Y) (ts.length+1) (ts++[x]))->az [.ptr E 0 0,.ptr bm 0 0,.ptr D 0 0,.Uf n,.sl u 0 4,.Uf (IntKind.i64.wrap ((i:Int)+1))] L' [.ptr E 0 0,.ptr bm 0 0,.ptr D 0 0,.Uf n,.sl u 0 4,.Uf (IntKind.i64.wrap ((i:Int)+1))] (PZ E D (ts++[x]))->n23 [.ptr E 0 0,.ptr bm 0 0,.ptr D 0 0,.Uf n,.sl u 0 4,.Uf (IntKind.i64.wrap ((i:Int)+1))] L') :
  wT Q [.ptr E 0 0,.ptr bm 0 0,.ptr D 0 0,.Uf n,.sl u 0 4,.Uf (i:Int)] (PH bm bt E D u t a th le se tx at_ lo o ar oT ts.length ts) n23:=by
 have hd1:=aW hi;unfold PH bI lz;refine vw ?_;rcases i with _|i
 .repeat' (first|refine st ?_|refine eW (l:=oP) ?_ mm rfl (by simp[oP])|refine dN ?_ Ua|refine sb λB j=>?_|refine s2 (λh=>?_) λh=>?_|fail)
  have f1:B≠bm:=lF j (.tail _ (.head _));have f2:B≠bt:=lF j (.tail _ (.tail _ (.head _)));have f3:∀b,o=some b->B≠b:=λb e=>lF j (.tail _ (.tail _ (.tail _ (.tail _ (.tail _ (.tail _ (SP _ (Fb e))))))))
  exact Pq hn4 Ua λoB ps hoB hps hg hw=>Ny (Pn ht ha ho G hoB Ua hps f1 f2 f3 hg Ue hw hn)
 .have hz:decide (((i+1:Nat):Int)=0)=false:=by simp;omega
  repeat' (first|(with_reducible refine Nx ?_)|refine st ?_|refine eW (l:=oP) ?_ mm rfl (by simp[oP];omega)|refine dN ?_ Ua|refine sb λB j=>?_|refine s2 (λh=>?_) λh=>?_|fail)
  have f1:B≠bm:=lF j (.tail _ (.head _));have f2:B≠bt:=lF j (.tail _ (.tail _ (.head _)));have f3:∀b,o=some b->B≠b:=λb e=>lF j (.tail _ (.tail _ (.tail _ (.tail _ (.tail _ (.tail _ (SP _ (Fb e))))))))
  exact Ny (Pp ht ha ho G Ua f1 f2 f3 (Hu (i+1)) hz hn)
def So{r:Nat}(h:r<100):IntKind.i64.wrap (2+(r:Int))=((2+r:Nat):Int):=by rw[Te _ Ua];omega
inductive IJ (K:SH):SH->SH->Prop where
 |nil:IJ K [] []
 |same (p:Nat×Blk) {R R2:SH}:IJ K R R2->IJ K (p::R) (p::R2)
 |box {b n:Nat} {r r':List AV} {R R2:SH}:fU K r r'->IJ K R R2->IJ K ((b,⟨n,[r]⟩)::R) ((b,⟨n,[r']⟩)::R2)
def az.blks{vs E:List AV}{L K R R2:SH}(M:L.Perm (K++R))(h:IJ K R R2)(Y:vs=E):az vs L E R2:=by
 subst Y;refine⟨K,R,M,⟨rfl,λi a a2 u B=>by rw[u]at B;cases B;exact .refl _⟩,?_,?_⟩
 .clear M
  induction h with
  |nil=>rfl
  |same p h D=>simp[D]
  |box u h D=>simp[D]
 .clear M
  induction h with
  |nil=>intro i p q u;simp at u
  |same p h D=>
   intro i x y u B
   match i with
   |0=>cases u;cases B;exact⟨rfl,rfl,rfl,λj r O N G=>by rw[N]at G;cases G;exact⟨rfl,λk a a2 h5 S=>by rw[h5]at S;cases S;exact .refl _⟩⟩
   |i+1=>exact D i x y (by simpa using u) (by simpa using B)
  |box Z h D=>
   intro i x y u B
   match i with
   |0=>cases u;cases B;exact⟨rfl,rfl,rfl,λj r O N G=>(cW Z j r O N G).at_⟩
   |i+1=>exact D i x y (by simpa using u) (by simpa using B)
def IK{L R K:SH}(h:tW L R K)(j:K=[]:=by rfl):L.Perm ([]++R):=by subst j;exact h.perm
def Li(t:List UInt8)(ht:t.length<2^40):ac Tryz.prog 25 [.lst (t.map oJ)] [] λv K=>∃p:bT,v=.agg p.enc/\K=[]/\p.wt<=200000/\p.decls=bM:=by
 refine ac.fz (wU _ _ _ ?_);refine vw ?_;generalize hQ:(λ(v:AV) (L:SH)=>∃v2 L2,az [v] L [v2] L2/\∃p:bT,v2=.agg p.enc/\L2=[]/\p.wt<=200000/\p.decls=bM)=Q;have hq:∀(p:bT) (v:AV) (L:SH),Fz L v (.agg p.enc)->p.wt<=200000->p.decls=bM->Q v L:=λp v L h1 h2 h3=>by subst hQ;exact⟨_,_,az.all h1,p,rfl,rfl,h2,h3⟩
 clear hQ
 repeat' (first|refine jt (qM (c:=((2+_:Nat):Int)) ?_ (So Ua))|refine st ?_|(refine pf 55 ?_;refine pm (tB) ?_)|((with_reducible refine bb 56 ?_);(refine fL (t:=t) (a:=0) ht (SL _) rp (λu a_ hr_ ha_=>?_)))|refine sb λj E=>?_|refine s2 (λh=>?_) λh=>?_|fail)
 rename_i M hb0 bt hbt bm hbm G hbp;refine bD (β:=Nat×Int×Int×Bool×Bool×Bool×Bool×Option Nat×List bu×Option Nat×List ai) (2+u) (λi ⟨a,th,le,se,Z,at_,lo,o,S,N,ts⟩=>([.ptr M 0 0,.ptr bm 0 0,.ptr G 0 0,.Uf ((2+u:Nat):Int),.sl j 0 4,.Uf (i:Int)],if i=2+u then PZ M G ts else PH bm bt M G j t a th le se Z at_ lo o S N ts.length ts))
  (λi ⟨a,th,le,se,Z,at_,lo,o,S,N,ts⟩=>a<=t.length/\(o=none->S=[])/\(N=none->ts=[])/\ts.length=i/\(∀x∈ts,ai.wt x<=40000)) (a_,0,20,false,false,false,false,none,[],none,[]) ⟨ha_,λ_=>rfl,λ_=>rfl,rfl,nofun⟩ ?_ ?_
 .show az _ _ _ (if 0=2+u then PZ M G []else _);rw[if_neg Ua];exact az.blks (K:=[]) (R:=(bm,⟨8,[[.ptr bt 0 0,.Uf 0,.Uf 20,.bool false,.bool false,.bool false,.bool false,.nils]]⟩)::(bt,aY t a_)::(M,⟨2,[[.nils,.nils]]⟩)::(G,⟨2,[[.lst (bM.map aM.enc),.nils]]⟩)::(j,⟨1,oP.map au⟩)::[]) (IK (.one (.there _ (.there _ (.there _ (.here _)))) (.one (.there _ (.here _)) (.one (.there _ (.there _ (.here _))) (.one (.there _ (.here _)) (.one (.here _) (.nil _))))))) (.box (.cons (.refl _) (.cons (.refl _) (.cons (.refl _) (.cons (.refl _) (.cons (.refl _) (.cons (.refl _) (.cons (.refl _) (.cons .nile .nil)))))))) (.same _ (.same _ (.box (.cons (.refl _) (.cons .nile .nil)) (.same _ .nil))))) rfl
 .rintro i ⟨a,th,le,se,Z,at_,lo,o,S,N,ts⟩ hi ⟨ha,ho,B,vS,O⟩;dsimp only at ha ho B vS O ⊢;rcases Nat.lt_or_eq_of_le hi with g|g
  .rw[if_neg Ua];refine II ht ha ho B vS g Ua ?_;intro x a' th' le' se' Y at' lo' o' ar' nbT L' ⟨q1,_,_⟩ q2 q3 q4 q5;have e:IntKind.i64.wrap ((i:Int)+1)=((i+1:Nat):Int):=ax g Ua;rw[e]at q4 q5 ⊢;refine⟨i+1,(a',th',le',se',Y,at',lo',o',ar',some nbT,ts++[x]),Ua,Ua,⟨q2,q3,nofun,by simp[vS],?_⟩,?_⟩
   .intro y D;rcases SC.1 D with D|D
    .exact O y D
    .rw[Sz.1 D];exact q1
   .dsimp only;by_cases z:i+1=2+u
    .rw[if_pos z];exact q5
    .rw[if_neg z,SD];exact q4
  .rw[if_pos g];subst g;have hd1:decide (((2+u:Nat):Int)<((2+u:Nat):Int))=false:=by simp
   have hpw:bT.wt ⟨bM,ts⟩<=200000:=by
    have h1:(ts.map ai.wt).sum<=ts.length*40000:=by
     clear vS hi B
     induction ts with
     |nil=>simp
     |cons y l ih=>
      have:=O y (.head _);have:=ih λz hz=>O z (.tail _ hz)
      simp only[Sx,Tx,SQ];omega
    have h2:(bM.map aM.wt).sum=19:=by decide
    show(bM.map aM.wt).sum+(ts.map ai.wt).sum<=200000;rw[h2];omega
   have hc1:=BJ ⟨bM,ts⟩ Ua;unfold PZ;refine vw ?_
   repeat' (first|refine st ?_|(refine pf 50 ?_;refine pm (hc1) ?_)|(refine pf 55 ?_;refine pm (tB) ?_)|(refine pf 59 ?_;refine pm (CY _) ?_)|(refine pf 58 ?_;refine pm (cK _ _) ?_)|refine sb λj E=>?_|refine s2 (λh=>?_) λh=>?_|fail)
   .exact hq ⟨bM,[⟨[109,97,105,110],0,[[97],[98]],[cI [120] (CX 1)]⟩]⟩ _ _ (Fz.aggs (.cons (.refl _) (.cons (ff (ts:=[]) (b:=j) mm Uc Uc (.cons (.refl _) (.cons (.refl _) (.cons (Fz.sls (l:=[[97],[98]]) (f:=au) (size:=1) mm Uc Ue Uc) (.cons (Fz.sls (l:=[cI [120] (CX 1)]) (f:=aa.enc) (size:=11) mm (by simp[aa.enc_row]) Ue Uc) .nil))))) .nil))) Ue rfl
   .exact hq ⟨bM,ts⟩ _ _ (.refl _) hpw rfl
section
section
variable {w:aI} {loc:List bu}
theorem Gq(l:List aa)(hll:l.length<2^40)(h:∀i (hi:i<l.length),lD 96 [.agg l[i].row] w loc (3*l[i].wt)):lD 52 [.lst (l.map aa.enc)] w loc (3*aa.wts l):=by
 intro bg o D M N h0 hl
 refine ac.fz (rH _ _ _ _ ?_);refine vw ?_;generalize hQ:(λ(v:AV) (L:SH)=>∃v2 L2,az [v] L [v2] L2/\∃(E:Option Nat) (u:List aS) (Y next':Int),_)=Q;have fin:=u3 hQ;clear hQ;refine bD l.length (λi (q:Option Nat×Int×Int×List aS)=>([.ptr bg 0 0,.lst (l.map aa.enc),.Uf i],(bg,gt w loc (aj q.1 q.2.2.2.length) q.2.1 q.2.2.1)::ab q.1 6 (q.2.2.2.map aS.enc)))
  (λi q=>(q.1=none->q.2.2.2=[])/\D.length<=q.2.2.2.length/\q.2.2.2.length<=D.length+3*aa.wts (l.take i)) (o,M,N,D) ⟨h0,Fd _,S7 _ _⟩ (.refl _ _) ?_
 rintro i ⟨o1,s1,n1,B⟩ hi ⟨q1,q2,q3⟩;dsimp only at q1 q2 q3 ⊢;refine vw ?_;generalize O:(λ(vs':List AV) (L':SH)=>∃j E,i<j/\j<=l.length/\_)=nx;rcases Nat.lt_or_ge i l.length with G|G
 .have hd:=aW G;have hi1:=ax G Ua;have hx:=Bg G;have hwi:=aa.wts_succ G;have hwt:=aa.wts_take l (i+1);have hK:=h i G;have hn:∀(E:Option Nat) (u:List aS) (Z n':Int),(E=none->u=[])->B.length<=u.length->u.length<=B.length+3*l[i].wt->nx [.ptr bg 0 0,.lst (l.map aa.enc),.Uf ((i+1:Nat):Int)] ((bg,gt w loc (aj E u.length) Z n')::([]++ab E 6 (u.map aS.enc))):=by intro E u Z n' h1 h2 h3;subst O;exact⟨i+1,(E,Z,n',u),Ua,Ua,⟨h1,by dsimp only;omega,by dsimp only;omega⟩,.refl _ _⟩
  clear O h;generalize l[i]=x at *
  repeat' (first|refine st ?_|((with_reducible refine bb 96 ?_);(refine dh hK rp rp om an om (λo_ out_ s_ n_ ho_ hl_ hm_=>?_)))|refine sb λnb_ S=>?_|refine s2 (λh=>?_) λh=>?_|fail)
  exact hn _ _ _ _ ho_ hl_ hm_
 .have hd:=aX G;have e:i=l.length:=by omega
  subst e;rw[T4]at q3
  repeat' (first|refine st ?_|refine sb λnb_ S=>?_|refine s2 (λh=>?_) λh=>?_|fail)
  exact fin _ _ _ _ _ _ (.one (.here _) (.slotl .last)) om an om om
theorem MI(B:WQ w)(j:loc.length<2^40):∀(n:Nat) (l:List aa),aa.wts l<=n->n<2^27->lD 52 [.lst (l.map aa.enc)] w loc (3*aa.wts l):=by
 intro n
 induction n using Nat.strongRecOn with
 |_ n u=>
 intro l G E;refine Gq l (by have:=aa.wts_len l;omega) λi D=>?_
 have N:=aa.wts_get l i D;have M:=(l[i]).wt_eq;exact(O7 B j l[i] Ua (u _ Ua l[i].body (Fd _) Ua) (u _ Ua l[i].els (Fd _) Ua)).mono Ua
end
theorem ac.fzL{P:Program}{f:FuncId}{args args2:List AV}{L L2:SH}{Q:AV->SH->Prop}(hz:az args L args2 L2)(h:ac P f args2 L2 Q):ac P f args L Q:=⟨h.1,λH hb hs=>by
 obtain⟨H2,D,N,f3,f4⟩:=kM hz hs hb;obtain⟨v,H',L',h1,h2,h3⟩:=h.2 H2 D.bd D.sub;refine⟨v,H',L',λw E G hW B=>?_,D.trans (h2.low (by rw[N];exact Fd _)) (Fd _),h3⟩;obtain⟨g1,M,g3⟩:=f3 w E hW;refine(h1 w E G g1 (g3 G B)).mono ?_;rintro e w' ⟨O,u,rfl,k1,Z,e1,Y⟩;exact⟨O,u,rfl,k1,Z,⟨e1.os,e1.tape,e1.output,e1.size,λc j hT=>e1.keep c j (λh=>hT (M c h)),e1.shape,e1.sig,e1.eqfr,e1.frame,λc j=>(e1.own c j).imp (M c) id⟩,λc S j=>by rw[<-N];exact Y c S j⟩⟩
section
variable {n81:Kn} {x1 x2 x3 x4 x5 x6:AV} {bt bg k:Nat} {v:AV} {R:SH}
theorem MJ(l:List Int)(hl:l.length<2^30)(N:IntKind.i64.wrap ((k:Int)+1)=((k+1:Nat):Int))
  (M:∀a:Int,n81 [x1,x2,x3,x4,x5,x6,.ptr bt 0 0,.Uf ((k+1:Nat):Int)] ((bt,⟨2,[[.Uf a,v]]⟩)::R)) (a:Int) :
  W.loop (uV n81) [x1,x2,x3,x4,x5,x6,.ptr bt 0 0,.Uf k,.lst (l.map ah),.Uf 0] ((bt,⟨2,[[.Uf a,v]]⟩)::R):=by
 refine bD (β:=Int) l.length (λj a=>([x1,x2,x3,x4,x5,x6,.ptr bt 0 0,.Uf k,.lst (l.map ah),.Uf j],(bt,⟨2,[[.Uf a,v]]⟩)::R)) (λ_ _=>True) a trivial (.refl _ _) λj a hj _=>?_
 dsimp only;refine vw ?_;generalize u:(λ(G:List AV) (L':SH)=>∃i Y,j<i/\i<=l.length/\_)=nx;rcases Nat.lt_or_ge j l.length with g|g
 .have S:=aW g;have O:=ax g Ua;have Z:=ao (f:=ah) g;have E:∀a:Int,nx [x1,x2,x3,x4,x5,x6,.ptr bt 0 0,.Uf k,.lst (l.map ah),.Uf ((j+1:Nat):Int)] ((bt,⟨2,[[.Uf a,v]]⟩)::R):=λa=>by subst u;exact⟨j+1,a,Ua,Ua,trivial,.refl _ _⟩
  clear u
  repeat' (first|refine st ?_|refine Gc ?_|refine sb λD B=>?_|refine s2 (λh=>?_) λh=>?_|fail)
  exact E _
 .have S:=aX g
  repeat' (first|refine st ?_|refine sb λD B=>?_|refine s2 (λh=>?_) λh=>?_|fail)
  exact M _
theorem MK{n23:Kn}{w:aI}{loc:List bu}{b:Nat}{site next:Int}{M N:SH}(out:List aS)(a:Int)(hl:out.length<2^30)
  (S:∀a:Int,uW n23 ((bt,⟨2,[[.Uf a,v]]⟩)::(bg,gt w loc (aj (some b) out.length) site next)::(b,⟨6,out.map aS.enc⟩)::M) x3 (.ptr bt 0 0) x5 x1 x2 x4) :
  fV N ((bt,⟨2,[[.Uf a,v]]⟩)::(bg,gt w loc (aj (some b) out.length) site next)::(b,⟨6,out.map aS.enc⟩)::M)->W.loop (uX n23) [x1,x2,x3,x4,x5,.ptr bg 0 0,.ptr bt 0 0,.Uf 0] N:=by
 intro hp;refine bD (β:=Int) out.length (λj a=>([x1,x2,x3,x4,x5,.ptr bg 0 0,.ptr bt 0 0,.Uf j],(bt,⟨2,[[.Uf a,v]]⟩)::(bg,gt w loc (aj (some b) out.length) site next)::(b,⟨6,out.map aS.enc⟩)::M)) (λ_ _=>True) a trivial (az.pick hp rfl) ?_;intro j a Y _;dsimp only;refine vw ?_;generalize u:(λ(O:List AV) (L':SH)=>∃k o',j<k/\k<=out.length/\_)=nx;rcases Nat.lt_or_ge j out.length with h|h
 .have hd:=aW h;have Z:=ax h Ua;have hj:=ao (f:=aS.enc) h;have E:(aN out[j]).length<2^30:=by
   generalize out[j]=i;unfold aN
   repeat' split
   all_goals simp
  have B:=MJ (n81:=nx) (x1:=x1) (x2:=x2) (x3:=x3) (x4:=x4) (x5:=x5) (x6:=.ptr bg 0 0) (bt:=bt) (v:=v) (R:=(bg,gt w loc (aj (some b) out.length) site next)::(b,⟨6,out.map aS.enc⟩)::M) (aN out[j]) E Z (λa=>by
   subst u;exact⟨j+1,a,Ua,Ua,trivial,.refl _ _⟩) a
  clear u
  repeat' (first|exact B|refine st ?_|(refine pf 54 ?_;refine pm (l9 out[j]) ?_)|refine sb λG D=>?_|refine s2 (λh=>?_) λh=>?_|fail)
 .have hd:=aX h;clear u
  repeat' (first|exact S _|refine st ?_|refine sb λG D=>?_|refine s2 (λh=>?_) λh=>?_|fail)
end
def RI(b19:Nat)(w:aI)(v:AV):Nat×Blk:=(b19,⟨7,[[.lst (w.cells.map aH.enc),.lst (w.locks.map bC.enc),.lst (w.conds.map bR.enc),.lst (w.futures.map au),.lst (w.threads.map au),.lst (w.sites.map bU.enc),v]]⟩)
def Nz(b2 b19:Nat)(w:aI)(oT:Option Nat)(ts:List eb):SH:=RI b19 w (aj oT ts.length)::(b2,⟨7,[[.nils,.nils,.nils,.nils,.nils,.nils,.nils]]⟩)::ab oT 2 (ts.map eb.enc)
section
variable {n23:Kn} {b2 b19 i:Nat} {n:Int} {w:aI} {oT:Option Nat} {ts:List eb} {dl:List (List AV)} {th:List ai} {kb:Nat}
theorem ML(hi:i<th.length)(hi1:IntKind.i64.wrap ((i:Int)+1)=((i+1:Nat):Int))(hT:oT=none->ts=[])(vS:ts.length<2^20)(hK:lD 52 [.lst (th[i].body.map aa.enc)] w th[i].locals kb)(hkb:kb<2^28)
  (hn:∀(Y:Nat) (S:SH) (D:Int) (O:eb),O.ins.length<2^30->az [.pptr [[.lst dl,.lst (th.map ai.enc)]] 0 0,.ptr b2 0 0,.ptr b19 0 0,.Uf D,.Uf ((i+1:Nat):Int)] S [.pptr [[.lst dl,.lst (th.map ai.enc)]] 0 0,.ptr b2 0 0,.ptr b19 0 0,.Uf D,.Uf ((i+1:Nat):Int)] (Nz b2 b19 w (some Y) (ts++[O]))->n23 [.pptr [[.lst dl,.lst (th.map ai.enc)]] 0 0,.ptr b2 0 0,.ptr b19 0 0,.Uf D,.Uf ((i+1:Nat):Int)] S) :
  uY n23 (Nz b2 b19 w oT ts) (.ptr b19 0 0) (.pptr [[.lst dl,.lst (th.map ai.enc)]] 0 0) (.Uf i) (.Uf n) (.ptr b2 0 0):=by
 have hx:=ao (f:=ai.enc) hi;have G:oT=none->ts.map eb.enc=[]:=λe=>by rw[hT e];rfl
 have h00:([]:List aS).length=0:=rfl;unfold Nz RI;refine vw ?_
 repeat' (first|refine st ?_|((with_reducible refine bb 52 ?_);(refine⟨ac.fzL (az.row (K:=[]) (rows':=(gt w th[i].locals (aj none 0) 0 n).rows) (.refl _) rfl (cW (.cons (.refl _) (.cons (.refl _) (.cons (.refl _) (.cons (.refl _) (.cons (.refl _) (.cons (.refl _) (.cons (.refl _) (.cons .nile (.cons (.refl _) (.cons (.refl _) .nil)))))))))))) (dh (o:=none) (out:=[]) (m:=0) (site:=0) (next:=n) hK rp (.here _) rfl (λ_=>rfl) om (λo_ j s_ Z ho_ E hm_=>?_)).1⟩;dsimp only[List.nil_append,List.cons_append]))|((with_reducible refine bb 53 ?_);(refine dM (site:=-1) rp rp om an om (λN j E=>?_);simp only[List.cons_append,List.append_assoc,List.nil_append,List.append_nil]))|refine sb λu B=>?_|refine s2 (λh=>?_) λh=>?_|fail)
 refine MK (out:=j) (b:=N) (w:=w) (loc:=th[i].locals) (site:=-1) (next:=Z) (M:=(b19,⟨7,[[.lst (w.cells.map aH.enc),.lst (w.locks.map bC.enc),.lst (w.conds.map bR.enc),.lst (w.futures.map au),.lst (w.threads.map au),.lst (w.sites.map bU.enc),aj oT ts.length]]⟩)::(b2,⟨7,[[.nils,.nils,.nils,.nils,.nils,.nils,.nils]]⟩)::ab oT 2 (ts.map eb.enc)) th[i].locals.length Ua (λa=>?_) (.one (.here _) (.one (.here _) (fV.slot (o:=some N) (n:=6) (.there _ (.there _ (.skip _ _ _ .last))) (.one (.here _) (.one (.here _) (.slotl rp))))));refine vw ?_
 repeat' (first|refine st ?_|refine bF rp rp Ud (λe=>by first|simp[G e]) Uc Ud (by simp;omega) (by simp;omega) Uc (λu B=>?_)|refine sb λu B=>?_|refine s2 (λh=>?_) λh=>?_|fail)
 have e:Nz b2 b19 w (some u) (ts++[eb.mk a j])=[RI b19 w (.sl u 0 (ts.length+1)),(b2,⟨7,[[.nils,.nils,.nils,.nils,.nils,.nils,.nils]]⟩)]++(u,⟨2,(ts++[eb.mk a j]).map eb.enc⟩)::[]:=by unfold Nz;rw[SD];rfl
 refine hn u _ _ (.mk a j) (by show j.length<_;omega) ?_;rw[e];refine az.rowA (rows:=ts.map eb.enc++[[.Uf a,.sl N 0 j.length]]) (.one (.there _ (.there _ (.there _ (.there _ (.there _ (.here _)))))) (.one (.there _ (.there _ (.there _ (.there _ (.there _ (.here _)))))) (.one (.here _) (.nil _)))) Ud (db (f:=eb.enc) (x:=.mk a j) (.cons (.refl _) (.cons (Fz.sls (l:=j) (f:=aS.enc) (size:=6) mm rfl Ue rfl) .nil))) rfl
end
end
def Ry(ts:List ai):∀(w:aI),(ts.foldl dH w).cells=w.cells/\(ts.foldl dH w).locks=w.locks/\(ts.foldl dH w).conds=w.conds/\(ts.foldl dH w).futures=w.futures/\(ts.foldl dH w).threads=w.threads++ts.map ai.name:=by
 induction ts with
 |nil=>intro w;simp
 |cons t l j=>intro w;rw[TL];obtain⟨a,b,c,d,e⟩:=j (dH w t);exact⟨a,b,c,d,by rw[e];simp[dH]⟩
def Rz{p:bT}(M:p.decls=bM)(N:p.threads.length<=200000):WQ (ku p):=by
 obtain⟨a,b,c,d,e⟩:=Ry p.threads (p.decls.foldl bW aI.zero);unfold ku;have j:p.decls.foldl bW aI.zero=bM.foldl bW aI.zero:=by rw[M]
 have z:(bM.foldl bW aI.zero).cells.length=5/\(bM.foldl bW aI.zero).locks.length=3/\(bM.foldl bW aI.zero).conds.length=1/\(bM.foldl bW aI.zero).futures.length=1/\(bM.foldl bW aI.zero).threads.length=0/\sh (bM.foldl bW aI.zero).cells [113]=3:=by decide
 rw[j]at a b c d e ⊢;obtain⟨u,G,z3,E,D,B⟩:=z;refine⟨by rw[a,u];decide,by rw[b,G];decide,by rw[c,z3];decide,by rw[d,E];decide,by rw[e];simp[D];omega,3,by rw[a,u];decide,by rw[a,B];rfl⟩
def Gr:∀d∈bM,(1<=d.kind/\d.kind<=6)/\d.size<=4:=by decide
def aZ.pure(c:aZ):bA (.agg c.enc):=.aggs (eF (.lmap λx _=>by unfold aH.enc;exact pv) (eF (.lmap λx _=>by unfold bC.enc;exact pv) (eF (.lmap λx _=>by unfold bR.enc;exact pv) (eF (.lmap λx _=>lu x) (eF (.lmap λx _=>lu x) (eF (.lmap λx _=>by unfold bU.enc;exact pv) (eF (.lmap λx _=>by unfold eb.enc;exact eF (.int _ _) (eF (.lmap λx _=>by unfold aS.enc;exact pv) zt)) zt)))))))
def Fc(p:bT){e ln:Int}(hd:p.decls=bM)(G:aq Tryz.prog 50 [.agg p.enc] (.tup [.Uf e,.Uf ln]))(hw:p.wt<=200000):
  ∃(c:aZ) (a b:Int),((∀x∈c.ts,x.ins.length<2^40)/\c.w.locks.length<2^40/\c.ts.length<2^40)/\aq Tryz.prog 24 [.agg p.enc] (.tup [.agg c.enc,.Uf a,.Uf b]):=by
 have htl:=p.threads_len
 suffices h:ac Tryz.prog 24 [.agg p.enc] [] λv K=>∃(c:aZ) (a b:Int),v=.tup [.agg c.enc,.Uf a,.Uf b]/\(∀x∈c.ts,x.ins.length<2^40)/\c.w.locks.length<2^40/\c.ts.length<2^40 by obtain⟨v,K,⟨c,a,b,rfl,hc⟩,hp⟩:=h.pure pv (by rintro _ _ ⟨c,a,b,rfl,_⟩;exact .tups (eF (aZ.pure c) (eF (.int _ _) (eF (.int _ _) zt))));exact⟨c,a,b,hc,hp⟩
 refine ac.fz (uZ _ _ _ ?_);unfold bT.enc;refine vw ?_;generalize hQ:(λ(v:AV) (L:SH)=>∃v2 L2,az [v] L [v2] L2/\∃(c:aZ) (a b:Int),_)=Q;have hq:∀(c:aZ) (v:AV) (a b:Int) (L:SH),Fz L v (.agg c.enc)->(∀x∈c.ts,x.ins.length<2^40)/\c.w.locks.length<2^40/\c.ts.length<2^40->Q (.tup [v,.Uf a,.Uf b]) L:=λc v a b L h h2=>by subst hQ;exact⟨_,[],az.all (.tups (.cons h (.cons (.refl _) (.cons (.refl _) .nil)))),c,a,b,rfl,h2⟩
 clear hQ;by_cases he:e=0
 case neg=>
  have d0:decide (e≠0)=true:=decide_eq_true he
  repeat' (first|refine st ?_|(refine pf 50 ?_;refine pm (G) ?_)|refine sb λu B=>?_|refine s2 (λh=>?_) λh=>?_|fail)
  exact hq ⟨⟨[],[],[],[],[],[]⟩,[]⟩ _ _ _ _ (Fz.aggs (.cons .nils (.cons .nils (.cons .nils (.cons .nils (.cons .nils (.cons .nils (.cons .nils .nil)))))))) ⟨λx D=>(Th D).elim,Ue,Ue⟩
 subst he;have hW:=IH p (by rw[hd];exact Gr) G hw;have O:=Rz hd Ua
 repeat' (first|refine st ?_|(refine pf 50 ?_;refine pm (G) ?_)|(refine pf 51 ?_;refine pm (hW) ?_)|refine sb λu B=>?_|refine s2 (λh=>?_) λh=>?_|fail)
 rename_i b0 hb0 b2 hb2;refine bD (β:=Option Nat×List eb×Int) p.threads.length (λi q=>([.pptr [[.lst (p.decls.map aM.enc),.lst (p.threads.map ai.enc)]] 0 0,.ptr b2 0 0,.ptr u 0 0,.Uf q.2.2,.Uf i],Nz b2 u (ku p) q.1 q.2.1)) (λi q=>(q.1=none->q.2.1=[])/\q.2.1.length=i/\∀x∈q.2.1,x.ins.length<2^40) (none,[],0) ⟨λ_=>rfl,rfl,nofun⟩ ?_ ?_
 .dsimp only;refine az.row (K:=[]) (b:=u) (n:=7) (rows:=[bq [.nils,.nils,.nils,.nils,.nils,.nils,.nils] 0 (ku p).enc]) (rows':=[[.lst ((ku p).cells.map aH.enc),.lst ((ku p).locks.map bC.enc),.lst ((ku p).conds.map bR.enc),.lst ((ku p).futures.map au),.lst ((ku p).threads.map au),.lst ((ku p).sites.map bU.enc),.emp]]) (.refl _) rfl ?_;refine cW ?_;show fU [] [.lst ((ku p).cells.map aH.enc),.lst ((ku p).locks.map bC.enc),.lst ((ku p).conds.map bR.enc),.lst ((ku p).futures.map au),.lst ((ku p).threads.map au),.lst ((ku p).sites.map bU.enc),.nils] _;exact .cons (.refl _) (.cons (.refl _) (.cons (.refl _) (.cons (.refl _) (.cons (.refl _) (.cons (.refl _) (.cons .nile .nil))))))
 rintro i ⟨oT,ts,nx⟩ hi ⟨Z,vS,E⟩;dsimp only at Z vS E ⊢;refine vw ?_;generalize N:(λ(vs':List AV) (L':SH)=>∃j o',i<j/\j<=p.threads.length/\_)=nxt;rcases Nat.lt_or_ge i p.threads.length with M|M
 .have Y:=aW M;have S:=ax M Ua;have hwt:=p.thread_wt M;have hwe:(p.threads[i]).wt=1+(p.threads[i]).name.length+(p.threads[i]).locals.length+((p.threads[i]).locals.map List.length).sum+aa.wts (p.threads[i]).body:=rfl;have hK:=MI (loc:=p.threads[i].locals) O Ua _ p.threads[i].body (Fd _) Ua;have hr:=ML (n23:=nxt) (b2:=b2) (b19:=u) (n:=nx) (dl:=p.decls.map aM.enc) (oT:=oT) (ts:=ts) M S Z Ua hK Ua (λnb L' n2 tc h1 hz=>by
   subst N;refine⟨i+1,(some nb,ts++[tc],n2),Ua,Ua,⟨nofun,by simp[vS],λx D=>?_⟩,hz⟩;rcases SC.1 D with D|D
   .exact E x D
   .rw[Sz.1 D];omega)
  clear N;generalize hL:Nz b2 u (ku p) oT ts=LW at *
  repeat' (first|exact hr|refine st ?_|refine sb λu B=>?_|refine s2 (λh=>?_) λh=>?_|fail)
 .have Y:=aX M;unfold Nz RI
  repeat' (first|refine st ?_|refine sb λu B=>?_|refine s2 (λh=>?_) λh=>?_|fail)
  refine a8 (.there _ (.here _)) rfl rfl (by simp[u6];exact⟨rfl,rfl,rfl,rfl,rfl,rfl⟩) rfl ?_
  repeat' (first|refine st ?_|refine sb λu B=>?_|refine s2 (λh=>?_) λh=>?_|fail)
  exact hq ⟨ku p,ts⟩ _ _ _ _ (Fz.aggs (.cons (.refl _) (.cons (.refl _) (.cons (.refl _) (.cons (.refl _) (.cons (.refl _) (.cons (.refl _) (.cons (zQ Z Ue λq h=>.tail _ (.tail _ h)) .nil)))))))) ⟨E,O.l,by show ts.length<_;omega⟩
def Gs(s:UInt8):∀a∈oJ s,bA a:=λa h=>by rw[Sz.1 h];exact .int _ _
def IL(t:List UInt8)(ht:t.length<2^40):∃c:aZ,aq Tryz.prog 7 [.lst (t.map oJ)] (.agg c.enc)/\(∀x∈c.ts,x.ins.length<2^40)/\c.w.locks.length<2^40/\c.ts.length<2^40:=by
 obtain⟨v,K,⟨p,rfl,rfl,M,O⟩,hprog⟩:=(Li t ht).pure (eF (.lmap λx _=>Gs x) zt) (λu K ⟨p,Z,_⟩=>by rw[Z];exact p.pure);obtain⟨c,a,b,S,Y⟩:=Fc p O (BJ p Ua) M;refine⟨c,?_,S⟩;refine ac.fz (CW _ _ _ ?_);refine vw ?_;generalize D:(λ(v:AV) (L:SH)=>∃j E,az [v] L [j] E/\j=AV.agg c.enc/\E=[])=Q;have N:∀L,Q (.agg c.enc) L:=λL=>by subst D;exact⟨_,[],az.all (.refl _),rfl,rfl⟩
 clear D
 repeat' (first|refine st ?_|(refine pf 25 ?_;refine pm (hprog) ?_)|(refine pf 24 ?_;refine pm (Y) ?_)|refine sb λG B=>?_|refine s2 (λh=>?_) λh=>?_|fail)
 exact N _
def IM(t:List UInt8)(l:List o9):aq Tryz.prog 4 [.lst (t.map oJ),.lst (l.map o9.enc)] (.bool true):=IE t l λh=>(IL t h).imp λc h=>⟨h.1,h.2.1⟩
section
open Go.ChangeShapes Go.WideShapes Go.ChangeAt Go.RowKit
def IN:bE:=⟨λ_=>none,λ_=>False⟩
def IP:Nat->Prop:=λ_=>False
def RA{α:Type}(e:α->List AV)(G:α->Prop):Rel α:=λw _ x cs=>G x/\eG w IN IP (e x) cs
theorem Fe{w:World}{σ:bE}{T:Nat->Prop}{a:AV}{v:Value}(h:bn w σ T a v):eG w σ T [a] [v]:=⟨rfl,λi x u j B=>by
 match i with
 |0=>cases j;cases B;exact h
 |i+1=>simp at j⟩
theorem o7{w:World}{σ:bE}{T:Nat->Prop}{a:AV}{v:Value}{l:List AV}{m:List Value}(h:eG w σ T [a] [v])(j:eG w σ T l m):eG w σ T (a::l) (v::m):=⟨by simp[j.1],λi x u D B=>by
 match i with
 |0=>exact h.2 0 x u D B
 |i+1=>exact j.2 i x u (by simpa using D) (by simpa using B)⟩
theorem Ff{w:World}{σ:bE}{T:Nat->Prop}:eG w σ T [] []:=⟨rfl,λi x u j B=>by simp at j⟩
section
variable {H:Type} {enc:TypeId×Value->H} {P:Program} {w:World} {base:Nat} {spare:Nat->Bool} {held:Bool}
theorem Gt{t:TypeId}{k:IntKind}(ht:P.underlying t=some (.int k)):Opens H enc P w base spare held t (RA (λn:Int=>[.int k n]) λn=>(Lit.int k n).wf=true):=λj B x h=>by obtain⟨n,rfl,u⟩:=opens_int ht j B x h;exact⟨n,u,Fe (.int k n)⟩
theorem Fg{α:Type}{t e:TypeId}{size:Nat}{f:α->List AV}{G:α->Prop}(ht:P.underlying t=some (.slice e))(hc:P.cellsOf e=size)(hs:0<size)(he:Opens H enc P w base spare held e (RA f G)):
  Opens H enc P w base spare held t (RA (λl:List α=>[.lst (l.map f)]) λl=>l.length<=maxLen/\∀x∈l,G x):=λS cs x h=>by
 obtain⟨l,A,c,rfl,h1,h2,h3⟩:=opens_slice ht hc hs he S cs x h;refine⟨l,⟨Ua,λx M=>?_⟩,Fe ?_⟩
 .obtain⟨i,hi,rfl⟩:=TG M;obtain⟨b,o,_,_,B⟩:=h3 Ua;obtain⟨E,_,hR,_⟩:=B i l[i] (mt hi);exact hR.1
 .rcases Ts l.length with Y|Y
  .have:l=[]:=Tp.1 Y;subst this;exact .lst0 A c h2
  .obtain⟨b,o,rfl,hb,B⟩:=h3 Y;have:=bn.lst (w:=w) (σ:=IN) (T:=IP) (l.map f) b o size c ⟨λh=>h,λi r D=>?_,λi j hi hj=>?_,hs,by simpa using Y⟩ (by simpa using h1) h2 (λi r j a u D ha hu=>?_)
   .simpa using this
   .rw[SJ]at D;cases M:l[i]? with
    |none=>rw[M]at D;cases D
    |some y=>rw[M]at D;cases D;obtain⟨E,k1,N,_⟩:=B i y M;rw[N.2.1,k1]
   .have hi':i<l.length:=by simpa using hi
    obtain⟨E,k1,N,Z⟩:=B i l[i] (mt hi');exact⟨E[j],Z j _ (mt Ua)⟩
   .rw[SJ]at D;cases M:l[i]? with
    |none=>rw[M]at D;cases D
    |some y=>
     rw[M]at D;cases D;obtain⟨E,k1,N,Z⟩:=B i y M;have hj:j<E.length:=by rw[<-N.2.1];exact aA ha
     have O:=Z j _ (mt hj);rw[hu]at O;cases O;exact N.2.2 j a _ ha (mt hj)
theorem Lj{t:TypeId}{M:Array Field}(j:List TypeId){fuel:Nat}{cs:List Value}{x:DataW H×List MemPlace}(ht:P.underlying t=some (.struct M))(h:DataW.trod enc P w base spare held fuel t cs=some x)
  (Y:M.toList.map (λf=>(f.type,f.offset))=j.zipIdx) (G:j.all (λty=>P.cellsOf ty==1)=true) (O:P.cellsOf t=j.length) :
  cs.length=j.length/\∀(i:Nat) (ty:TypeId),j[i]? =some ty->∃c m y,cs[i]? =some c/\DataW.trod enc P w base spare held m ty [c]=some y:=by
 obtain⟨E,B⟩:=opens_fields ht h;rw[O]at E;refine⟨E,λi ty D=>?_⟩;have S:=aA D;have u:i<cs.length:=by omega
 obtain⟨m,y,N⟩:=B i ty i 1 [cs[i]] (by
  have:=congrArg (λl=>l[i]?) Y;simp only[SJ,List.getElem?_zipIdx,D,SY]at this;simpa using this) (by rw[SM]at G;simpa using G ty (S8 D)) (by rw[TA u];rfl)
 exact⟨cs[i],m,y,mt u,N⟩
end
theorem IQ{P:Program}{f:FuncId}{args:List AV}{vs:List Value}(h:aq P f args (.bool true))(w:World)(O:eG w IN IP args vs)(hG:hY w IP:=by exact λg r h=>by cases h):Calls P f vs.toArray w λe w'=>e=.returned (.bool true)/\Below w.heap.size w w':=by
 obtain⟨v,H',L',h1,h2,rfl,rfl⟩:=h.2 ae.empty (λb _=>c8 b) ⟨List.nodup_nil,λp hp=>by simp at hp⟩;have j:aQ IN ae.empty=IP:=by
  funext c;apply propext;constructor
  .rintro(h|⟨b,x,D,E,_,_⟩)
   .exact h
   .rw[c8]at E;cases E
  .exact λh=>h.elim
 have Z:bv w IN ae.empty:=⟨λb D u=>(by cases u),λb D u=>(by cases u),λb x u=>(by rw[c8]at u;cases u),λc Y=>Y.elim,λb b' x x' D M u=>(by rw[c8]at u;cases u),by rw[j];exact hG⟩;refine(h1 w IN vs Z (by rw[j];exact O)).mono ?_;rintro e w' ⟨v',G,rfl,N,k2,B,_⟩;cases N;rw[j]at B;exact⟨rfl,B.os,B.tape,B.output,B.size,λk S=>B.keep k S λh=>h⟩
end
section
open Go.ChangeShapes Go.WideShapes Go.ChangeAt Go.RowKit
section
variable {H:Type} {enc:TypeId×Value->H} {w:World} {base:Nat} {spare:Nat->Bool} {held:Bool}
theorem Lk:Tryz.prog.underlying 3=some (.int .i64):=by kernel_rfl
theorem IR:Opens H enc Tryz.prog w base spare held 61 (RA o9.enc λ_=>True):=λB E x h=>by
 obtain⟨S,j⟩:=Lj [3,3] Tryz.underlying61 h rfl (by kernel_rfl) (by kernel_rfl);obtain⟨c0,m0,y0,D,O⟩:=j 0 _ rfl;obtain⟨Z,_,M⟩:=Gt Lk _ _ _ O;obtain⟨c1,m1,y1,e1,N⟩:=j 1 _ rfl;obtain⟨Y,_,G⟩:=Gt Lk _ _ _ N;have u:E=[c0,c1]:=by
  match E,S with
  |[a0,a1],_=>simp only[List.getElem?_cons_zero,TJ,SF]at D e1;rw[D,e1]
 subst u;exact⟨⟨Z,Y⟩,trivial,(o7 M (o7 G Ff))⟩
end
end
section
open Go.ChangeShapes Go.WideShapes Go.ChangeAt Go.RowKit
def Sp(n:Int):List AV:=[.int .u8 n]
def Sr(l:List Int):List UInt8:=l.map λx=>UInt8.ofNat x.toNat
theorem RB{x:Int}(h:(Lit.int .u8 x).wf=true):0<=x/\x<256:=by
 simp only[Lit.wf,SN,decide_eq_true_eq]at h;have u:IntKind.u8.min=0:=by decide
 have j:IntKind.u8.max=255:=by decide
 omega
theorem MM{l:List Int}(h:∀x∈l,0<=x/\x<256):(Sr l).map oJ=l.map Sp:=by
 unfold Sr;rw[List.map_map];refine List.map_congr_left λx j=>?_
 have:=h x j;show [AV.int .u8 (((UInt8.ofNat x.toNat).toNat:Nat):Int)]=[AV.int .u8 x];rw[UInt8.toNat_ofNat_of_lt' (by show x.toNat<256;omega),Int.toNat_of_nonneg this.1]
section
variable {H:Type} {enc:TypeId×Value->H} {w:World} {base:Nat} {spare:Nat->Bool} {held:Bool}
theorem Pr:Opens H enc Tryz.prog w base spare held 22 (RA (λl:List Int=>[.lst (l.map Sp)]) λl=>l.length<=maxLen/\∀x∈l,(Lit.int .u8 x).wf=true):=
 Fg (size:=1) Tryz.underlying22 (by kernel_rfl) Ue (Gt (by kernel_rfl))
end
end
section
open Go.ChangeShapes Go.WideShapes Go.ChangeAt Go.RowKit
def Ll{H:Type}{enc:TypeId×Value->H}{P:Program}{w:World}{base:Nat}{j:Nat->Bool}{B:Bool}{fuel:Nat}{t e:TypeId}{n:Nat}{cs:List Value}{ds:List (DataW H)}{q:List MemPlace}(ht:P.underlying t=some (.array n e))(Y:P.cellsOf e=1)(Z:P.cellsOf t=n)(h:DataW.trod enc P w base j B fuel t cs=some (.agg ds,q)){i:Nat}{d:DataW H}(E:ds[i]? =some d):
  ∃m c y,cs[i]? =some c/\DataW.trod enc P w base j B m e [c]=some (d,y):=by
 obtain⟨xs,m,_,N,hl,G,M⟩:=DataW.trod_array ht h;simp only[Prod.mk.injEq,DataW.agg.injEq]at N;rw[N.1,SJ]at E;cases u:xs[i]? with
 |none=>rw[u]at E;cases E
 |some x=>
  rw[u]at E;cases E;have S:i<n:=by rw[<-G];exact(Tf.1 u).1
  have D:i<cs.length:=by omega
  have O:=M i S;rw[Y,Nat.mul_one,u,TA D,List.take_succ_cons,List.take_zero]at O;exact⟨m,cs[i],x.2,mt D,O⟩
def MN{P:Program}{w:World}{fuel:Nat}{t e:TypeId}{n:Nat}{cs:Array Value}{l:List Int}{q:List MemPlace}{g:Nat}{M:String}(S:P.globalNamed M=some g)(N:w.var? P M=some cs)(ht:P.underlying t=some (.array n e))(Z:P.cellsOf e=1)(O:P.cellsOf t=n)(Y:P.underlying e=some (.int .i64))(h:DataW.trod (λ_=>()) P w 0 (λ_=>true) false fuel t cs.toList=some (.agg (l.map λn=>.lit (.int .i64 n)),q))(j:Nat)(a:AV)(B:(l.map λn=>AV.int .i64 n)[j]? =some a):∃u,w.cell? ⟨g,j,none⟩=some u/\C8 u=some a:=by
 rw[SJ]at B;cases E:l[j]? with
 |none=>rw[E]at B;cases B
 |some v=>
  rw[E]at B;cases B;obtain⟨m,c,y,G,D⟩:=Ll ht Z O h (i:=j) (d:=.lit (.int .i64 v)) (by rw[SJ,E];rfl);obtain⟨k,e1,e2,_⟩:=DataW.trod_int Y D;simp only[List.cons.injEq,and_true]at e1;simp only[Prod.mk.injEq,DataW.lit.injEq,Lit.int.injEq,true_and]at e2;refine⟨c,?_,?_⟩
  .rw[World.var?_cell S N j,<-SY,G]
  .rw[e1,<-e2.1];rfl
def MO{P:Program}{w:World}{fuel:Nat}{t e:TypeId}{n:Nat}{cs:Array Value}{l:List (List UInt8)}{q:List MemPlace}{g:Nat}{M:String}(S:P.globalNamed M=some g)(N:w.var? P M=some cs)(ht:P.underlying t=some (.array n e))(Z:P.cellsOf e=1)(O:P.cellsOf t=n)(Y:P.underlying e=some .string)(h:DataW.trod (λ_=>()) P w 0 (λ_=>true) false fuel t cs.toList=some (.agg (l.map λn=>.lit (.string n)),q))(j:Nat)(a:AV)(B:(l.map AV.str)[j]? =some a):∃u,w.cell? ⟨g,j,none⟩=some u/\C8 u=some a:=by
 rw[SJ]at B;cases E:l[j]? with
 |none=>rw[E]at B;cases B
 |some v=>
  rw[E]at B;cases B;obtain⟨m,c,y,G,D⟩:=Ll ht Z O h (i:=j) (d:=.lit (.string v)) (by rw[SJ,E];rfl);obtain⟨k,e1,e2,_⟩:=DataW.trod_string Y D;simp only[List.cons.injEq,and_true]at e1;simp only[Prod.mk.injEq,DataW.lit.injEq,Lit.string.injEq]at e2;refine⟨c,?_,?_⟩
  .rw[World.var?_cell S N j,<-SY,G]
  .rw[e1,e2.1];rfl
def RC:(Tryz.prog.globals[1]?).map (·.type)=some 251:=by kernel_rfl
def Ps:(Tryz.prog.globals[0]?).map (·.type)=some 151:=by kernel_rfl
def RD : Tryz.prog.globalNamed "interleave/token.keywords" = some 1 := by kernel_rfl
def Pt : Tryz.prog.globalNamed "interleave/run.kinds" = some 0 := by kernel_rfl
def MP {W : World} (h : laidMetH Tryz.prog [("interleave/token.keywords", Rows.laid_interleave_token_keywords), ("interleave/run.kinds", Rows.laid_interleave_run_kinds)] W) : hY W IP := by
 rw[MakeChecks.laidMetH_plain _ _ _ (by kernel_rfl)]at h;obtain⟨ps,⟨g0,t0,cs0,f0,p0,q0,hg0,ht0,hv0,hd0,⟨g1,t1,cs1,f1,p1,q1,hg1,ht1,hv1,hd1,_,_⟩,_⟩,_,_⟩:=h;obtain rfl:=TZ (RD.symm.trans hg0);obtain rfl:=TZ (Pt.symm.trans hg1);obtain rfl:=TZ (RC.symm.trans ht0);obtain rfl:=TZ (Ps.symm.trans ht1);intro g r hg;unfold RG at hg;split at hg
 .rename_i e;subst e;cases hg;exact⟨λh=>h,Ue,MN hg1 hv1 Tryz.underlying151 (by kernel_rfl) (by kernel_rfl) Tryz.underlying3 hd1⟩
 .split at hg
  .rename_i e;subst e;cases hg;exact⟨λh=>h,Ue,MO hg0 hv0 Tryz.underlying251 (by kernel_rfl) (by kernel_rfl) Tryz.underlying9 hd0⟩
  .cases hg
end
end Go.Proofs.YtbofdbhnbodbiaaGreatDoor.Am
section
namespace Go.Proofs.YtbofdbhnbodbiaaGreatDoor.runSteps
open Go.ChangeShapes Go.WideShapes Go.ChangeAt Go.RowKit Am
def law(j:List Int)(D:j.length<=maxLen/\∀x∈j,(Lit.int .u8 x).wf=true)(u:List o9):
  aq Tryz.prog 4 [.lst (j.map Sp),.lst (u.map o9.enc)] (.bool true):=by
 rw[<-MM λx B=>RB (D.2 x B)];exact IM _ _
def own:ownKnob Tryz.prog.godebug=none:=by kernel_rfl
def laidOut:laidOutB Tryz.prog=true:=by kernel_rfl
def agg_of{n:Nat}(j:n≠1){v:Value}(h:v.cells.toList.length=n):∃cs:List Value,v=.agg cs.toArray/\v.cells.toList=cs:=by
 cases v with
 |agg a=>exact⟨a.toList,Ud,rfl⟩
 |_=>simp[Value.cells]at h;omega
def laidL : List (String × DataW Unit) := [("interleave/token.keywords", Rows.laid_interleave_token_keywords), ("interleave/run.kinds", Rows.laid_interleave_run_kinds)]
def door_met(os:Os)(args:Array Value):laidMetH Tryz.prog laidL ((World.doorLaid Tryz.prog 400 os).forCall (λ_ _=>0) ⟨#[],args,[]⟩).memory:=
 laidMetH_of_parts3 (fuel:=8) (laidMet_of_run' 8 (by kernel_rfl) (by kernel_rfl)) (by kernel_rfl) (by kernel_rfl)
def lifted(os:Os)(u:os.Started)(H:Type)(enc:TypeId×Value->H):
  ReturnsInHanded {} Tryz.checked os 4 .any (λw args=>(Rows.runStepsSpec.pre enc Tryz.prog Tryz.f4 [] false w args/\laidMetH Tryz.prog laidL w)/\sizedMet enc Tryz.prog Tryz.f4 (OpenSpec.ofChange Rows.runStepsSpec) false w args) (Rows.runStepsSpec.post enc Tryz.prog Tryz.f4 false true false false):=by
 refine returnsInHanded_of_change_and (C:=Tryz.checked) (X:=λw _=>laidMetH Tryz.prog laidL w) (λ_ _ _ hh h=>h.of_heap hh) own u (by kernel_rfl) Tryz.func4
  (ChangeSpec.witness_shaped (enc:=enc) (C:=Tryz.checked) (os:=os) (X:=λw _=>laidMetH Tryz.prog laidL w) false (World.doorLaid Tryz.prog 400 os) #[.slice none 0 0,.slice none 0 0] 8 rfl (World.shaped_of_RefB (by kernel_rfl) (by kernel_rfl)) (by kernel_rfl) (by kernel_rfl) (by kernel_rfl) (door_met os _)) ?_
 intro W E args ds gs G D hW hcnd hsz hL _;have B:∀(j:Nat) t v,Tryz.f4.params[j]? =some t->args[j]? =some v->Value.okWide Tryz.prog W .any E t v:=D;have S:=hW;obtain⟨p,q,Y,hV,rfl,hfz,hnd⟩:=hW;have hA:DataW.TrodAll enc Tryz.prog W 0 (λ_=>true) true Tryz.f4.params.toList args.toList ds p:=Y;rw[Tryz.params4]at hA B;obtain⟨v0,vs0,d0,ds0,p0,q0,O,rfl,rfl,h0,r0⟩:=trodAll_cons hA;obtain⟨v1,vs1,d1,ds1,p1,q1,rfl,rfl,rfl,h1,r1⟩:=trodAll_cons r0;obtain⟨rfl,rfl,rfl⟩:=trodAll_nil r1;obtain rfl:args=#[v0,v1]:=by cases args;simp_all
 obtain⟨rfl,rfl⟩:=trodVars_none hV;obtain⟨fuel0,N⟩:=h0;obtain⟨a0,n0,c0,rfl⟩:=okWide_slice Tryz.underlying22 (B 0 22 v0 rfl rfl);obtain⟨x0,g0,k0⟩:=Pr _ _ _ N;obtain⟨Z,M⟩:=h1;obtain⟨a1,n1,c1,rfl⟩:=okWide_slice Tryz.underlying35 (B 1 35 v1 rfl rfl);obtain⟨x1,g1,k1⟩:=Fg Tryz.underlying35 (show Tryz.prog.cellsOf 61=2 by kernel_rfl) Ue IR _ _ _ M;refine(IQ (law x0 g0 x1) W (o7 k0 (o7 k1 Ff)) (MP hL)).mono λe W' ⟨he,hb⟩=>⟨.bool true,he,?_⟩
 exact law_post laidOut (of_decide_eq_true (by kernel_rfl)) rfl rfl Tryz.underlying4 S rfl rfl rfl hb
def over:Rows.RunStepsSaid:=
 OpenClaim.holds_of_wide 4 Tryz.f4 rfl rfl rfl rfl rfl rfl rfl ⟨rfl,rfl,rfl,rfl,rfl⟩ rfl rfl rfl rfl rfl (by kernel_rfl) Tryz.func4 (by kernel_rfl)
  (of_decide_eq_true (by kernel_rfl)) (by unfold Func.isWrapper;first|(rw[if_pos (by decide +kernel)];kernel_rfl)|(rw[if_neg (by decide +kernel)];exact⟨rfl,rfl⟩))
  (λB j H u _=>lifted B j H u)
def proved:Rows.RunStepsCardSaid:=
 Claim7.holds_tied_plain_at .later [] [.data,.data] true Rows.runStepsCard.stood.harness false
  over (λ_ h=>by cases h) (by kernel_rfl) (λ_ h=>by cases h) runSteps_row_tie rfl ⟨rfl,rfl⟩ (by kernel_rfl) rfl
  (λf fn hf hfn=>by
   obtain rfl : f = 4 := Option.some.inj ((show Tryz.prog.funcNamed "interleave/interleavelaw09.RunSteps" = some 4 by kernel_rfl).symm.trans hf) |>.symm
   obtain rfl:fn=Tryz.f4:=(TZ (Tryz.func4.symm.trans hfn)).symm;exact⟨by kernel_rfl,λj t ht=>by
    rw[Tryz.params4]at ht;have hm:=Array.mem_of_getElem? ht;have hall:(#[22,35].all λu=>!Tryz.prog.wantsStandIn u)=true:=by kernel_rfl
    rw[Array.all_eq_true_iff_forall_mem]at hall;have:=hall t hm;exact(show Tryz.prog.wantsStandIn t=false by simpa using this)⟩)
  (by kernel_rfl)
#print axioms proved
end Go.Proofs.YtbofdbhnbodbiaaGreatDoor.runSteps
end
