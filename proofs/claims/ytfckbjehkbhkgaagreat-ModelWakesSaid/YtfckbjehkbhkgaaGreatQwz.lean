/- part -/
import Derived.Test.YtfckbjehkbhkgaaGreatQwy
set_option linter.all false
set_option maxRecDepth 100000
set_option maxHeartbeats 0
namespace Go.Proofs.YtfckbjehkbhkgaaGreat.Am
def iL(l:List aZ)(s:bU):Int:=lm (λx=>decide (x.name=s)) l 0
def ky(l:List aZ)(s:bU)(E:l.length<2^62):aq Tryz.prog 179 [.lst (l.map aZ.enc),.str s] (.acU (iL l s)):=by
 refine zX _ _ _ _ ?_;refine vw ?_;refine eO l (λx=>decide (x.name=s)) (λi=>[.lst (l.map aZ.enc),.str s,.acU i]) E rfl (λi u G N j B D=>?_) (λi u G j B=>?_)
 all_goals refine vw ?_
 .have M:=aj (f:=aZ.enc) u
  repeat' (first|refine sy ?_|refine s2 (λh=>?_) λh=>?_|intro)
  .exact⟨by rw[iL,mR u j h],rfl⟩
  .exact D h
 .repeat' (first|refine sy ?_|refine s2 ?_ ?_|intro)
  exact⟨by rw[iL,gz j],rfl⟩
def KW(l:List bU)(s:bU)(E:l.length<2^62):TI 118 [.lst (l.map ay),.str s]:=by
 refine ti λQ j=>lM _ _ _ _ ?_
 refine vw ?_;refine nI l.length (λi=>[.lst (l.map ay),.str s,.acU i]) E rfl (λi u G N B D=>?_) (λi u G B=>?_)
 all_goals refine vw ?_
 .have M:=aj (f:=ay) u
  repeat' (first|refine sy ?_|refine s2 ?_ ?_|intro)
  all_goals first|exact j _ _|exact D
 .repeat' (first|refine sy ?_|refine s2 ?_ ?_|intro)
  exact j _ _
def o6(l:List am)(s:bU)(E:l.length<2^62):TI 180 [.lst (l.map am.enc),.str s]:=by
 refine ti λQ j=>vM _ _ _ _ ?_
 refine vw ?_;refine nI l.length (λi=>[.lst (l.map am.enc),.str s,.acU i]) E rfl (λi u G N B D=>?_) (λi u G B=>?_)
 all_goals refine vw ?_
 .have M:=aj (f:=am.enc) u
  repeat' (first|refine sy ?_|refine s2 ?_ ?_|intro)
  all_goals first|exact j _ _|exact D
 .repeat' (first|refine sy ?_|refine s2 ?_ ?_|intro)
  exact j _ _
def rY(b:Bool):TI 202 [.bool b]:=by
 refine ti λQ j=>xR _ _ _ ?_
 refine vw ?_
 repeat' (first|refine sy ?_|refine s2 ?_ ?_|intro)
 all_goals exact j _ _
def UO(a b:Int):TI 199 [.acU a,.acU b]:=by
 refine ti λQ j=>JU _ _ _ _ ?_
 refine vw ?_
 repeat' (first|refine sy ?_|refine s2 ?_ ?_|intro)
 all_goals exact j _ _
def So(p:cJ)(t:Nat)(s:bU)(S:p.wt<2^40)(ht:t<p.threads.length):∃n:Int,(n=5->∃k:Nat,k<p.decls.length/\iL p.decls s=k)/\aq Tryz.prog 207 [.agg p.enc,.acU t,.str s] (.acU n):=by
 have M:=p.decls_len;have G:=p.threads_len;have D:=p.thread_wt ht;have E:p.threads[t].locals.length<p.threads[t].wt:=by unfold am.wt;omega
 have c1:=KW p.threads[t].locals s acN;have B:=ky p.decls s acN;have c3:=o6 p.threads s acN;have d0:decide (0<=(t:Int))=true:=by simp
 have Z:=aS ht;have O:=aj (f:=am.enc) ht;refine tig λQ u=>zY _ _ _ _ _ ?_
 refine vw ?_;rcases uM (p:=λx:aZ=>decide (x.name=s)) p.decls 0 with⟨h1,h2⟩|⟨k,h1,h2,h3⟩
 .have j:iL p.decls s=-1:=h1;rw[j]at B
  repeat' (first|refine sy ?_|refine s2 ?_ ?_|intro)
  all_goals exact u _ _ (λh=>absurd h acR)
 .have j:iL p.decls s=(k:Nat):=by rw[iL,h2];simp
  rw[j]at B;have Y:decide ((k:Int)<0)=false:=by simp
  have N:=aj (f:=aZ.enc) h1
  repeat' (first|refine sy ?_|refine s2 ?_ ?_|intro)
  all_goals exact u _ _ λ_=>⟨k,h1,j⟩
def Sp(p:cJ)(t:Nat)(s:bU)(a b:Int)(j:p.wt<2^40)(ht:t<p.threads.length):TI 200 [.agg p.enc,.acU t,.str s,.acU a,.acU b]:=by
 obtain⟨n,_,B⟩:=So p t s j ht;refine ti λQ u=>tu _ _ _ _ _ _ _ ?_
 refine vw ?_
 repeat' (first|refine sy ?_|refine s2 ?_ ?_|intro)
 all_goals exact u _ _
def UP(p:cJ)(t:Nat)(s:bU)(u:p.wt<2^40)(ht:t<p.threads.length):∃n:Int,(n=0->∃k:Nat,k<p.decls.length/\iL p.decls s=k)/\aq Tryz.prog 200 [.agg p.enc,.acU t,.str s,.acU 5,.acU 5] (.acU n):=by
 obtain⟨n,g,D⟩:=So p t s u ht;refine tig λQ j=>tu _ _ _ _ _ _ _ ?_
 refine vw ?_
 repeat' (first|refine sy ?_|refine s2 ?_ ?_|intro)
 all_goals first
  |exact j _ _ (λB=>absurd B acR)
  |exact j _ _ (λ_=>g (by simp_all))
def UQ:∀(k:Nat) (x:aB),x.wt<=k->k<2^40->TE 208 [.agg x.row]:=by
 intro k
 induction k with
 |zero=>intro x h;have:=x.wt_eq;omega
 |succ k D=>
  intro x O Z;have u:=x.len;refine te λQ E=>BX _ _ _ ?_
  refine vw ?_
  repeat' (first|refine sy ?_|refine s2 ?_ ?_|intro)
  refine Gy (β:=Int×Int) x.l.length (λi n=>[.pptr [x.row] 0 0,.acU n.1,.acU n.2,.acU i]) (1,0) acN rfl (λi n j M S B G=>?_) (λi n j M B=>?_)
  all_goals refine vw ?_
  .have N:=BO j;have Y:=D x.l[i] (by have:=x.kid j;omega) acN
   repeat' (first|refine sy ?_|refine My ?_|refine s2 ?_ ?_|intro)
   exact G (_,_)
  .repeat' (first|refine sy ?_|refine s2 ?_ ?_|intro)
   exact E _ _ _
def UR(p:cJ)(t:Nat)(M:p.wt<2^40)(ht:t<p.threads.length):∀(k:Nat) (x:aB),x.wt<=k->k<2^40->TI 209 [.agg p.enc,.acU t,.agg x.row]:=by
 intro k
 induction k with
 |zero=>intro x h;have:=x.wt_eq;omega
 |succ k G=>
  intro x Z hb;have D:=x.len;have S:=λa b=>Sp p t x.name a b M ht
  refine ti λQ B=>BZ _ _ _ _ _ ?_
  refine vw ?_;have j:∀r:Int,BY Q [.acU t,.pptr [p.enc] 0 0,.pptr [x.row] 0 0,.acU r] []:=by
   intro r;refine vw ?_
   repeat' (first|refine sy ?_|refine s2 ?_ ?_|intro)
   refine Gy x.l.length (λi r=>[.acU t,.pptr [p.enc] 0 0,.pptr [x.row] 0 0,.acU r,.acU i]) r acN rfl (λi r u O hi E N=>?_) (λi r u O E=>?_)
   all_goals refine vw ?_
   .have Y:=BO u;have hc:=G x.l[i] (by have:=x.kid u;omega) acN
    repeat' (first|refine sy ?_|refine s2 ?_ ?_|intro)
    all_goals first|exact B _ _|exact N _
   .repeat' (first|refine sy ?_|refine s2 ?_ ?_|intro)
    all_goals exact B _ _
  repeat' (first|with_reducible exact j _|refine sy ?_|(refine pf 200 ?_;refine pm (S _ _) ?_)|refine s2 ?_ ?_|intro)
def Xu(p:cJ)(t:Nat)(x:aB)(u:p.wt<2^40)(ht:t<p.threads.length)(j:x.wt<2^40):TI 201 [.agg p.enc,.acU t,.agg x.row]:=by
 have G:=R6 _ x (Fd _) j;have E:=UQ _ x (Fd _) j;have D:=UR p t u ht _ x (Fd _) j;refine ti λQ B=>Es _ _ _ _ _ ?_
 refine vw ?_
 repeat' (first|refine sy ?_|refine s2 ?_ ?_|intro)
 all_goals exact B _ _
def US:∀(k:Nat) (l:List ae),ae.wts l<=k->k<2^40->TI 156 [.lst (l.map ae.enc)]:=by
 intro k
 induction k using Nat.strongRecOn with
 |_ k u=>
  intro l Y Z;have B:=ae.wts_len l;refine ti λQ M=>B6 _ _ _ ?_
  refine vw ?_
  repeat' (first|refine sy ?_|refine s2 ?_ ?_|intro)
  refine Gy l.length (λi n=>[.lst (l.map ae.enc),.acU n,.acU i]) _ acN rfl (λi n j O hi D N=>?_) (λi n j O D=>?_)
  all_goals refine vw ?_
  .have S:=Gb j;have E:=ae.wts_get l i j;have G:=(l[i]).wt_eq;have c1:=u _ acN l[i].body (Fd _) acN;have c2:=u _ acN l[i].els (Fd _) acN
   repeat' (first|refine sy ?_|refine s2 ?_ ?_|intro)
   exact N _
  .repeat' (first|refine sy ?_|refine s2 ?_ ?_|intro)
   exact M _ _
def UT(l:List aZ)(Z:l.length<2^40):TE 154 [.lst (l.map aZ.enc)]:=by
 refine te λQ j=>DA _ _ _ ?_
 refine vw ?_;refine Gy (β:=Int×Int×Int×Int) l.length (λi n=>[.lst (l.map aZ.enc),.acU n.1,.acU n.2.1,.acU n.2.2.1,.acU n.2.2.2,.acU i]) (0,0,0,0) acN rfl (λi n M O hi E G=>?_) (λi n M O E=>?_)
 all_goals refine vw ?_
 .have Y:=aj (f:=aZ.enc) M;have c1:=ky (l.take i) l[i].name (by rw[abm];omega);have N:=ky (l.take i) l[i].on (by rw[abm];omega);have u:∀a b c d:Int,Dz Q E [.lst (l.map aZ.enc),.acU a,.acU b,.acU c,.acU d,.acU (i:Int),.pptr [l[i].enc] 0 0] []:=by
   intro a b c d;refine vw ?_;rcases uM (p:=λx:aZ=>decide (x.name=l[i].on)) (l.take i) 0 with⟨g1,g2⟩|⟨k,g1,g2,g3⟩
   .have D:iL (l.take i) l[i].on=-1:=g1;rw[D]at N
    repeat' (first|refine sy ?_|refine iJ ?_|refine s2 ?_ ?_|intro)
    all_goals first|exact j _ _ _|exact G (_,_,_,_)
   .have D:iL (l.take i) l[i].on=(k:Nat):=by rw[iL,g2];simp
    have B:k<l.length:=by rw[abm]at g1;omega
    rw[D]at N;have S:=aj (f:=aZ.enc) B;have d2:decide ((k:Int)<0)=false:=by simp
    repeat' (first|refine sy ?_|refine iJ ?_|refine s2 ?_ ?_|intro)
    all_goals first|exact j _ _ _|exact G (_,_,_,_)
  repeat' (first|with_reducible exact u _ _ _ _|refine sy ?_|refine iJ ?_|refine My ?_|refine s2 ?_ ?_|intro)
  all_goals exact j _ _ _
 .repeat' (first|refine sy ?_|refine s2 ?_ ?_|intro)
  exact j _ _ _
def PF(p:cJ)(hw:p.wt<2^40):TE 155 [.agg p.enc]:=by
 have S:=p.decls_len;have O:=p.threads_len;refine te λQ u=>yN _ _ _ ?_
 refine vw ?_
 repeat' (first|refine sy ?_|refine s2 (λh=>?_) λh=>?_|intro)
 refine nI p.threads.length (λi=>[.pptr [p.enc] 0 0,.acU i]) acN rfl (λi j E Y B D=>?_) (λi j E B=>?_)
 all_goals refine vw ?_
 .have N:=aj (f:=am.enc) j;have c1:=ky p.decls p.threads[i].name acN;have c2:=o6 (p.threads.take i) p.threads[i].name (by rw[abm];omega)
  repeat' (first|refine sy ?_|refine iJ ?_|refine s2 ?_ ?_|intro)
  all_goals first|exact u _ _ _|exact D
 .repeat' (first|refine sy ?_|refine s2 (λh=>?_) λh=>?_|intro)
  refine nI p.threads.length (λi=>[.pptr [p.enc] 0 0,.acU i]) acN rfl (λi j E Y B D=>?_) (λi j E B=>?_)
  all_goals refine vw ?_
  .have N:=aj (f:=am.enc) j;generalize p.threads[i]=t at *
   repeat' (first|refine sy ?_|refine s2 (λh=>?_) λh=>?_|intro)
   .exact u _ _ _
   .have h4:t.locals.length<=4:=by simp at h;omega
    refine nI t.locals.length (λk=>[.pptr [p.enc] 0 0,.acU i,.pptr [t.enc] 0 0,.acU k]) acN rfl (λk G gd gi M Z=>?_) (λk G gd M=>?_)
    all_goals refine vw ?_
    .have hy:=aj (f:=ay) G;have c1:=ky p.decls t.locals[k] acN;have c2:=o6 p.threads t.locals[k] acN;have c3:=KW (t.locals.take k) t.locals[k] (by rw[abm];omega)
     repeat' (first|refine sy ?_|refine iJ ?_|refine s2 ?_ ?_|intro)
     all_goals first|exact u _ _ _|exact Z
    .repeat' (first|refine sy ?_|refine s2 ?_ ?_|intro)
     exact D
  .repeat' (first|refine sy ?_|refine s2 ?_ ?_|intro)
   exact u _ _ _
def PI(j:Nat)(v0 E v2 D B:AV)(o1:Option Nat)(ar:List ae)(k:Nat)(R:SH)(a b:Int)(name:bU)(h0:o1=none->ar=[])(Z:k<=ar.length)(h6:k<=6):
  ac Tryz.prog 198 [.ptr j 0 0,.acU a,.acU b,.str name] ((j,⟨6,[[v0,E,v2,af o1 k,D,B]]⟩)::(ab o1 11 (ar.map ae.enc)++R)) λu K=>∃r:Bool,u=.bool r/\K=(j,⟨6,[[v0,E,v2,af o1 k,D,B]]⟩)::(ab o1 11 (ar.map ae.enc)++R):=by
 refine rB _ _ _ _ _ _ ?_;refine vw ?_;generalize hL:(j,(⟨6,[[v0,E,v2,af o1 k,D,B]]⟩:Blk))::(ab o1 11 (ar.map ae.enc)++R)=L;generalize Y:(λ(u:AV) (K:SH)=>∃r:Bool,u=AV.bool r/\K=L)=Q;have M:∀r:Bool,Q (.bool r) L:=λr=>by subst Y;exact⟨r,rfl,rfl⟩
 clear Y;subst hL;cases o1 with
 |none=>
  have:=h0 rfl;subst this;obtain rfl:k=0:=by simpa using Z
  dsimp only[ab,af,List.nil_append]at *;refine cT 0 (λ_=>True) (λi=>[.ptr j 0 0,.acU a,.acU b,.str name,.acU i]) acN trivial rfl (λi O N hi _ G S=>by omega) (λi O N _ G=>?_);refine vw ?_
  repeat' (first|refine sy ?_|refine s2 ?_ ?_|intro)
  exact M _
 |some b1=>
  dsimp only[ab,af,List.cons_append,List.nil_append]at *;refine cT k (λ_=>True) (λi=>[.ptr j 0 0,.acU a,.acU b,.str name,.acU i]) acN trivial rfl (λi O N hi _ G S=>?_) (λi O N _ G=>?_)
  all_goals refine vw ?_
  .have hx:=Gb (l:=ar) (i:=i) acN;generalize ar[i]'acN=x at *
   repeat' (first|refine sy ?_|refine s2 ?_ ?_|intro)
   all_goals first
    |exact M _
    |exact S trivial
  .repeat' (first|refine sy ?_|refine s2 ?_ ?_|intro)
   exact M _
def Sq(o:Option Nat)(l:List bU)(R:SH)(x:bU)(S:o=none->l=[])(hl:l.length<2^62):
  ac Tryz.prog 118 [af o l.length,.str x] (ab o 1 (l.map ay)++R) λu K=>∃r:Int,u=.acU r/\K=ab o 1 (l.map ay)++R:=by
 refine lM _ _ _ _ ?_;refine vw ?_;generalize O:ab o 1 (l.map ay)++R=L;generalize M:(λ(u:AV) (K:SH)=>∃r:Int,u=AV.acU r/\K=L)=Q;have D:∀r:Int,Q (.acU r) L:=λr=>by subst M;exact⟨r,rfl,rfl⟩
 clear M;subst O;cases o with
 |none=>
  have:=S rfl;subst this;dsimp only[ab,af,List.nil_append,List.length_nil]at *;refine cT 0 (λ_=>True) (λi=>[.emp,.str x,.acU i]) acN trivial rfl (λi j E N _ B G=>by omega) (λi j E _ B=>?_);refine vw ?_
  repeat' (first|refine sy ?_|refine s2 ?_ ?_|intro)
  exact D _
 |some Y=>
  dsimp only[ab,af,List.cons_append,List.nil_append]at *;refine cT l.length (λ_=>True) (λi=>[.sl Y 0 l.length,.str x,.acU i]) acN trivial rfl (λi j E N _ B G=>?_) (λi j E _ B=>?_)
  all_goals refine vw ?_
  .have Z:=aj (f:=ay) j
   repeat' (first|refine sy ?_|refine s2 ?_ ?_|intro)
   all_goals first
    |exact D _
    |exact G trivial
  .repeat' (first|refine sy ?_|refine s2 ?_ ?_|intro)
   exact D _
section
theorem St{P:Program}{L:SH}{j:AV->SH->List Nat->Prop}{us:List W.WR}{i:Nat}{g:FuncId}{args:List AV}{R1:AV->SH->Prop}(h:ac P g args [] R1)(u:∀v K,R1 v K->j v (K++L) [])(B:∀x∈us,W.free x ⟨i,[],[],[],true,[]⟩:=by(simp only[rm,rc,rz,W.free,co,↓reduceIte,Nat.reduceEqDiff,ai,dV,aco,abz,abA,not_false_eq_true,implies_true,and_true,true_and,and_self,abj,reduceCtorEq,forall_const,false_implies,aag,forall_eq,aby,abK,aaj,or_false,false_or,forall_eq_or_imp,not_or])<;>(repeat' constructor)<;>first|assumption|(exact Ne.symm acO)|(intro D;subst D;simp[SH.names]at *;done)):W.dcallM P us i g args L j:=⟨[],L,.refl _,B,h.mono u⟩
def o8:List AV:=[.acU (-1),.nils]
section
variable (w:aF) (b2 b3:Nat) (Q:R)
theorem XD(h3:w.threads.length<=100)(p3:0<w.threads.length)(D E Y Z:Nat)(O S:List (List AV))
  (N:∀bt L,cO L [(bt,⟨3,(ly w.threads.length).map ThrD.enc⟩),(E,⟨1,S⟩),(D,⟨2,O⟩)]->Q (.agg [.sl D 0 Y,.acU (-1),.sl E 0 Z,.sl bt 0 w.threads.length]) L)
  (L:SH) (hL:cO L [(b3,⟨4,[[.sl D 0 Y,.acU (-1),.sl E 0 Z,.nils]]⟩),(b2,⟨4,[fW]⟩),(E,⟨1,S⟩),(D,⟨2,O⟩)]):W.loop (qA Q) [.pptr [w.enc] 0 0,.ptr b2 0 0,.ptr b3 0 0,.acU (0:Nat)] L:=by
 obtain⟨K0,hP⟩:=hL.perm;refine aL w.threads.length (λk (o:Option Nat)=>([.pptr [w.enc] 0 0,.ptr b2 0 0,.ptr b3 0 0,.acU k],(b3,⟨4,[[.sl D 0 Y,.acU (-1),.sl E 0 Z,af o k]]⟩)::(b2,⟨4,[fW]⟩)::(E,⟨1,S⟩)::(D,⟨2,O⟩)::ab o 3 ((ly k).map ThrD.enc))) (λk o=>o=none->k=0) none (λ_=>rfl) (ax.box hP (.cons (.refl _) (.cons (.refl _) (.cons (.refl _) (.cons .nile .nil))))) ?_;intro k o hk ho;dsimp only;unfold fW;refine vw ?_;have B:((ly k).map ThrD.enc).length=k:=by simp[DH]
 have h0:o=none->(ly k).map ThrD.enc=[]:=λe=>by rw[ho e];rfl
 rw[dO];rcases LE k w.threads.length with G|G
 .have hd:=aS G;have M:=GI k;clear N;by_cases k0:k=0
  .have d0:decide ((k:Int)=0)=true:=decide_eq_true acN;rw[if_pos k0]at M
   repeat' (first|refine sx ?_|refine aM rp rp B h0 acP acQ acS acS acP (λj u=>?_)|refine sb λj u=>?_|refine s2 ?_ ?_|intro)
   exact⟨k+1,some j,acN,acN,nofun,ax.pickE (R:=[(b3,_),(b2,_),(E,_),(D,_),(j,_)]) rp (by rw[av G acN]) (by rw[M];simp[ab,af,ThrD.enc,aR])⟩
  .have d0:decide ((k:Int)=0)=false:=decide_eq_false acN;rw[if_neg k0]at M
   repeat' (first|refine sx ?_|refine aM rp rp B h0 acP acQ acS acS acP (λj u=>?_)|refine sb λj u=>?_|refine s2 ?_ ?_|intro)
   exact⟨k+1,some j,acN,acN,nofun,ax.pickE (R:=[(b3,_),(b2,_),(E,_),(D,_),(j,_)]) rp (by rw[av G acN]) (by rw[M];simp[ab,af,ThrD.enc,aR])⟩
 .have hd:=aW G;obtain rfl:k=w.threads.length:=by omega
  cases o with
  |none=>exact absurd (ho rfl) acN
  |some bt=>
   have N:=N bt;dsimp only[af,ab]at *
   repeat' (first|refine sy ?_|refine s2 ?_ ?_|intro)
   (refine N _ ?_;exact rp)
theorem XE(h2:w.futures.length<=100)(p2:0<w.futures.length)(h3:w.threads.length<=100)(Y:0<w.threads.length)(j M:Nat)(G:List (List AV))
  (O:∀E bt L,cO L [(bt,⟨3,(ly w.threads.length).map ThrD.enc⟩),(E,⟨1,(List.replicate w.futures.length false).map au⟩),(j,⟨2,G⟩)]->Q (.agg [.sl j 0 M,.acU (-1),.sl E 0 w.futures.length,.sl bt 0 w.threads.length]) L)
  (L:SH) (hL:cO L [(b3,⟨4,[[.sl j 0 M,.acU (-1),.nils,.nils]]⟩),(b2,⟨4,[fW]⟩),(j,⟨2,G⟩)]):W.loop (qB Q) [.pptr [w.enc] 0 0,.ptr b2 0 0,.ptr b3 0 0,.acU (0:Nat)] L:=by
 obtain⟨K0,hP⟩:=hL.perm;refine aL w.futures.length (λk (o:Option Nat)=>([.pptr [w.enc] 0 0,.ptr b2 0 0,.ptr b3 0 0,.acU k],(b3,⟨4,[[.sl j 0 M,.acU (-1),af o k,.nils]]⟩)::(b2,⟨4,[fW]⟩)::(j,⟨2,G⟩)::ab o 1 ((List.replicate k false).map au))) (λk o=>o=none->k=0) none (λ_=>rfl) (ax.box hP (.cons (.refl _) (.cons (.refl _) (.cons .nile (.cons (.refl _) .nil))))) ?_;intro k o hk S;dsimp only;refine vw ?_;have D:((List.replicate k false).map au).length=k:=by simp
 have h0:o=none->(List.replicate k false).map au=[]:=λe=>by rw[S e];rfl
 rcases LE k w.futures.length with N|N
 .have hd:=aS N;have hs:=rC k false;clear O;unfold fW;rw[dO]
  repeat' (first|refine sx ?_|refine aM rp rp D h0 acP acQ acS acS acP (λu B=>?_)|refine sb λu B=>?_|refine s2 ?_ ?_|intro)
  exact⟨k+1,some u,acN,acN,nofun,ax.pickE (R:=[(b3,_),(b2,_),(j,_),(u,_)]) rp (by rw[av N acN]) (by rw[hs];simp[ab,af,au,aR])⟩
 .have hd:=aW N;obtain rfl:k=w.futures.length:=by omega
  cases o with
  |none=>exact absurd (S rfl) acN
  |some E=>
   have Z:=XD w b2 b3 Q h3 Y j E M w.futures.length G ((List.replicate w.futures.length false).map au) (O E);clear O;unfold fW at *;dsimp only[af,ab]at *;rw[dO]at *
   repeat' (first|(refine Z _ ?_;exact rp)|refine sy ?_|refine s2 ?_ ?_|intro)
theorem XF(h1:w.locks.length<=100)(p1:0<w.locks.length)(h2:w.futures.length<=100)(S:0<w.futures.length)(h3:w.threads.length<=100)(O:0<w.threads.length)
  (G:∀D N bt L,cO L [(bt,⟨3,(ly w.threads.length).map ThrD.enc⟩),(N,⟨1,(List.replicate w.futures.length false).map au⟩),(D,⟨2,List.replicate w.locks.length o8⟩)]->Q (.agg [.sl D 0 w.locks.length,.acU (-1),.sl N 0 w.futures.length,.sl bt 0 w.threads.length]) L)
  (L:SH) (hL:cO L [(b3,⟨4,[[.nils,.acU (-1),.nils,.nils]]⟩),(b2,⟨4,[fW]⟩)]):W.loop (qC Q) [.pptr [w.enc] 0 0,.ptr b2 0 0,.ptr b3 0 0,.acU (0:Nat)] L:=by
 obtain⟨K0,hP⟩:=hL.perm;refine aL w.locks.length (λk (o:Option Nat)=>([.pptr [w.enc] 0 0,.ptr b2 0 0,.ptr b3 0 0,.acU k],(b3,⟨4,[[af o k,.acU (-1),.nils,.nils]]⟩)::(b2,⟨4,[fW]⟩)::ab o 2 (List.replicate k o8))) (λk o=>o=none->k=0) none (λ_=>rfl) (ax.box hP (.cons .nile (.cons (.refl _) (.cons (.refl _) (.cons (.refl _) .nil))))) ?_;intro k o hk M;dsimp only;refine vw ?_;have B:(List.replicate k o8).length=k:=by simp
 have h0:o=none->List.replicate k o8=[]:=λe=>by rw[M e];rfl
 rcases LE k w.locks.length with E|E
 .have hd:=aS E;have Z:=rC k o8;clear G;unfold fW;rw[dO]
  repeat' (first|refine sx ?_|refine aM rp rp B h0 acP acQ acS acS acP (λj u=>?_)|refine sb λj u=>?_|refine s2 ?_ ?_|intro)
  exact⟨k+1,some j,acN,acN,nofun,ax.pickE (R:=[(b3,_),(b2,_),(j,_)]) rp (by rw[av E acN]) (by rw[Z];simp[ab,af,o8,aR])⟩
 .have hd:=aW E;obtain rfl:k=w.locks.length:=by omega
  cases o with
  |none=>exact absurd (M rfl) acN
  |some D=>
   have Y:=XE w b2 b3 Q h2 S h3 O D w.locks.length (List.replicate w.locks.length o8) (G D);clear G;unfold fW at *;dsimp only[af,ab]at *;rw[dO]at *
   repeat' (first|(refine Y _ ?_;exact rp)|refine sy ?_|refine s2 ?_ ?_|intro)
end
theorem MS(w:aF)(Z:w.locks.length<=100)(O:0<w.locks.length)(h2:w.futures.length<=100)(N:0<w.futures.length)(Y:w.threads.length<=100)(M:0<w.threads.length):ac Tryz.prog 100 [.agg w.enc] [] λv L=>∃j u bt:Nat,v=.agg [.sl j 0 w.locks.length,.acU (-1),.sl u 0 w.futures.length,.sl bt 0 w.threads.length]/\
  L=[(bt,⟨3,(ly w.threads.length).map ThrD.enc⟩),(u,⟨1,(List.replicate w.futures.length false).map au⟩),(j,⟨2,List.replicate w.locks.length o8⟩)]:=by
 refine ac.fz (qD _ _ _ ?_);refine vw ?_;generalize E:(λ(v:AV) (L:SH)=>∃B G,ax [v] L [B] G/\∃j u bt:Nat,B=AV.agg [.sl j 0 w.locks.length,.acU (-1),.sl u 0 w.futures.length,.sl bt 0 w.threads.length]/\G=[(bt,(⟨3,(ly w.threads.length).map ThrD.enc⟩:Blk)),(u,⟨1,(List.replicate w.futures.length false).map au⟩),(j,⟨2,List.replicate w.locks.length o8⟩)])=Q;have D:=λb2 b3=>XF w b2 b3 Q Z O h2 N Y M (λj u bt L S=>by subst E;exact⟨_,_,ax.pickE S rfl rfl,j,u,bt,rfl,rfl⟩)
 clear E;unfold fW at D
 repeat' (first|refine sy ?_|intro)
 (refine D _ _ _ ?_;exact rp)
theorem UV(w:aF)(b2 b3:Nat)(Q:R)(h4:w.cells.length<2^40)(p4:0<w.cells.length)(B E bt D u:Nat)(B1 B2 B3 B4 B5:Blk)(nl nd Y nf Z:Nat)
  (O:∀S L,cO L [(S,⟨1,(w.cells.map aU.init).map aa⟩),(bt,B1),(E,B2),(B,B3),(D,B4),(u,B5)]->Q (.agg [.sl B 0 nl,.acU (-1),.sl E 0 nd,.sl bt 0 Y,.sl S 0 w.cells.length,.sl D 0 nf,.sl u 0 Z]) L)
  (L:SH) (hL:cO L [(b3,⟨7,[[.sl B 0 nl,.acU (-1),.sl E 0 nd,.sl bt 0 Y,.nils,.sl D 0 nf,.sl u 0 Z]]⟩),(b2,⟨7,[dB]⟩),(bt,B1),(E,B2),(B,B3),(D,B4),(u,B5)]):W.loop (rk Q) [.pptr [w.enc] 0 0,.ptr b2 0 0,.ptr b3 0 0,.acU (0:Nat)] L:=by
 obtain⟨K0,hP⟩:=hL.perm;refine aL w.cells.length (λk (o:Option Nat)=>([.pptr [w.enc] 0 0,.ptr b2 0 0,.ptr b3 0 0,.acU k],(b3,⟨7,[[.sl B 0 nl,.acU (-1),.sl E 0 nd,.sl bt 0 Y,af o k,.sl D 0 nf,.sl u 0 Z]]⟩)::(b2,⟨7,[dB]⟩)::(bt,B1)::(E,B2)::(B,B3)::(D,B4)::(u,B5)::ab o 1 (((w.cells.take k).map aU.init).map aa))) (λk o=>o=none->k=0) none (λ_=>rfl) (ax.box hP (.cons (.refl _) (.cons (.refl _) (.cons (.refl _) (.cons (.refl _) (.cons .nile (.cons (.refl _) (.cons (.refl _) .nil)))))))) ?_;intro k o hk ho;dsimp only;refine vw ?_;have N:(((w.cells.take k).map aU.init).map aa).length=k:=by simp;omega
 have h0:o=none->((w.cells.take k).map aU.init).map aa=[]:=λe=>by rw[ho e];rfl
 rcases LE k w.cells.length with G|G
 .have hd:=aS G;have hxx:=aj (f:=aU.enc) G;have htk:w.cells.take (k+1)=w.cells.take k++[w.cells[k]]:=Fn G;generalize hT:w.cells[k]=ck at *;rw[show ck.enc=[.str ck.name,.acU ck.index,.acU ck.size,.bool ck.vol,.acU ck.init]from rfl]at hxx;clear O hL hP;unfold dB;rw[dO]at *
  repeat' (first|refine sx ?_|refine aM rp rp N h0 acP acQ acS acS acP (λj M=>?_)|refine sb λj M=>?_|refine s2 ?_ ?_|intro)
  exact⟨k+1,some j,acN,acN,nofun,ax.pickE (R:=[(b3,_),(b2,_),(bt,_),(E,_),(B,_),(D,_),(u,_),(j,_)]) rp (by rw[av G acN]) (by rw[htk];simp[ab,af,aa,aR])⟩
 .have hd:=aW G;obtain rfl:k=w.cells.length:=by omega
  rw[aaT (Fd _)]at *;cases o with
  |none=>exact absurd (ho rfl) acN
  |some S=>
   have O:=O S;clear hL hP;unfold dB;rw[dO]at *;dsimp only[af,ab]at *
   repeat' (first|refine sy ?_|refine s2 ?_ ?_|intro)
   (refine O _ ?_;exact rp)
theorem K5(w:aF)(h1:w.locks.length<=100)(p1:0<w.locks.length)(h2:w.futures.length<=100)(p2:0<w.futures.length)(h3:w.threads.length<=100)(p3:0<w.threads.length)(h4:w.cells.length<2^40)(p4:0<w.cells.length):ac Tryz.prog 63 [.agg w.enc] [] λv L=>∃u D bt E B j:Nat,v=.agg [.sl u 0 w.locks.length,.acU (-1),.sl D 0 w.futures.length,.sl bt 0 w.threads.length,.sl E 0 w.cells.length,.sl B 0 w.futures.length,.sl j 0 w.threads.length]/\
  L=[(E,⟨1,(w.cells.map aU.init).map aa⟩),(bt,⟨3,(ly w.threads.length).map ThrD.enc⟩),(D,⟨1,(List.replicate w.futures.length false).map au⟩),(u,⟨2,List.replicate w.locks.length o8⟩),(B,⟨1,List.replicate w.futures.length [.acU 0]⟩),(j,⟨1,List.replicate w.threads.length [.acU 0]⟩)]:=by
 have G:=MS w h1 p1 h2 p2 h3 p3;refine ac.fz (rn _ _ _ ?_);refine vw ?_;generalize hQ:(λ(v:AV) (L:SH)=>∃Y L2,ax [v] L [Y] L2/\∃u D bt E B j:Nat,Y=AV.agg [.sl u 0 w.locks.length,.acU (-1),.sl D 0 w.futures.length,.sl bt 0 w.threads.length,.sl E 0 w.cells.length,.sl B 0 w.futures.length,.sl j 0 w.threads.length]/\L2=[(E,(⟨1,(w.cells.map aU.init).map aa⟩:Blk)),(bt,⟨3,(ly w.threads.length).map ThrD.enc⟩),(D,⟨1,(List.replicate w.futures.length false).map au⟩),(u,⟨2,List.replicate w.locks.length o8⟩),(B,⟨1,List.replicate w.futures.length [.acU 0]⟩),(j,⟨1,List.replicate w.threads.length [.acU 0]⟩)])=Q;have Z:=λb2 b3 u D bt B j=>UV w b2 b3 Q h4 p4 u D bt B j _ _ _ _ _ w.locks.length w.futures.length w.threads.length w.futures.length w.threads.length (λE L hL=>by subst hQ;exact⟨_,_,ax.pickE hL rfl rfl,u,D,bt,E,B,j,rfl,rfl⟩)
 clear hQ;unfold dB at Z;rw[dO]at *
 repeat' (first|refine sy ?_|((with_reducible refine aN 100 ?_);(refine fm G (λv_ K_ M=>?_);obtain⟨O,S,N,rfl,rfl⟩:=M;simp only[abX,abK]))|(with_reducible refine cy 100 ?_;refine St G (λv_ K_ M=>?_);obtain⟨O,S,N,rfl,rfl⟩:=M;simp only[abX,abK])|refine s2 ?_ ?_|intro)
 exact Z _ _ _ _ _ _ _ _ acT
end
def FN(ev:List bA)(i:Nat)(t d:Int):Prop:=∃(m:Nat) (hm:m<ev.length),m<i/\(ev[m]).thread=t/\((cg ev t m).length:Int)=d/\((ev[m]).kind=3\/(ev[m]).kind=23)
def K7{ev:List bA}{j:Nat}{t d:Int}(D:j<ev.length):FN ev (j+1) t d↔FN ev j t d\/((ev[j]).thread=t/\((cg ev t j).length:Int)=d/\((ev[j]).kind=3\/(ev[j]).kind=23)):=by
 constructor
 .rintro⟨m,B,E,u⟩;rcases LE m j with g|g
  .exact .inl ⟨m,B,g,u⟩
  .obtain rfl:m=j:=by omega
   exact .inr u
 .rintro(⟨m,B,E,u⟩|h)
  .exact⟨m,B,acN,u⟩
  .exact⟨j,D,acN,h⟩
def Sy{ev:List bA}{j:Nat}{t d:Int}(u:j<ev.length)(h:¬((ev[j]).thread=t/\((cg ev t j).length:Int)=d/\((ev[j]).kind=3\/(ev[j]).kind=23))):lu (FN ev (j+1) t d)=lu (FN ev j t d):=by rw[show FN ev (j+1) t d=FN ev j t d from propext ((K7 u).trans ⟨λx=>x.resolve_right h,.inl⟩)]
def UY{ev:List bA}{j:Nat}{t d:Int}(u:j<ev.length)(h:(ev[j]).thread=t/\((cg ev t j).length:Int)=d/\((ev[j]).kind=3\/(ev[j]).kind=23)):lu (FN ev (j+1) t d)=true:=iG ((K7 u).2 (.inr h))
def DR(ev:List bA)(i:Nat)(t:Int)(l:List Int)(hi:i<=ev.length)(he:ev.length<2^62)(hl:l.length<2^62):aq Tryz.prog 106 [.lst (ev.map bA.enc),.acU i,.acU t,.lst (l.map aa)] (.bool (lu (∀d∈l,FN ev i t d))):=by
 refine NQ AV.bool λQ hq=>Dt _ _ _ _ _ _ ?_
 refine vw ?_;refine cT l.length (λk=>∀m (Z:m<l.length),m<k->FN ev i t l[m]) (λk=>[.lst (ev.map bA.enc),.acU i,.acU t,.lst (l.map aa),.acU k]) hl (λm Z h=>absurd h acN) rfl (λk hk hd hii hG nx hn=>?_) (λk hk hd hG nx=>?_)
 all_goals refine vw ?_
 .have hx:=aj (f:=aa) hk;have E:lu (FN ev i t l[k])=false->∀L,Q (.bool false) L:=λh L=>hq _ L (gU λhall=>by
   rw[iG (hall _ (LT hk))]at h;cases h)
  have G:lu (FN ev i t l[k])=true->nx [.lst (ev.map bA.enc),.acU i,.acU t,.lst (l.map aa),.acU ((k+1:Nat):Int)] []:=λh=>hn λm Z hmk=>by
   rcases LE m k with g|g
   .exact hG m Z g
   .obtain rfl:m=k:=by omega
    exact iH.1 h
  clear hn hq hG;generalize l[k]=d at *;rw[show aa d=[.acU d]from rfl]at hx;have lp:W.loop (Ds Q nx) [.lst (ev.map bA.enc),.acU i,.acU t,.lst (l.map aa),.acU k,.acU (0:Nat),.bool false,.acU (0:Nat)] []:=by
   refine cT i (λ_=>True) (λj=>[.lst (ev.map bA.enc),.acU i,.acU t,.lst (l.map aa),.acU k,.acU ((cg ev t j).length:Nat),.bool (lu (FN ev j t d)),.acU j]) acN trivial (by rw[show lu (FN ev 0 t d)=false from gU λ⟨m,_,h,_⟩=>by omega];rfl) (λj hj hdj hjj _ nx2 B=>?_) (λj hj hdj _ nx2=>?_)
   all_goals refine vw ?_
   .have N:j<ev.length:=by omega
    have hxe:=aj (f:=bA.enc) N;have B:=B trivial;have Y:cg ev t (j+1)=if(ev[j]).thread=t then cg ev t j++[(j:Int)]else cg ev t j:=by rw[eD];simp[N]
    have hle:=ka ev t j;have u:=Sy (t:=t) (d:=d) N;have D:=UY (t:=t) (d:=d) N;rw[Y]at B;clear E G Y;rw[eH]at hxe;by_cases M:(ev[j]).thread=t
    .have d1:decide ((ev[j]).thread=t)=true:=decide_eq_true M;have d1':decide ((ev[j]).thread≠t)=false:=decide_eq_false λh=>h M
     rw[if_pos M,aal,ach]at B;have e1:IntKind.i64.wrap (((cg ev t j).length:Int)+1)=(((cg ev t j).length+1:Nat):Int):=by rw[abg _ acN];omega
     generalize(cg ev t j).length=n at *;cases O:lu (FN ev j t d)with
     |true=>
      have:lu (FN ev (j+1) t d)=true:=by
       by_cases h:(ev[j]).thread=t/\(n:Int)=d/\((ev[j]).kind=3\/(ev[j]).kind=23)
       .exact D h
       .rw[u h,O]
      rw[this]at B;clear u D
      repeat' (first|refine sy ?_|refine s2 ?_ ?_|intro)
      exact B
     |false=>
      by_cases S:(n:Int)=d
      .have d2:decide ((n:Int)=d)=true:=decide_eq_true S;by_cases p3:(ev[j]).kind=3
       .have d3:decide ((ev[j]).kind=3)=true:=decide_eq_true p3;rw[D ⟨M,S,.inl p3⟩]at B;clear u D
        repeat' (first|refine sy ?_|refine s2 ?_ ?_|intro)
        exact B
       .have d3:decide ((ev[j]).kind=3)=false:=decide_eq_false p3;by_cases p4:(ev[j]).kind=23
        .have d4:decide ((ev[j]).kind=23)=true:=decide_eq_true p4;rw[D ⟨M,S,.inr p4⟩]at B;clear u D
         repeat' (first|refine sy ?_|refine s2 ?_ ?_|intro)
         rw[d4];exact B
        .have d4:decide ((ev[j]).kind=23)=false:=decide_eq_false p4;rw[u λh=>by rcases h.2.2 with h|h;exact p3 h;exact p4 h,O]at B;clear u D
         repeat' (first|refine sy ?_|refine s2 ?_ ?_|intro)
         rw[d4];exact B
      .have d2:decide ((n:Int)=d)=false:=decide_eq_false S;rw[u λh=>S h.2.1,O]at B;clear u D
       repeat' (first|refine sy ?_|refine s2 ?_ ?_|intro)
       exact B
    .have d1:decide ((ev[j]).thread=t)=false:=decide_eq_false M;have d1':decide ((ev[j]).thread≠t)=true:=decide_eq_true M;rw[if_neg M,u λh=>M h.1]at B;clear u D
     repeat' (first|refine sy ?_|refine s2 ?_ ?_|intro)
     exact B
   .subst hj;cases O:lu (FN ev j t d)with
    |true=>
     have G:=G O;clear E
     repeat' (first|refine sy ?_|refine s2 ?_ ?_|intro)
     exact G
    |false=>
     have hz:=E O;clear G
     repeat' (first|refine sy ?_|refine s2 ?_ ?_|intro)
     exact hz _
  clear E G
  repeat' (first|refine sy ?_|refine s2 ?_ ?_|intro)
  exact lp
 .have hz:=λL=>hq true L (iG λd hd=>by
   obtain⟨m,Z,rfl⟩:=abC hd;exact hG m Z acN)
  clear hq hG
  repeat' (first|refine sy ?_|refine s2 ?_ ?_|intro)
  exact hz _
