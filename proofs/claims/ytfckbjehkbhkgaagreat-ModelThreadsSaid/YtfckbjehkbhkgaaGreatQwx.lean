/- part -/
import Derived.Test.YtfckbjehkbhkgaaGreatQws
import Derived.Test.YtfckbjehkbhkgaaGreatQww
set_option linter.all false
set_option maxRecDepth 100000
set_option maxHeartbeats 0
namespace Go.Proofs.YtfckbjehkbhkgaaGreat.Am
def kf{w:aG}(H:eT w):Av w:=by
 have N:=dT.1 H.fit;have B:∀k (u:k<w.ev.length),OkP w.w (ew w k) w.ev[k]:=λk u=>hM.1 (o4 H u)
 refine⟨H.len,by have:=H.world.d2;omega,λe G=>?_,H.evs,λe G=>?_,λn O=>(H.cnt n O).1,N.2.2.2⟩
 .obtain⟨k,u,rfl⟩:=abC G;exact(B k u).thr
 .obtain⟨k,u,rfl⟩:=abC G;have D:=B k u;have j:=D.thr;rw[<-N.2.2.2]at j;obtain⟨_,hc⟩:=w8 H j k acN;have S:=ka w.ev w.ev[k].thread k;have E:=H.len;have Z:aT w.init w.ev[k].thread<=400:=by
   obtain⟨a,b⟩:=ao.1 j;have E:w.ev[k].thread.toNat<w.init.count.length:=by omega
   have:=H.cnt _ (LT E);unfold aT;simp only[List.getD,mt E,abS];exact this.2
  have M:∀l,qN l (aT (ew w k) w.ev[k].thread)->∀d∈l,d<9223372036854775808:=λl h d Y=>by obtain⟨i,hi,rfl⟩:=abC Y;have:=(h i hi).2.1;omega
  exact⟨M _ D.nd,M _ D.nf⟩
def Ol{w:aG}(H:eT w):w.init.sync.locks.length<=4/\w.init.sync.done.length<=2/\w.init.sync.threads.length<=4/\(∀l∈w.init.sync.locks,l.readers.length<=400)/\w.init.cells.length<=12/\w.init.futures.length<=2:=by have B:=dT.1 H.fit;have u:=cH.1 B.1;have j:=H.world;exact⟨by rw[u.locks];exact j.l4,by rw[u.done];exact j.f2,by rw[u.threads];exact j.t4,H.rd,by rw[B.2.1];exact j.c12,by rw[B.2.2.1];exact j.f2⟩
def Dx{w:aG}(H:eT w):aq Tryz.prog 13 [.agg w.enc] (.agg (bN w).enc):=by obtain⟨a,b,c,d,e,f⟩:=Ol H;exact Mw w (kf H) acN acN acN (λl h=>by have:=d l h;omega) acN acN
def GC{w:aG}(H:eT w):aq Tryz.prog 12 [.agg w.enc] (.agg (gr (bN w) .nils)):=by obtain⟨a,b,c,d,e,f⟩:=Ol H;exact Mx w (kf H) acN acN acN (λl h=>by have:=d l h;omega) acN acN
def yM{P:Program}{g:FuncId}{args args2:List AV}{v:AV}{L L2:SH}{KL:R}(h:aq P g args2 v)(j:ax args L args2 L2)(u:KL v L2):W.callM P g args L KL:=⟨ac.pre j (h.call u)⟩
def gt:aq Tryz.prog 23 [] (.bool true):=by
 have u:=aq.of_ok Xh;have j:=aq.of_ok Xj;have B:=aq.of_ok UA;refine ac.fz (B8 _ _ ?_);refine vw ?_;unfold Uu at u j B;unfold W9 at j B;unfold Ys at u
 repeat' (first|refine sy ?_|((with_reducible refine aN 55 ?_);(refine yM u (ax.drop (L:=[_]) (K:=[_]) (R:=[]) (.refl _) rfl (fy.at_ (.cons (.refl _) (.cons (Fz.sls (l:=[0,0,0]) (f:=λn:Int=>[.int .u8 n]) (size:=1) (.head _) rfl acR rfl) (.cons (.refl _) (.cons (.refl _) .nil))))).2) ?_))|((with_reducible refine aN 26 ?_);(refine yM j (ax.drop (L:=[_]) (K:=[_]) (R:=[]) (.refl _) rfl (fy.at_ (.cons (.refl _) (.cons (Fz.sls (l:=[0]) (f:=λn:Int=>[.acU n,.acU n]) (size:=2) (.head _) rfl acR rfl) .nil))).2) ?_))|refine s2 ?_ ?_|intro)
 exact⟨_,[],ax.all (.refl _),acQ,rfl⟩
def iL(l:List aZ)(s:bU):Int:=lm (λx=>decide (x.name=s)) l 0
def ky(l:List aZ)(s:bU)(E:l.length<2^62):aq Tryz.prog 179 [.lst (l.map aZ.enc),.str s] (.acU (iL l s)):=by
 refine zX _ _ _ _ ?_;refine vw ?_;refine eO l (λx=>decide (x.name=s)) (λi=>[.lst (l.map aZ.enc),.str s,.acU i]) E rfl (λi u G N j B D=>?_) (λi u G j B=>?_)
 all_goals refine vw ?_
 .have M:=aj (f:=aZ.enc) u
  repeat' (first|refine sy ?_|refine s2 (λh=>?_) λh=>?_|intro)
  .exact⟨by rw[iL,mR u j h],rfl⟩
  .exact D h
 .repeat' (first|refine sy ?_|refine s2 ?_ ?_|intro)
  exact⟨by rw[iL,gz j],rfl⟩
def KW(l:List bU)(s:bU)(E:l.length<2^62):TI 118 [.lst (l.map ay),.str s]:=by
 refine ti λQ j=>lM _ _ _ _ ?_
 refine vw ?_;refine nI l.length (λi=>[.lst (l.map ay),.str s,.acU i]) E rfl (λi u G N B D=>?_) (λi u G B=>?_)
 all_goals refine vw ?_
 .have M:=aj (f:=ay) u
  repeat' (first|refine sy ?_|refine s2 ?_ ?_|intro)
  all_goals first|exact j _ _|exact D
 .repeat' (first|refine sy ?_|refine s2 ?_ ?_|intro)
  exact j _ _
def o6(l:List am)(s:bU)(E:l.length<2^62):TI 180 [.lst (l.map am.enc),.str s]:=by
 refine ti λQ j=>vM _ _ _ _ ?_
 refine vw ?_;refine nI l.length (λi=>[.lst (l.map am.enc),.str s,.acU i]) E rfl (λi u G N B D=>?_) (λi u G B=>?_)
 all_goals refine vw ?_
 .have M:=aj (f:=am.enc) u
  repeat' (first|refine sy ?_|refine s2 ?_ ?_|intro)
  all_goals first|exact j _ _|exact D
 .repeat' (first|refine sy ?_|refine s2 ?_ ?_|intro)
  exact j _ _
def rY(b:Bool):TI 202 [.bool b]:=by
 refine ti λQ j=>xR _ _ _ ?_
 refine vw ?_
 repeat' (first|refine sy ?_|refine s2 ?_ ?_|intro)
 all_goals exact j _ _
def UO(a b:Int):TI 199 [.acU a,.acU b]:=by
 refine ti λQ j=>JU _ _ _ _ ?_
 refine vw ?_
 repeat' (first|refine sy ?_|refine s2 ?_ ?_|intro)
 all_goals exact j _ _
def So(p:cJ)(t:Nat)(s:bU)(S:p.wt<2^40)(ht:t<p.threads.length):∃n:Int,(n=5->∃k:Nat,k<p.decls.length/\iL p.decls s=k)/\aq Tryz.prog 207 [.agg p.enc,.acU t,.str s] (.acU n):=by
 have M:=p.decls_len;have G:=p.threads_len;have D:=p.thread_wt ht;have E:p.threads[t].locals.length<p.threads[t].wt:=by unfold am.wt;omega
 have c1:=KW p.threads[t].locals s acN;have B:=ky p.decls s acN;have c3:=o6 p.threads s acN;have d0:decide (0<=(t:Int))=true:=by simp
 have Z:=aS ht;have O:=aj (f:=am.enc) ht;refine tig λQ u=>zY _ _ _ _ _ ?_
 refine vw ?_;rcases uM (p:=λx:aZ=>decide (x.name=s)) p.decls 0 with⟨h1,h2⟩|⟨k,h1,h2,h3⟩
 .have j:iL p.decls s=-1:=h1;rw[j]at B
  repeat' (first|refine sy ?_|refine s2 ?_ ?_|intro)
  all_goals exact u _ _ (λh=>absurd h acR)
 .have j:iL p.decls s=(k:Nat):=by rw[iL,h2];simp
  rw[j]at B;have Y:decide ((k:Int)<0)=false:=by simp
  have N:=aj (f:=aZ.enc) h1
  repeat' (first|refine sy ?_|refine s2 ?_ ?_|intro)
  all_goals exact u _ _ λ_=>⟨k,h1,j⟩
def Sp(p:cJ)(t:Nat)(s:bU)(a b:Int)(j:p.wt<2^40)(ht:t<p.threads.length):TI 200 [.agg p.enc,.acU t,.str s,.acU a,.acU b]:=by
 obtain⟨n,_,B⟩:=So p t s j ht;refine ti λQ u=>tu _ _ _ _ _ _ _ ?_
 refine vw ?_
 repeat' (first|refine sy ?_|refine s2 ?_ ?_|intro)
 all_goals exact u _ _
def UP(p:cJ)(t:Nat)(s:bU)(u:p.wt<2^40)(ht:t<p.threads.length):∃n:Int,(n=0->∃k:Nat,k<p.decls.length/\iL p.decls s=k)/\aq Tryz.prog 200 [.agg p.enc,.acU t,.str s,.acU 5,.acU 5] (.acU n):=by
 obtain⟨n,g,D⟩:=So p t s u ht;refine tig λQ j=>tu _ _ _ _ _ _ _ ?_
 refine vw ?_
 repeat' (first|refine sy ?_|refine s2 ?_ ?_|intro)
 all_goals first
  |exact j _ _ (λB=>absurd B acR)
  |exact j _ _ (λ_=>g (by simp_all))
def UQ:∀(k:Nat) (x:aB),x.wt<=k->k<2^40->TE 208 [.agg x.row]:=by
 intro k
 induction k with
 |zero=>intro x h;have:=x.wt_eq;omega
 |succ k D=>
  intro x O Z;have u:=x.len;refine te λQ E=>BX _ _ _ ?_
  refine vw ?_
  repeat' (first|refine sy ?_|refine s2 ?_ ?_|intro)
  refine Gy (β:=Int×Int) x.l.length (λi n=>[.pptr [x.row] 0 0,.acU n.1,.acU n.2,.acU i]) (1,0) acN rfl (λi n j M S B G=>?_) (λi n j M B=>?_)
  all_goals refine vw ?_
  .have N:=BO j;have Y:=D x.l[i] (by have:=x.kid j;omega) acN
   repeat' (first|refine sy ?_|refine My ?_|refine s2 ?_ ?_|intro)
   exact G (_,_)
  .repeat' (first|refine sy ?_|refine s2 ?_ ?_|intro)
   exact E _ _ _
def UR(p:cJ)(t:Nat)(M:p.wt<2^40)(ht:t<p.threads.length):∀(k:Nat) (x:aB),x.wt<=k->k<2^40->TI 209 [.agg p.enc,.acU t,.agg x.row]:=by
 intro k
 induction k with
 |zero=>intro x h;have:=x.wt_eq;omega
 |succ k G=>
  intro x Z hb;have D:=x.len;have S:=λa b=>Sp p t x.name a b M ht
  refine ti λQ B=>BZ _ _ _ _ _ ?_
  refine vw ?_;have j:∀r:Int,BY Q [.acU t,.pptr [p.enc] 0 0,.pptr [x.row] 0 0,.acU r] []:=by
   intro r;refine vw ?_
   repeat' (first|refine sy ?_|refine s2 ?_ ?_|intro)
   refine Gy x.l.length (λi r=>[.acU t,.pptr [p.enc] 0 0,.pptr [x.row] 0 0,.acU r,.acU i]) r acN rfl (λi r u O hi E N=>?_) (λi r u O E=>?_)
   all_goals refine vw ?_
   .have Y:=BO u;have hc:=G x.l[i] (by have:=x.kid u;omega) acN
    repeat' (first|refine sy ?_|refine s2 ?_ ?_|intro)
    all_goals first|exact B _ _|exact N _
   .repeat' (first|refine sy ?_|refine s2 ?_ ?_|intro)
    all_goals exact B _ _
  repeat' (first|with_reducible exact j _|refine sy ?_|(refine pf 200 ?_;refine pm (S _ _) ?_)|refine s2 ?_ ?_|intro)
def Xu(p:cJ)(t:Nat)(x:aB)(u:p.wt<2^40)(ht:t<p.threads.length)(j:x.wt<2^40):TI 201 [.agg p.enc,.acU t,.agg x.row]:=by
 have G:=R6 _ x (Fd _) j;have E:=UQ _ x (Fd _) j;have D:=UR p t u ht _ x (Fd _) j;refine ti λQ B=>Es _ _ _ _ _ ?_
 refine vw ?_
 repeat' (first|refine sy ?_|refine s2 ?_ ?_|intro)
 all_goals exact B _ _
def US:∀(k:Nat) (l:List ae),ae.wts l<=k->k<2^40->TI 156 [.lst (l.map ae.enc)]:=by
 intro k
 induction k using Nat.strongRecOn with
 |_ k u=>
  intro l Y Z;have B:=ae.wts_len l;refine ti λQ M=>B6 _ _ _ ?_
  refine vw ?_
  repeat' (first|refine sy ?_|refine s2 ?_ ?_|intro)
  refine Gy l.length (λi n=>[.lst (l.map ae.enc),.acU n,.acU i]) _ acN rfl (λi n j O hi D N=>?_) (λi n j O D=>?_)
  all_goals refine vw ?_
  .have S:=Gb j;have E:=ae.wts_get l i j;have G:=(l[i]).wt_eq;have c1:=u _ acN l[i].body (Fd _) acN;have c2:=u _ acN l[i].els (Fd _) acN
   repeat' (first|refine sy ?_|refine s2 ?_ ?_|intro)
   exact N _
  .repeat' (first|refine sy ?_|refine s2 ?_ ?_|intro)
   exact M _ _
def UT(l:List aZ)(Z:l.length<2^40):TE 154 [.lst (l.map aZ.enc)]:=by
 refine te λQ j=>DA _ _ _ ?_
 refine vw ?_;refine Gy (β:=Int×Int×Int×Int) l.length (λi n=>[.lst (l.map aZ.enc),.acU n.1,.acU n.2.1,.acU n.2.2.1,.acU n.2.2.2,.acU i]) (0,0,0,0) acN rfl (λi n M O hi E G=>?_) (λi n M O E=>?_)
 all_goals refine vw ?_
 .have Y:=aj (f:=aZ.enc) M;have c1:=ky (l.take i) l[i].name (by rw[abm];omega);have N:=ky (l.take i) l[i].on (by rw[abm];omega);have u:∀a b c d:Int,Dz Q E [.lst (l.map aZ.enc),.acU a,.acU b,.acU c,.acU d,.acU (i:Int),.pptr [l[i].enc] 0 0] []:=by
   intro a b c d;refine vw ?_;rcases uM (p:=λx:aZ=>decide (x.name=l[i].on)) (l.take i) 0 with⟨g1,g2⟩|⟨k,g1,g2,g3⟩
   .have D:iL (l.take i) l[i].on=-1:=g1;rw[D]at N
    repeat' (first|refine sy ?_|refine iJ ?_|refine s2 ?_ ?_|intro)
    all_goals first|exact j _ _ _|exact G (_,_,_,_)
   .have D:iL (l.take i) l[i].on=(k:Nat):=by rw[iL,g2];simp
    have B:k<l.length:=by rw[abm]at g1;omega
    rw[D]at N;have S:=aj (f:=aZ.enc) B;have d2:decide ((k:Int)<0)=false:=by simp
    repeat' (first|refine sy ?_|refine iJ ?_|refine s2 ?_ ?_|intro)
    all_goals first|exact j _ _ _|exact G (_,_,_,_)
  repeat' (first|with_reducible exact u _ _ _ _|refine sy ?_|refine iJ ?_|refine My ?_|refine s2 ?_ ?_|intro)
  all_goals exact j _ _ _
 .repeat' (first|refine sy ?_|refine s2 ?_ ?_|intro)
  exact j _ _ _
def PF(p:cJ)(hw:p.wt<2^40):TE 155 [.agg p.enc]:=by
 have S:=p.decls_len;have O:=p.threads_len;refine te λQ u=>yN _ _ _ ?_
 refine vw ?_
 repeat' (first|refine sy ?_|refine s2 (λh=>?_) λh=>?_|intro)
 refine nI p.threads.length (λi=>[.pptr [p.enc] 0 0,.acU i]) acN rfl (λi j E Y B D=>?_) (λi j E B=>?_)
 all_goals refine vw ?_
 .have N:=aj (f:=am.enc) j;have c1:=ky p.decls p.threads[i].name acN;have c2:=o6 (p.threads.take i) p.threads[i].name (by rw[abm];omega)
  repeat' (first|refine sy ?_|refine iJ ?_|refine s2 ?_ ?_|intro)
  all_goals first|exact u _ _ _|exact D
 .repeat' (first|refine sy ?_|refine s2 (λh=>?_) λh=>?_|intro)
  refine nI p.threads.length (λi=>[.pptr [p.enc] 0 0,.acU i]) acN rfl (λi j E Y B D=>?_) (λi j E B=>?_)
  all_goals refine vw ?_
  .have N:=aj (f:=am.enc) j;generalize p.threads[i]=t at *
   repeat' (first|refine sy ?_|refine s2 (λh=>?_) λh=>?_|intro)
   .exact u _ _ _
   .have h4:t.locals.length<=4:=by simp at h;omega
    refine nI t.locals.length (λk=>[.pptr [p.enc] 0 0,.acU i,.pptr [t.enc] 0 0,.acU k]) acN rfl (λk G gd gi M Z=>?_) (λk G gd M=>?_)
    all_goals refine vw ?_
    .have hy:=aj (f:=ay) G;have c1:=ky p.decls t.locals[k] acN;have c2:=o6 p.threads t.locals[k] acN;have c3:=KW (t.locals.take k) t.locals[k] (by rw[abm];omega)
     repeat' (first|refine sy ?_|refine iJ ?_|refine s2 ?_ ?_|intro)
     all_goals first|exact u _ _ _|exact Z
    .repeat' (first|refine sy ?_|refine s2 ?_ ?_|intro)
     exact D
  .repeat' (first|refine sy ?_|refine s2 ?_ ?_|intro)
   exact u _ _ _
def PI(j:Nat)(v0 E v2 D B:AV)(o1:Option Nat)(ar:List ae)(k:Nat)(R:SH)(a b:Int)(name:bU)(h0:o1=none->ar=[])(Z:k<=ar.length)(h6:k<=6):
  ac Tryz.prog 198 [.ptr j 0 0,.acU a,.acU b,.str name] ((j,⟨6,[[v0,E,v2,af o1 k,D,B]]⟩)::(ab o1 11 (ar.map ae.enc)++R)) λu K=>∃r:Bool,u=.bool r/\K=(j,⟨6,[[v0,E,v2,af o1 k,D,B]]⟩)::(ab o1 11 (ar.map ae.enc)++R):=by
 refine rB _ _ _ _ _ _ ?_;refine vw ?_;generalize hL:(j,(⟨6,[[v0,E,v2,af o1 k,D,B]]⟩:Blk))::(ab o1 11 (ar.map ae.enc)++R)=L;generalize Y:(λ(u:AV) (K:SH)=>∃r:Bool,u=AV.bool r/\K=L)=Q;have M:∀r:Bool,Q (.bool r) L:=λr=>by subst Y;exact⟨r,rfl,rfl⟩
 clear Y;subst hL;cases o1 with
 |none=>
  have:=h0 rfl;subst this;obtain rfl:k=0:=by simpa using Z
  dsimp only[ab,af,List.nil_append]at *;refine cT 0 (λ_=>True) (λi=>[.ptr j 0 0,.acU a,.acU b,.str name,.acU i]) acN trivial rfl (λi O N hi _ G S=>by omega) (λi O N _ G=>?_);refine vw ?_
  repeat' (first|refine sy ?_|refine s2 ?_ ?_|intro)
  exact M _
 |some b1=>
  dsimp only[ab,af,List.cons_append,List.nil_append]at *;refine cT k (λ_=>True) (λi=>[.ptr j 0 0,.acU a,.acU b,.str name,.acU i]) acN trivial rfl (λi O N hi _ G S=>?_) (λi O N _ G=>?_)
  all_goals refine vw ?_
  .have hx:=Gb (l:=ar) (i:=i) acN;generalize ar[i]'acN=x at *
   repeat' (first|refine sy ?_|refine s2 ?_ ?_|intro)
   all_goals first
    |exact M _
    |exact S trivial
  .repeat' (first|refine sy ?_|refine s2 ?_ ?_|intro)
   exact M _
def Sq(o:Option Nat)(l:List bU)(R:SH)(x:bU)(S:o=none->l=[])(hl:l.length<2^62):
  ac Tryz.prog 118 [af o l.length,.str x] (ab o 1 (l.map ay)++R) λu K=>∃r:Int,u=.acU r/\K=ab o 1 (l.map ay)++R:=by
 refine lM _ _ _ _ ?_;refine vw ?_;generalize O:ab o 1 (l.map ay)++R=L;generalize M:(λ(u:AV) (K:SH)=>∃r:Int,u=AV.acU r/\K=L)=Q;have D:∀r:Int,Q (.acU r) L:=λr=>by subst M;exact⟨r,rfl,rfl⟩
 clear M;subst O;cases o with
 |none=>
  have:=S rfl;subst this;dsimp only[ab,af,List.nil_append,List.length_nil]at *;refine cT 0 (λ_=>True) (λi=>[.emp,.str x,.acU i]) acN trivial rfl (λi j E N _ B G=>by omega) (λi j E _ B=>?_);refine vw ?_
  repeat' (first|refine sy ?_|refine s2 ?_ ?_|intro)
  exact D _
 |some Y=>
  dsimp only[ab,af,List.cons_append,List.nil_append]at *;refine cT l.length (λ_=>True) (λi=>[.sl Y 0 l.length,.str x,.acU i]) acN trivial rfl (λi j E N _ B G=>?_) (λi j E _ B=>?_)
  all_goals refine vw ?_
  .have Z:=aj (f:=ay) j
   repeat' (first|refine sy ?_|refine s2 ?_ ?_|intro)
   all_goals first
    |exact D _
    |exact G trivial
  .repeat' (first|refine sy ?_|refine s2 ?_ ?_|intro)
   exact D _
def tV:RF:=nv (bQ Tryz.prog Tryz.f93 [] [(0,[3])])
abbrev FG(a b:AV)(L:SH)(Q:R):Prop:=Pc tV 20 Q 0 [] [a,b] L
def DK(u j:AV)(L:SH)(Q:R)(h:FG u j L Q):ac Tryz.prog 93 [u,j] L Q:=
 fv tV Tryz.func93 h
def eV:RF:=nv (bQ Tryz.prog Tryz.f60 [(27022,⟨[0,4,5,6,7,15,16],[9],false,[]⟩),(87,⟨[0,4,5,142,143],[],true,[]⟩),(87082,⟨[0,4,5],[],true,[]⟩),(78073,⟨[0,4,5],[],true,[]⟩),(42,⟨[0,4,5,63,64],[],true,[]⟩),(9,⟨[0,4,5,15,16],[],true,[]⟩)] [(0,[3])])
abbrev uT(Q:R):Vs->SH->Kn->Prop:=Lp eV 15 Q 87 []
abbrev jU(Q:R):Vs->SH->Kn->Prop:=Lp eV 18 Q 42 []
abbrev sU(Q:R):Vs->SH->Kn->Prop:=Lp eV 19 Q 9 []
abbrev xn(a b:AV)(L:SH)(Q:R):Prop:=Pc eV 20 Q 0 [] [a,b] L
def uU(u j:AV)(L:SH)(Q:R)(h:xn u j L Q):ac Tryz.prog 60 [u,j] L Q:=
 fv eV Tryz.func60 h
def rD:RF:=nv (bQ Tryz.prog Tryz.f113 [(69064,⟨[0,2,33],[],true,[]⟩),(60055,⟨[0,2,7,26],[],true,[]⟩),(39034,⟨[0,2,7,21],[],true,[]⟩),(24019,⟨[0,2,7,16],[],true,[]⟩),(15010,⟨[0,2,7,8],[],true,[]⟩)] [])
abbrev DL(a b c:AV)(L:SH)(Q:R):Prop:=Pc rD 20 Q 0 [] [a,b,c] L
def AK(B u j:AV)(L:SH)(Q:R)(h:DL B u j L Q):ac Tryz.prog 113 [B,u,j] L Q:=
 fv rD Tryz.func113 h
def jL:RF:=nv (bQ Tryz.prog Tryz.f143 [(9,⟨[3,8,9,10],[],true,[]⟩)] [(0,[1]),(4,[5])])
abbrev yU(Q:R):Vs->SH->Kn->Prop:=Lp jL 19 Q 9 []
abbrev AL(a:AV)(L:SH)(Q:R):Prop:=Pc jL 20 Q 0 [] [a] L
def yV(j:AV)(L:SH)(Q:R)(h:AL j L Q):ac Tryz.prog 143 [j] L Q:=
 fv jL Tryz.func143 h
def tW:RF:=nv (bQ Tryz.prog Tryz.f114 [(27022,⟨[0,5,10,24],[],true,[]⟩)] [(0,[5])])
abbrev FH(a b c d:AV)(L:SH)(Q:R):Prop:=Pc tW 20 Q 0 [] [a,b,c,d] L
def DM(D B u j:AV)(L:SH)(Q:R)(h:FH D B u j L Q):ac Tryz.prog 114 [D,B,u,j] L Q:=
 fv tW Tryz.func114 h
def o9:RF:=nv (bQ Tryz.prog Tryz.f115 [(9,⟨[0,1,5,8,9,10],[],true,[]⟩)] [])
abbrev FI(Q:R):Vs->SH->Kn->Prop:=Lp o9 19 Q 9 []
abbrev IC(a b:AV)(L:SH)(Q:R):Prop:=Pc o9 20 Q 0 [] [a,b] L
def FJ(u j:AV)(L:SH)(Q:R)(h:IC u j L Q):ac Tryz.prog 115 [u,j] L Q:=
 fv o9 Tryz.func115 h
def tX:RF:=nv (bQ Tryz.prog Tryz.f112 [] [])
abbrev FK(L:SH)(Q:R):Prop:=Pc tX 20 Q 0 [] [] L
def DN(L:SH)(Q:R)(h:FK L Q):ac Tryz.prog 112 [] L Q:=
 fv tX Tryz.func112 h
def tY:RF:=nv (bQ Tryz.prog Tryz.f94 [(33028,⟨[0,3,8,9,11],[],true,[]⟩),(21016,⟨[0,3,5,6,8,9,11],[],true,[]⟩)] [(0,[5,6])])
abbrev FL(a b c d:AV)(L:SH)(Q:R):Prop:=Pc tY 20 Q 0 [] [a,b,c,d] L
def DO(D B u j:AV)(L:SH)(Q:R)(h:FL D B u j L Q):ac Tryz.prog 94 [D,B,u,j] L Q:=
 fv tY Tryz.func94 h
def kg:RF:=nv (bQ Tryz.prog Tryz.f61 [(48043,⟨[0,3,6,7,11,12,14,15],[27],false,[]⟩),(27,⟨[0,3,6,7,11,12],[],true,[]⟩),(12,⟨[0,3,4,6,7,11,12,22,23],[],true,[]⟩)] [(0,[7]),(10,[14]),(11,[15])])
abbrev tZ(Q:R):Vs->SH->Kn->Prop:=Lp kg 18 Q 27 []
abbrev t6(Q:R):Vs->SH->Kn->Prop:=Lp kg 19 Q 12 []
abbrev ID(a b c d e:AV)(L:SH)(Q:R):Prop:=Pc kg 20 Q 0 [] [a,b,c,d,e] L
def FM(E D B u j:AV)(L:SH)(Q:R)(h:ID E D B u j L Q):ac Tryz.prog 61 [E,D,B,u,j] L Q:=
 fv kg Tryz.func61 h
def ld:RF:=nv (bQ Tryz.prog Tryz.f38 [(21,⟨[1,4,5,6,26,27,28],[],true,[]⟩),(12007,⟨[0,1,4],[],true,[]⟩)] [])
abbrev AM(Q:R):Vs->SH->Kn->Prop:=Lp ld 18 Q 21 []
abbrev DP(a b:AV)(L:SH)(Q:R):Prop:=Pc ld 20 Q 0 [] [a,b] L
def AN(u j:AV)(L:SH)(Q:R)(h:DP u j L Q):ac Tryz.prog 38 [u,j] L Q:=
 fv ld Tryz.func38 h
