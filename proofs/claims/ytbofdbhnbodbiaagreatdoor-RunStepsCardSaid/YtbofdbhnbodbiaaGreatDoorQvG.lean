/- A part of the proof; the statement is proved in the last part. -/
import Derived.Test.YtbofdbhnbodbiaaGreatDoorQvF
set_option linter.all false
set_option maxRecDepth 100000
set_option maxHeartbeats 20000000
namespace Go.Proofs.YtbofdbhnbodbiaaGreatDoor.Am
def gr(l:List aM)(s:bu):Int:=jv (λx=>decide (x.name=s)) l 0
def iO(l:List aM)(s:bu)(M:l.length<2^62):aq Tryz.prog 133 [.lst (l.map aM.enc),.str s] (.Uf (gr l s)):=by
 refine wA _ _ _ _ ?_;refine vw ?_;refine dy l (λx=>decide (x.name=s)) (λi=>[.lst (l.map aM.enc),.str s,.Uf i]) M rfl (λi D N S j E G=>?_) (λi D N j E=>?_)
 all_goals refine vw ?_
 .have O:=ao (f:=aM.enc) D
  repeat' (first|refine st ?_|refine sb λB u=>?_|refine s2 (λh=>?_) λh=>?_|fail)
  .exact⟨by rw[gr,kQ D j h],rfl⟩
  .exact G h
 .repeat' (first|refine st ?_|refine sb λB u=>?_|refine s2 (λh=>?_) λh=>?_|fail)
  exact⟨by rw[gr,eY j],rfl⟩
def EY(l:List bu)(s:bu)(M:l.length<2^62):TI 108 [.lst (l.map au),.str s]:=by
 refine ti λQ B=>jM _ _ _ _ ?_
 refine vw ?_;refine lw l.length (λi=>[.lst (l.map au),.str s,.Uf i]) M rfl (λi D N S E G=>?_) (λi D N E=>?_)
 all_goals refine vw ?_
 .have O:=ao (f:=au) D
  repeat' (first|refine st ?_|refine sb λu j=>?_|refine s2 (λh=>?_) λh=>?_|fail)
  all_goals first|exact B _ _|exact G
 .repeat' (first|refine st ?_|refine sb λu j=>?_|refine s2 (λh=>?_) λh=>?_|fail)
  exact B _ _
def me(l:List ai)(s:bu)(M:l.length<2^62):TI 134 [.lst (l.map ai.enc),.str s]:=by
 refine ti λQ B=>sF _ _ _ _ ?_
 refine vw ?_;refine lw l.length (λi=>[.lst (l.map ai.enc),.str s,.Uf i]) M rfl (λi D N S E G=>?_) (λi D N E=>?_)
 all_goals refine vw ?_
 .have O:=ao (f:=ai.enc) D
  repeat' (first|refine st ?_|refine sb λu j=>?_|refine s2 (λh=>?_) λh=>?_|fail)
  all_goals first|exact B _ _|exact G
 .repeat' (first|refine st ?_|refine sb λu j=>?_|refine s2 (λh=>?_) λh=>?_|fail)
  exact B _ _
def o5(b:Bool):TI 172 [.bool b]:=by
 refine ti λQ B=>uw _ _ _ ?_
 refine vw ?_
 repeat' (first|refine st ?_|refine sb λu j=>?_|refine s2 (λh=>?_) λh=>?_|fail)
 all_goals exact B _ _
def Mu(a b:Int):TI 169 [.Uf a,.Uf b]:=by
 refine ti λQ B=>Eh _ _ _ _ ?_
 refine vw ?_
 repeat' (first|refine st ?_|refine sb λu j=>?_|refine s2 (λh=>?_) λh=>?_|fail)
 all_goals exact B _ _
def KW(p:bT)(t:Nat)(s:bu)(hw:p.wt<2^40)(ht:t<p.threads.length):∃n:Int,(n=5->∃k:Nat,k<p.decls.length/\gr p.decls s=k)/\aq Tryz.prog 191 [.agg p.enc,.Uf t,.str s] (.Uf n):=by
 have S:=p.decls_len;have O:=p.threads_len;have M:=p.thread_wt ht;have N:p.threads[t].locals.length<p.threads[t].wt:=by unfold ai.wt;omega
 have G:=EY p.threads[t].locals s Ua;have u:=iO p.decls s Ua;have E:=me p.threads s Ua;have d0:decide (0<=(t:Int))=true:=by simp
 have d1:=aW ht;have Z:=ao (f:=ai.enc) ht;refine Sk λQ D=>wB _ _ _ _ _ ?_
 refine vw ?_;rcases ru (p:=λx:aM=>decide (x.name=s)) p.decls 0 with⟨h1,h2⟩|⟨k,h1,h2,h3⟩
 .have e1:gr p.decls s=-1:=h1;rw[e1]at u
  repeat' (first|refine st ?_|(refine pf 108 ?_;refine pm (G) ?_)|(refine pf 133 ?_;refine pm (u) ?_)|(refine pf 134 ?_;refine pm (E) ?_)|refine sb λB j=>?_|refine s2 (λh=>?_) λh=>?_|fail)
  all_goals exact D _ _ (λh=>absurd h Ue)
 .have e1:gr p.decls s=(k:Nat):=by rw[gr,h2];simp
  rw[e1]at u;have d2:decide ((k:Int)<0)=false:=by simp
  have Y:=ao (f:=aM.enc) h1
  repeat' (first|refine st ?_|(refine pf 108 ?_;refine pm (G) ?_)|(refine pf 133 ?_;refine pm (u) ?_)|(refine pf 134 ?_;refine pm (E) ?_)|refine sb λB j=>?_|refine s2 (λh=>?_) λh=>?_|fail)
  all_goals exact D _ _ λ_=>⟨k,h1,e1⟩
def KX(p:bT)(t:Nat)(s:bu)(a b:Int)(B:p.wt<2^40)(ht:t<p.threads.length):TI 170 [.agg p.enc,.Uf t,.str s,.Uf a,.Uf b]:=by
 obtain⟨n,_,E⟩:=KW p t s B ht;refine ti λQ D=>qa _ _ _ _ _ _ _ ?_
 refine vw ?_
 repeat' (first|refine st ?_|(refine pf 191 ?_;refine pm (E) ?_)|refine sb λu j=>?_|refine s2 (λh=>?_) λh=>?_|fail)
 all_goals exact D _ _
def Mv(p:bT)(t:Nat)(s:bu)(D:p.wt<2^40)(ht:t<p.threads.length):∃n:Int,(n=0->∃k:Nat,k<p.decls.length/\gr p.decls s=k)/\aq Tryz.prog 170 [.agg p.enc,.Uf t,.str s,.Uf 5,.Uf 5] (.Uf n):=by
 obtain⟨n,g,G⟩:=KW p t s D ht;refine Sk λQ j=>qa _ _ _ _ _ _ _ ?_
 refine vw ?_
 repeat' (first|refine st ?_|(refine pf 191 ?_;refine pm (G) ?_)|refine sb λB u=>?_|refine s2 (λh=>?_) λh=>?_|fail)
 all_goals first
  |exact j _ _ (λE=>absurd E Ue)
  |exact j _ _ (λ_=>g (by simp_all))
def Mw:∀(k:Nat) (x:aw),x.wt<=k->k<2^40->TE 192 [.agg x.row]:=by
 intro k
 induction k with
 |zero=>intro x h;have:=x.wt_eq;omega
 |succ k G=>
  intro x Z hb;have D:=x.len;refine te λQ M=>yx _ _ _ ?_
  refine vw ?_
  repeat' (first|refine st ?_|refine sb λu j=>?_|refine s2 (λh=>?_) λh=>?_|fail)
  refine BI (β:=Int×Int) x.l.length (λi n=>[.pptr [x.row] 0 0,.Uf n.1,.Uf n.2,.Uf i]) (1,0) Ua rfl (λi n B O hi E N=>?_) (λi n B O E=>?_)
  all_goals refine vw ?_
  .have Y:=yb B;have S:=G x.l[i] (by have:=x.kid B;omega) Ua
   repeat' (first|refine st ?_|(refine pf 192 ?_;refine pm (S) ?_)|refine Gc ?_|refine sb λu j=>?_|refine s2 (λh=>?_) λh=>?_|fail)
   exact N (_,_)
  .repeat' (first|refine st ?_|refine sb λu j=>?_|refine s2 (λh=>?_) λh=>?_|fail)
   exact M _ _ _
def Mx(p:bT)(t:Nat)(O:p.wt<2^40)(ht:t<p.threads.length):∀(k:Nat) (x:aw),x.wt<=k->k<2^40->TI 193 [.agg p.enc,.Uf t,.agg x.row]:=by
 intro k
 induction k with
 |zero=>intro x h;have:=x.wt_eq;omega
 |succ k N=>
  intro x hk hb;have G:=x.len;have cw:=λa b=>KX p t x.name a b O ht
  refine ti λQ E=>yA _ _ _ _ _ ?_
  refine vw ?_;have B:∀r:Int,yz Q [.Uf t,.pptr [p.enc] 0 0,.pptr [x.row] 0 0,.Uf r] []:=by
   intro r;refine vw ?_
   repeat' (first|refine st ?_|refine sb λu j=>?_|refine s2 (λh=>?_) λh=>?_|fail)
   refine BI x.l.length (λi r=>[.Uf t,.pptr [p.enc] 0 0,.pptr [x.row] 0 0,.Uf r,.Uf i]) r Ua rfl (λi r D Y hi M S=>?_) (λi r D Y M=>?_)
   all_goals refine vw ?_
   .have hx:=yb D;have Z:=N x.l[i] (by have:=x.kid D;omega) Ua
    repeat' (first|refine st ?_|(refine pf 193 ?_;refine pm (Z) ?_)|refine sb λu j=>?_|refine s2 (λh=>?_) λh=>?_|fail)
    all_goals first|exact E _ _|exact S _
   .repeat' (first|refine st ?_|refine sb λu j=>?_|refine s2 (λh=>?_) λh=>?_|fail)
    all_goals exact E _ _
  repeat' (first|with_reducible exact B _|refine st ?_|(refine pf 170 ?_;refine pm (cw _ _) ?_)|refine sb λu j=>?_|refine s2 (λh=>?_) λh=>?_|fail)
def OY(p:bT)(t:Nat)(x:aw)(D:p.wt<2^40)(ht:t<p.threads.length)(j:x.wt<2^40):TI 171 [.agg p.enc,.Uf t,.agg x.row]:=by
 have N:=KT _ x (Fd _) j;have M:=Mw _ x (Fd _) j;have G:=Mx p t D ht _ x (Fd _) j;refine ti λQ E=>Ai _ _ _ _ _ ?_
 refine vw ?_
 repeat' (first|refine st ?_|(refine pf 189 ?_;refine pm (N) ?_)|(refine pf 192 ?_;refine pm (M) ?_)|(refine pf 193 ?_;refine pm (G) ?_)|refine sb λB u=>?_|refine s2 (λh=>?_) λh=>?_|fail)
 all_goals exact E _ _
def My:∀(k:Nat) (l:List aa),aa.wts l<=k->k<2^40->TI 92 [.lst (l.map aa.enc)]:=by
 intro k
 induction k using Nat.strongRecOn with
 |_ k D=>
  intro l hl hk;have E:=aa.wts_len l;refine ti λQ O=>yC _ _ _ ?_
  refine vw ?_
  repeat' (first|refine st ?_|refine sb λu j=>?_|refine s2 (λh=>?_) λh=>?_|fail)
  refine BI l.length (λi n=>[.lst (l.map aa.enc),.Uf n,.Uf i]) _ Ua rfl (λi n B Y hi G S=>?_) (λi n B Y G=>?_)
  all_goals refine vw ?_
  .have hx:=Bg B;have M:=aa.wts_get l i B;have N:=(l[i]).wt_eq;have c1:=D _ Ua l[i].body (Fd _) Ua;have Z:=D _ Ua l[i].els (Fd _) Ua
   repeat' (first|refine st ?_|(refine pf 92 ?_;refine pm (c1) ?_)|(refine pf 92 ?_;refine pm (Z) ?_)|refine sb λu j=>?_|refine s2 (λh=>?_) λh=>?_|fail)
   exact S _
  .repeat' (first|refine st ?_|refine sb λu j=>?_|refine s2 (λh=>?_) λh=>?_|fail)
   exact O _ _
def Mz(l:List aM)(hl:l.length<2^40):TE 90 [.lst (l.map aM.enc)]:=by
 refine te λQ B=>zw _ _ _ ?_
 refine vw ?_;refine BI (β:=Int×Int×Int×Int) l.length (λi n=>[.lst (l.map aM.enc),.Uf n.1,.Uf n.2.1,.Uf n.2.2.1,.Uf n.2.2.2,.Uf i]) (0,0,0,0) Ua rfl (λi n O S hi M N=>?_) (λi n O S M=>?_)
 all_goals refine vw ?_
 .have hx:=ao (f:=aM.enc) O;have Y:=iO (l.take i) l[i].name (by rw[ST];omega);have D:=iO (l.take i) l[i].on (by rw[ST];omega);have E:∀a b c d:Int,zu Q M [.lst (l.map aM.enc),.Uf a,.Uf b,.Uf c,.Uf d,.Uf (i:Int),.pptr [l[i].enc] 0 0] []:=by
   intro a b c d;refine vw ?_;rcases ru (p:=λx:aM=>decide (x.name=l[i].on)) (l.take i) 0 with⟨g1,g2⟩|⟨k,g1,g2,g3⟩
   .have e1:gr (l.take i) l[i].on=-1:=g1;rw[e1]at D
    repeat' (first|refine st ?_|refine gq ?_|(refine pf 133 ?_;refine pm (D) ?_)|refine sb λu j=>?_|refine s2 (λh=>?_) λh=>?_|fail)
    all_goals first|exact B _ _ _|exact N (_,_,_,_)
   .have e1:gr (l.take i) l[i].on=(k:Nat):=by rw[gr,g2];simp
    have G:k<l.length:=by rw[ST]at g1;omega
    rw[e1]at D;have Z:=ao (f:=aM.enc) G;have d2:decide ((k:Int)<0)=false:=by simp
    repeat' (first|refine st ?_|refine gq ?_|(refine pf 133 ?_;refine pm (D) ?_)|refine sb λu j=>?_|refine s2 (λh=>?_) λh=>?_|fail)
    all_goals first|exact B _ _ _|exact N (_,_,_,_)
  repeat' (first|with_reducible exact E _ _ _ _|refine st ?_|refine gq ?_|(refine pf 133 ?_;refine pm (Y) ?_)|refine Gc ?_|refine sb λu j=>?_|refine s2 (λh=>?_) λh=>?_|fail)
  all_goals exact B _ _ _
 .repeat' (first|refine st ?_|refine sb λu j=>?_|refine s2 (λh=>?_) λh=>?_|fail)
  exact B _ _ _
def Iy(p:bT)(hw:p.wt<2^40):TE 91 [.agg p.enc]:=by
 have hl1:=p.decls_len;have hl2:=p.threads_len;refine te λQ D=>uN _ _ _ ?_
 refine vw ?_
 repeat' (first|refine st ?_|refine sb λu j=>?_|refine s2 (λh=>?_) λh=>?_|fail)
 refine lw p.threads.length (λi=>[.pptr [p.enc] 0 0,.Uf i]) Ua rfl (λi B M hi E G=>?_) (λi B M E=>?_)
 all_goals refine vw ?_
 .have Z:=ao (f:=ai.enc) B;have O:=iO p.decls p.threads[i].name Ua;have N:=me (p.threads.take i) p.threads[i].name (by rw[ST];omega)
  repeat' (first|refine st ?_|refine gq ?_|(refine pf 133 ?_;refine pm (O) ?_)|(refine pf 134 ?_;refine pm (N) ?_)|refine sb λu j=>?_|refine s2 (λh=>?_) λh=>?_|fail)
  all_goals first|exact D _ _ _|exact G
 .repeat' (first|refine st ?_|refine sb λu j=>?_|refine s2 (λh=>?_) λh=>?_|fail)
  refine lw p.threads.length (λi=>[.pptr [p.enc] 0 0,.Uf i]) Ua rfl (λi B M hi E G=>?_) (λi B M E=>?_)
  all_goals refine vw ?_
  .have Z:=ao (f:=ai.enc) B;generalize p.threads[i]=t at *
   repeat' (first|refine st ?_|refine sb λu j=>?_|refine s2 (λh=>?_) λh=>?_|fail)
   .exact D _ _ _
   .have h4:t.locals.length<=4:=by simp at h;omega
    refine lw t.locals.length (λk=>[.pptr [p.enc] 0 0,.Uf i,.pptr [t.enc] 0 0,.Uf k]) Ua rfl (λk S gd gi Y gn=>?_) (λk S gd Y=>?_)
    all_goals refine vw ?_
    .have hy:=ao (f:=au) S;have O:=iO p.decls t.locals[k] Ua;have N:=me p.threads t.locals[k] Ua;have c3:=EY (t.locals.take k) t.locals[k] (by rw[ST];omega)
     repeat' (first|refine st ?_|refine gq ?_|(refine pf 133 ?_;refine pm (O) ?_)|(refine pf 134 ?_;refine pm (N) ?_)|(refine pf 108 ?_;refine pm (c3) ?_)|refine sb λu j=>?_|refine s2 (λh=>?_) λh=>?_|fail)
     all_goals first|exact D _ _ _|exact gn
    .repeat' (first|refine st ?_|refine sb λu j=>?_|refine s2 (λh=>?_) λh=>?_|fail)
     exact G
  .repeat' (first|refine st ?_|refine sb λu j=>?_|refine s2 (λh=>?_) λh=>?_|fail)
   exact D _ _ _
def Iz(B:Nat)(O N M G E:AV)(o1:Option Nat)(ar:List aa)(k:Nat)(R:SH)(a b:Int)(name:bu)(h0:o1=none->ar=[])(hk:k<=ar.length)(h6:k<=6):
  ac Tryz.prog 168 [.ptr B 0 0,.Uf a,.Uf b,.str name] ((B,⟨6,[[O,N,M,aj o1 k,G,E]]⟩)::(ab o1 11 (ar.map aa.enc)++R)) λu K=>∃r:Bool,u=.bool r/\K=(B,⟨6,[[O,N,M,aj o1 k,G,E]]⟩)::(ab o1 11 (ar.map aa.enc)++R):=by
 refine oK _ _ _ _ _ _ ?_;refine vw ?_;generalize hL:(B,(⟨6,[[O,N,M,aj o1 k,G,E]]⟩:Blk))::(ab o1 11 (ar.map aa.enc)++R)=L;generalize hQ:(λ(u:AV) (K:SH)=>∃r:Bool,u=AV.bool r/\K=L)=Q;have Y:∀r:Bool,Q (.bool r) L:=λr=>by subst hQ;exact⟨r,rfl,rfl⟩
 clear hQ;subst hL;cases o1 with
 |none=>
  have:=h0 rfl;subst this;obtain rfl:k=0:=by simpa using hk
  dsimp only[ab,aj,List.nil_append]at *;refine eB 0 (λ_=>True) (λi=>[.ptr B 0 0,.Uf a,.Uf b,.str name,.Uf i]) Ua trivial rfl (λi h1 Z hi _ S hn=>by omega) (λi h1 Z _ S=>?_);refine vw ?_
  repeat' (first|refine st ?_|refine sb λD j=>?_|refine s2 (λh=>?_) λh=>?_|fail)
  exact Y _
 |some b1=>
  dsimp only[ab,aj,List.cons_append,List.nil_append]at *;refine eB k (λ_=>True) (λi=>[.ptr B 0 0,.Uf a,.Uf b,.str name,.Uf i]) Ua trivial rfl (λi h1 Z hi _ S hn=>?_) (λi h1 Z _ S=>?_)
  all_goals refine vw ?_
  .have hx:=Bg (l:=ar) (i:=i) Ua;generalize ar[i]'Ua=x at *
   repeat' (first|refine st ?_|refine sb λD j=>?_|refine s2 (λh=>?_) λh=>?_|fail)
   all_goals first
    |exact Y _
    |exact hn trivial
  .repeat' (first|refine st ?_|refine sb λD j=>?_|refine s2 (λh=>?_) λh=>?_|fail)
   exact Y _
def KY(o:Option Nat)(l:List bu)(R:SH)(x:bu)(Z:o=none->l=[])(hl:l.length<2^62):
  ac Tryz.prog 108 [aj o l.length,.str x] (ab o 1 (l.map au)++R) λu K=>∃r:Int,u=.Uf r/\K=ab o 1 (l.map au)++R:=by
 refine jM _ _ _ _ ?_;refine vw ?_;generalize Y:ab o 1 (l.map au)++R=L;generalize O:(λ(u:AV) (K:SH)=>∃r:Int,u=AV.Uf r/\K=L)=Q;have G:∀r:Int,Q (.Uf r) L:=λr=>by subst O;exact⟨r,rfl,rfl⟩
 clear O;subst Y;cases o with
 |none=>
  have:=Z rfl;subst this;dsimp only[ab,aj,List.nil_append,List.length_nil]at *;refine eB 0 (λ_=>True) (λi=>[.emp,.str x,.Uf i]) Ua trivial rfl (λi D M S _ E N=>by omega) (λi D M _ E=>?_);refine vw ?_
  repeat' (first|refine st ?_|refine sb λB j=>?_|refine s2 (λh=>?_) λh=>?_|fail)
  exact G _
 |some b1=>
  dsimp only[ab,aj,List.cons_append,List.nil_append]at *;refine eB l.length (λ_=>True) (λi=>[.sl b1 0 l.length,.str x,.Uf i]) Ua trivial rfl (λi D M S _ E N=>?_) (λi D M _ E=>?_)
  all_goals refine vw ?_
  .have hx:=ao (f:=au) D
   repeat' (first|refine st ?_|refine sb λB j=>?_|refine s2 (λh=>?_) λh=>?_|fail)
   all_goals first
    |exact G _
    |exact N trivial
  .repeat' (first|refine st ?_|refine sb λB j=>?_|refine s2 (λh=>?_) λh=>?_|fail)
   exact G _
end Go.Proofs.YtbofdbhnbodbiaaGreatDoor.Am
