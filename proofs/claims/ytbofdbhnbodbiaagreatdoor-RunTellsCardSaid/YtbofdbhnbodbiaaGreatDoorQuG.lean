/- A part of the proof; the statement is proved in the last part. -/
import Derived.Test.YtbofdbhnbodbiaaGreatDoorQuF
set_option linter.all false
set_option maxRecDepth 100000
set_option maxHeartbeats 20000000
namespace Go.Proofs.YtbofdbhnbodbiaaGreatDoor.Am
def gy(l:List aN)(s:bv):Int:=jC (λx=>decide (x.name=s)) l 0
def iV(l:List aN)(s:bv)(M:l.length<2^62):aq Tryz.prog 133 [.lst (l.map aN.enc),.str s] (.U1 (gy l s)):=by
 refine wS _ _ _ _ ?_;refine vw ?_;refine dt l (λx=>decide (x.name=s)) (λi=>[.lst (l.map aN.enc),.str s,.U1 i]) M rfl (λi D N S j E G=>?_) (λi D N j E=>?_)
 all_goals refine vw ?_
 .have O:=am (f:=aN.enc) D
  repeat' (first|refine st ?_|refine sb λB u=>?_|refine s2 (λh=>?_) λh=>?_|fail)
  .exact⟨by rw[gy,kZ D j h],rfl⟩
  .exact G h
 .repeat' (first|refine st ?_|refine sb λB u=>?_|refine s2 (λh=>?_) λh=>?_|fail)
  exact⟨by rw[gy,fg j],rfl⟩
def Fu(l:List bv)(s:bv)(M:l.length<2^62):TI 108 [.lst (l.map au),.str s]:=by
 refine ti λQ B=>jT _ _ _ _ ?_
 refine vw ?_;refine lH l.length (λi=>[.lst (l.map au),.str s,.U1 i]) M rfl (λi D N S E G=>?_) (λi D N E=>?_)
 all_goals refine vw ?_
 .have O:=am (f:=au) D
  repeat' (first|refine st ?_|refine sb λu j=>?_|refine s2 (λh=>?_) λh=>?_|fail)
  all_goals first|exact B _ _|exact G
 .repeat' (first|refine st ?_|refine sb λu j=>?_|refine s2 (λh=>?_) λh=>?_|fail)
  exact B _ _
def mu(l:List ai)(s:bv)(M:l.length<2^62):TI 134 [.lst (l.map ai.enc),.str s]:=by
 refine ti λQ B=>sU _ _ _ _ ?_
 refine vw ?_;refine lH l.length (λi=>[.lst (l.map ai.enc),.str s,.U1 i]) M rfl (λi D N S E G=>?_) (λi D N E=>?_)
 all_goals refine vw ?_
 .have O:=am (f:=ai.enc) D
  repeat' (first|refine st ?_|refine sb λu j=>?_|refine s2 (λh=>?_) λh=>?_|fail)
  all_goals first|exact B _ _|exact G
 .repeat' (first|refine st ?_|refine sb λu j=>?_|refine s2 (λh=>?_) λh=>?_|fail)
  exact B _ _
def pq(b:Bool):TI 172 [.bool b]:=by
 refine ti λQ B=>uM _ _ _ ?_
 refine vw ?_
 repeat' (first|refine st ?_|refine sb λu j=>?_|refine s2 (λh=>?_) λh=>?_|fail)
 all_goals exact B _ _
def M5(a b:Int):TI 169 [.U1 a,.U1 b]:=by
 refine ti λQ B=>EQ _ _ _ _ ?_
 refine vw ?_
 repeat' (first|refine st ?_|refine sb λu j=>?_|refine s2 (λh=>?_) λh=>?_|fail)
 all_goals exact B _ _
def Lx(p:bU)(t:Nat)(s:bv)(hw:p.wt<2^40)(ht:t<p.threads.length):∃n:Int,(n=5->∃k:Nat,k<p.decls.length/\gy p.decls s=k)/\aq Tryz.prog 191 [.agg p.enc,.U1 t,.str s] (.U1 n):=by
 have S:=p.decls_len;have O:=p.threads_len;have M:=p.thread_wt ht;have N:p.threads[t].locals.length<p.threads[t].wt:=by unfold ai.wt;omega
 have G:=Fu p.threads[t].locals s UW;have u:=iV p.decls s UW;have E:=mu p.threads s UW;have d0:decide (0<=(t:Int))=true:=by simp
 have d1:=aS ht;have Z:=am (f:=ai.enc) ht;refine S4 λQ D=>wT _ _ _ _ _ ?_
 refine vw ?_;rcases rM (p:=λx:aN=>decide (x.name=s)) p.decls 0 with⟨h1,h2⟩|⟨k,h1,h2,h3⟩
 .have e1:gy p.decls s=-1:=h1;rw[e1]at u
  repeat' (first|refine st ?_|(refine pf 108 ?_;refine pm (G) ?_)|(refine pf 133 ?_;refine pm (u) ?_)|(refine pf 134 ?_;refine pm (E) ?_)|refine sb λB j=>?_|refine s2 (λh=>?_) λh=>?_|fail)
  all_goals exact D _ _ (λh=>absurd h U0)
 .have e1:gy p.decls s=(k:Nat):=by rw[gy,h2];simp
  rw[e1]at u;have d2:decide ((k:Int)<0)=false:=by simp
  have Y:=am (f:=aN.enc) h1
  repeat' (first|refine st ?_|(refine pf 108 ?_;refine pm (G) ?_)|(refine pf 133 ?_;refine pm (u) ?_)|(refine pf 134 ?_;refine pm (E) ?_)|refine sb λB j=>?_|refine s2 (λh=>?_) λh=>?_|fail)
  all_goals exact D _ _ λ_=>⟨k,h1,e1⟩
def Ly(p:bU)(t:Nat)(s:bv)(a b:Int)(B:p.wt<2^40)(ht:t<p.threads.length):TI 170 [.agg p.enc,.U1 t,.str s,.U1 a,.U1 b]:=by
 obtain⟨n,_,E⟩:=Lx p t s B ht;refine ti λQ D=>qn _ _ _ _ _ _ _ ?_
 refine vw ?_
 repeat' (first|refine st ?_|(refine pf 191 ?_;refine pm (E) ?_)|refine sb λu j=>?_|refine s2 (λh=>?_) λh=>?_|fail)
 all_goals exact D _ _
def M6(p:bU)(t:Nat)(s:bv)(D:p.wt<2^40)(ht:t<p.threads.length):∃n:Int,(n=0->∃k:Nat,k<p.decls.length/\gy p.decls s=k)/\aq Tryz.prog 170 [.agg p.enc,.U1 t,.str s,.U1 5,.U1 5] (.U1 n):=by
 obtain⟨n,g,G⟩:=Lx p t s D ht;refine S4 λQ j=>qn _ _ _ _ _ _ _ ?_
 refine vw ?_
 repeat' (first|refine st ?_|(refine pf 191 ?_;refine pm (G) ?_)|refine sb λB u=>?_|refine s2 (λh=>?_) λh=>?_|fail)
 all_goals first
  |exact j _ _ (λE=>absurd E U0)
  |exact j _ _ (λ_=>g (by simp_all))
def M7:∀(k:Nat) (x:ax),x.wt<=k->k<2^40->TE 192 [.agg x.row]:=by
 intro k
 induction k with
 |zero=>intro x h;have:=x.wt_eq;omega
 |succ k G=>
  intro x Z hb;have D:=x.len;refine te λQ M=>yQ _ _ _ ?_
  refine vw ?_
  repeat' (first|refine st ?_|refine sb λu j=>?_|refine s2 (λh=>?_) λh=>?_|fail)
  refine B8 (β:=Int×Int) x.l.length (λi n=>[.pptr [x.row] 0 0,.U1 n.1,.U1 n.2,.U1 i]) (1,0) UW rfl (λi n B O hi E N=>?_) (λi n B O E=>?_)
  all_goals refine vw ?_
  .have Y:=yx B;have S:=G x.l[i] (by have:=x.kid B;omega) UW
   repeat' (first|refine st ?_|(refine pf 192 ?_;refine pm (S) ?_)|refine GJ ?_|refine sb λu j=>?_|refine s2 (λh=>?_) λh=>?_|fail)
   exact N (_,_)
  .repeat' (first|refine st ?_|refine sb λu j=>?_|refine s2 (λh=>?_) λh=>?_|fail)
   exact M _ _ _
def M8(p:bU)(t:Nat)(O:p.wt<2^40)(ht:t<p.threads.length):∀(k:Nat) (x:ax),x.wt<=k->k<2^40->TI 193 [.agg p.enc,.U1 t,.agg x.row]:=by
 intro k
 induction k with
 |zero=>intro x h;have:=x.wt_eq;omega
 |succ k N=>
  intro x hk hb;have G:=x.len;have cw:=λa b=>Ly p t x.name a b O ht
  refine ti λQ E=>yS _ _ _ _ _ ?_
  refine vw ?_;have B:∀r:Int,yR Q [.U1 t,.pptr [p.enc] 0 0,.pptr [x.row] 0 0,.U1 r] []:=by
   intro r;refine vw ?_
   repeat' (first|refine st ?_|refine sb λu j=>?_|refine s2 (λh=>?_) λh=>?_|fail)
   refine B8 x.l.length (λi r=>[.U1 t,.pptr [p.enc] 0 0,.pptr [x.row] 0 0,.U1 r,.U1 i]) r UW rfl (λi r D Y hi M S=>?_) (λi r D Y M=>?_)
   all_goals refine vw ?_
   .have hx:=yx D;have Z:=N x.l[i] (by have:=x.kid D;omega) UW
    repeat' (first|refine st ?_|(refine pf 193 ?_;refine pm (Z) ?_)|refine sb λu j=>?_|refine s2 (λh=>?_) λh=>?_|fail)
    all_goals first|exact E _ _|exact S _
   .repeat' (first|refine st ?_|refine sb λu j=>?_|refine s2 (λh=>?_) λh=>?_|fail)
    all_goals exact E _ _
  repeat' (first|with_reducible exact B _|refine st ?_|(refine pf 170 ?_;refine pm (cw _ _) ?_)|refine sb λu j=>?_|refine s2 (λh=>?_) λh=>?_|fail)
def PF(p:bU)(t:Nat)(x:ax)(D:p.wt<2^40)(ht:t<p.threads.length)(j:x.wt<2^40):TI 171 [.agg p.enc,.U1 t,.agg x.row]:=by
 have N:=Lu _ x (Te _) j;have M:=M7 _ x (Te _) j;have G:=M8 p t D ht _ x (Te _) j;refine ti λQ E=>AA _ _ _ _ _ ?_
 refine vw ?_
 repeat' (first|refine st ?_|(refine pf 189 ?_;refine pm (N) ?_)|(refine pf 192 ?_;refine pm (M) ?_)|(refine pf 193 ?_;refine pm (G) ?_)|refine sb λB u=>?_|refine s2 (λh=>?_) λh=>?_|fail)
 all_goals exact E _ _
def M9:∀(k:Nat) (l:List aa),aa.wts l<=k->k<2^40->TI 92 [.lst (l.map aa.enc)]:=by
 intro k
 induction k using Nat.strongRecOn with
 |_ k D=>
  intro l hl hk;have E:=aa.wts_len l;refine ti λQ O=>yU _ _ _ ?_
  refine vw ?_
  repeat' (first|refine st ?_|refine sb λu j=>?_|refine s2 (λh=>?_) λh=>?_|fail)
  refine B8 l.length (λi n=>[.lst (l.map aa.enc),.U1 n,.U1 i]) _ UW rfl (λi n B Y hi G S=>?_) (λi n B Y G=>?_)
  all_goals refine vw ?_
  .have hx:=BD B;have M:=aa.wts_get l i B;have N:=(l[i]).wt_eq;have c1:=D _ UW l[i].body (Te _) UW;have Z:=D _ UW l[i].els (Te _) UW
   repeat' (first|refine st ?_|(refine pf 92 ?_;refine pm (c1) ?_)|(refine pf 92 ?_;refine pm (Z) ?_)|refine sb λu j=>?_|refine s2 (λh=>?_) λh=>?_|fail)
   exact S _
  .repeat' (first|refine st ?_|refine sb λu j=>?_|refine s2 (λh=>?_) λh=>?_|fail)
   exact O _ _
def Na(l:List aN)(hl:l.length<2^40):TE 90 [.lst (l.map aN.enc)]:=by
 refine te λQ B=>zN _ _ _ ?_
 refine vw ?_;refine B8 (β:=Int×Int×Int×Int) l.length (λi n=>[.lst (l.map aN.enc),.U1 n.1,.U1 n.2.1,.U1 n.2.2.1,.U1 n.2.2.2,.U1 i]) (0,0,0,0) UW rfl (λi n O S hi M N=>?_) (λi n O S M=>?_)
 all_goals refine vw ?_
 .have hx:=am (f:=aN.enc) O;have Y:=iV (l.take i) l[i].name (by rw[TJ];omega);have D:=iV (l.take i) l[i].on (by rw[TJ];omega);have E:∀a b c d:Int,zM Q M [.lst (l.map aN.enc),.U1 a,.U1 b,.U1 c,.U1 d,.U1 (i:Int),.pptr [l[i].enc] 0 0] []:=by
   intro a b c d;refine vw ?_;rcases rM (p:=λx:aN=>decide (x.name=l[i].on)) (l.take i) 0 with⟨g1,g2⟩|⟨k,g1,g2,g3⟩
   .have e1:gy (l.take i) l[i].on=-1:=g1;rw[e1]at D
    repeat' (first|refine st ?_|refine gx ?_|(refine pf 133 ?_;refine pm (D) ?_)|refine sb λu j=>?_|refine s2 (λh=>?_) λh=>?_|fail)
    all_goals first|exact B _ _ _|exact N (_,_,_,_)
   .have e1:gy (l.take i) l[i].on=(k:Nat):=by rw[gy,g2];simp
    have G:k<l.length:=by rw[TJ]at g1;omega
    rw[e1]at D;have Z:=am (f:=aN.enc) G;have d2:decide ((k:Int)<0)=false:=by simp
    repeat' (first|refine st ?_|refine gx ?_|(refine pf 133 ?_;refine pm (D) ?_)|refine sb λu j=>?_|refine s2 (λh=>?_) λh=>?_|fail)
    all_goals first|exact B _ _ _|exact N (_,_,_,_)
  repeat' (first|with_reducible exact E _ _ _ _|refine st ?_|refine gx ?_|(refine pf 133 ?_;refine pm (Y) ?_)|refine GJ ?_|refine sb λu j=>?_|refine s2 (λh=>?_) λh=>?_|fail)
  all_goals exact B _ _ _
 .repeat' (first|refine st ?_|refine sb λu j=>?_|refine s2 (λh=>?_) λh=>?_|fail)
  exact B _ _ _
def I7(p:bU)(hw:p.wt<2^40):TE 91 [.agg p.enc]:=by
 have hl1:=p.decls_len;have hl2:=p.threads_len;refine te λQ D=>vg _ _ _ ?_
 refine vw ?_
 repeat' (first|refine st ?_|refine sb λu j=>?_|refine s2 (λh=>?_) λh=>?_|fail)
 refine lH p.threads.length (λi=>[.pptr [p.enc] 0 0,.U1 i]) UW rfl (λi B M hi E G=>?_) (λi B M E=>?_)
 all_goals refine vw ?_
 .have Z:=am (f:=ai.enc) B;have O:=iV p.decls p.threads[i].name UW;have N:=mu (p.threads.take i) p.threads[i].name (by rw[TJ];omega)
  repeat' (first|refine st ?_|refine gx ?_|(refine pf 133 ?_;refine pm (O) ?_)|(refine pf 134 ?_;refine pm (N) ?_)|refine sb λu j=>?_|refine s2 (λh=>?_) λh=>?_|fail)
  all_goals first|exact D _ _ _|exact G
 .repeat' (first|refine st ?_|refine sb λu j=>?_|refine s2 (λh=>?_) λh=>?_|fail)
  refine lH p.threads.length (λi=>[.pptr [p.enc] 0 0,.U1 i]) UW rfl (λi B M hi E G=>?_) (λi B M E=>?_)
  all_goals refine vw ?_
  .have Z:=am (f:=ai.enc) B;generalize p.threads[i]=t at *
   repeat' (first|refine st ?_|refine sb λu j=>?_|refine s2 (λh=>?_) λh=>?_|fail)
   .exact D _ _ _
   .have h4:t.locals.length<=4:=by simp at h;omega
    refine lH t.locals.length (λk=>[.pptr [p.enc] 0 0,.U1 i,.pptr [t.enc] 0 0,.U1 k]) UW rfl (λk S gd gi Y gn=>?_) (λk S gd Y=>?_)
    all_goals refine vw ?_
    .have hy:=am (f:=au) S;have O:=iV p.decls t.locals[k] UW;have N:=mu p.threads t.locals[k] UW;have c3:=Fu (t.locals.take k) t.locals[k] (by rw[TJ];omega)
     repeat' (first|refine st ?_|refine gx ?_|(refine pf 133 ?_;refine pm (O) ?_)|(refine pf 134 ?_;refine pm (N) ?_)|(refine pf 108 ?_;refine pm (c3) ?_)|refine sb λu j=>?_|refine s2 (λh=>?_) λh=>?_|fail)
     all_goals first|exact D _ _ _|exact gn
    .repeat' (first|refine st ?_|refine sb λu j=>?_|refine s2 (λh=>?_) λh=>?_|fail)
     exact G
  .repeat' (first|refine st ?_|refine sb λu j=>?_|refine s2 (λh=>?_) λh=>?_|fail)
   exact D _ _ _
def I8(B:Nat)(O N M G E:AV)(o1:Option Nat)(ar:List aa)(k:Nat)(R:SH)(a b:Int)(name:bv)(h0:o1=none->ar=[])(hk:k<=ar.length)(h6:k<=6):
  ac Tryz.prog 168 [.ptr B 0 0,.U1 a,.U1 b,.str name] ((B,⟨6,[[O,N,M,aj o1 k,G,E]]⟩)::(ab o1 11 (ar.map aa.enc)++R)) λu K=>∃r:Bool,u=.bool r/\K=(B,⟨6,[[O,N,M,aj o1 k,G,E]]⟩)::(ab o1 11 (ar.map aa.enc)++R):=by
 refine oX _ _ _ _ _ _ ?_;refine vw ?_;generalize hL:(B,(⟨6,[[O,N,M,aj o1 k,G,E]]⟩:Blk))::(ab o1 11 (ar.map aa.enc)++R)=L;generalize hQ:(λ(u:AV) (K:SH)=>∃r:Bool,u=AV.bool r/\K=L)=Q;have Y:∀r:Bool,Q (.bool r) L:=λr=>by subst hQ;exact⟨r,rfl,rfl⟩
 clear hQ;subst hL;cases o1 with
 |none=>
  have:=h0 rfl;subst this;obtain rfl:k=0:=by simpa using hk
  dsimp only[ab,aj,List.nil_append]at *;refine dw 0 (λ_=>True) (λi=>[.ptr B 0 0,.U1 a,.U1 b,.str name,.U1 i]) UW trivial rfl (λi h1 Z hi _ S hn=>by omega) (λi h1 Z _ S=>?_);refine vw ?_
  repeat' (first|refine st ?_|refine sb λD j=>?_|refine s2 (λh=>?_) λh=>?_|fail)
  exact Y _
 |some b1=>
  dsimp only[ab,aj,List.cons_append,List.nil_append]at *;refine dw k (λ_=>True) (λi=>[.ptr B 0 0,.U1 a,.U1 b,.str name,.U1 i]) UW trivial rfl (λi h1 Z hi _ S hn=>?_) (λi h1 Z _ S=>?_)
  all_goals refine vw ?_
  .have hx:=BD (l:=ar) (i:=i) UW;generalize ar[i]'UW=x at *
   repeat' (first|refine st ?_|refine sb λD j=>?_|refine s2 (λh=>?_) λh=>?_|fail)
   all_goals first
    |exact Y _
    |exact hn trivial
  .repeat' (first|refine st ?_|refine sb λD j=>?_|refine s2 (λh=>?_) λh=>?_|fail)
   exact Y _
def Lz(o:Option Nat)(l:List bv)(R:SH)(x:bv)(Z:o=none->l=[])(hl:l.length<2^62):
  ac Tryz.prog 108 [aj o l.length,.str x] (ab o 1 (l.map au)++R) λu K=>∃r:Int,u=.U1 r/\K=ab o 1 (l.map au)++R:=by
 refine jT _ _ _ _ ?_;refine vw ?_;generalize Y:ab o 1 (l.map au)++R=L;generalize O:(λ(u:AV) (K:SH)=>∃r:Int,u=AV.U1 r/\K=L)=Q;have G:∀r:Int,Q (.U1 r) L:=λr=>by subst O;exact⟨r,rfl,rfl⟩
 clear O;subst Y;cases o with
 |none=>
  have:=Z rfl;subst this;dsimp only[ab,aj,List.nil_append,List.length_nil]at *;refine dw 0 (λ_=>True) (λi=>[.emp,.str x,.U1 i]) UW trivial rfl (λi D M S _ E N=>by omega) (λi D M _ E=>?_);refine vw ?_
  repeat' (first|refine st ?_|refine sb λB j=>?_|refine s2 (λh=>?_) λh=>?_|fail)
  exact G _
 |some b1=>
  dsimp only[ab,aj,List.cons_append,List.nil_append]at *;refine dw l.length (λ_=>True) (λi=>[.sl b1 0 l.length,.str x,.U1 i]) UW trivial rfl (λi D M S _ E N=>?_) (λi D M _ E=>?_)
  all_goals refine vw ?_
  .have hx:=am (f:=au) D
   repeat' (first|refine st ?_|refine sb λB j=>?_|refine s2 (λh=>?_) λh=>?_|fail)
   all_goals first
    |exact G _
    |exact N trivial
  .repeat' (first|refine st ?_|refine sb λB j=>?_|refine s2 (λh=>?_) λh=>?_|fail)
   exact G _
end Go.Proofs.YtbofdbhnbodbiaaGreatDoor.Am
