/- part -/
import Derived.Test.YtfckbjehkbhkgaaGreatQwT
import Derived.Test.YtfckbjehkbhkgaaGreatQwBb
import Derived.Test.YtfckbjehkbhkgaaGreatRows
set_option linter.all false
set_option maxRecDepth 100000
set_option maxHeartbeats 0
namespace Go.Proofs.YtfckbjehkbhkgaaGreat.Am
section
open Go.RowKit
def Oi{P:Program}{g:FuncId}{args:List AV}{o:Option Nat}{n:Nat}{rows:List (List AV)}{L j:SH}{R1 KL:AV->SH->Prop}(h:ac P g args (ab o n rows) R1)(G:eG o n rows L j)(E:∀v B,R1 v B->KL v (j++B)):W.callM P g args L KL:=⟨.perm (h.frame G.perm λu K D=>⟨j++K,aar,E u K D⟩)⟩
def Py{w:aG}{j c:aP}{l:List aD}{k:Nat}(u:k<l.length)(h:dE w j (l.take k)=some c):dE w j (l.take (k+1))=c8 w c l[k].thread l[k].wake:=by rw[Fn u];exact rj _ _ h
def Pz{w:aG}{j c:aP}{l:List aD}{k:Nat}(B:k<l.length)(h:dE w j (l.take k)=some c)(u:c8 w c l[k].thread l[k].wake=none):dE w j l=none:=by
 have e:l=l.take k++l[k]::l.drop (k+1):=by rw[<-List.drop_eq_getElem_cons B,acr]
 rw[e,run_app _ _ h];unfold dE;rw[u]
def UJ(w:aG)(l:List aD)(W0:Av w)(WP:oK w.w)(H0:jK w (bN w))(hst:aq Tryz.prog 12 [.agg w.enc] (.agg (gr (bN w) .nils)))(hl:l.length<2^40):aq Tryz.prog 26 [.agg w.enc,.lst (l.map aD.enc)] (nH (dE w (bN w) l)):=by
 refine ac.fz (HG _ _ _ _ ?_);refine vw ?_;generalize O:(λ(v:AV) (L:SH)=>∃v2 L2,ax [v] L [v2] L2/\v2=nH (dE w (bN w) l)/\L2=[])=Q;have lp:∀G M:Nat,W.loop (HE Q) [.pptr [w.enc] 0 0,.ptr G 0 0,.ptr M 0 0,.lst (l.map aD.enc),.acU l.length,.acU (0:Nat)] [(M,⟨9,[gr (bN w) .nils]⟩),(G,⟨9,[cP]⟩)]:=by
  intro G M;refine aL l.length (λk (p:aP×Option Nat)=>([.pptr [w.enc] 0 0,.ptr G 0 0,.ptr M 0 0,.lst (l.map aD.enc),.acU l.length,.acU k],(M,⟨9,[gr p.1 (my p.2 p.1.order.length)]⟩)::(G,⟨9,[cP]⟩)::ab p.2 1 (p.1.order.map aa))) (λk p=>dE w (bN w) (l.take k)=some p.1/\jK w p.1/\(p.2=none->p.1.order=[])) (bN w,none) ⟨rfl,H0,λ_=>rfl⟩ (.refl _ _) ?_;rintro k ⟨c,o⟩ hk ⟨Y,H,Z⟩;dsimp only at Y H Z ⊢;refine vw ?_;rcases Nat.lt_or_ge k l.length with N|N
  .have hd:=aS N;have hx:=aj (f:=aD.enc) N;have B:=Py N Y;have E:=Pz N Y;generalize l[k]=ch at *;obtain⟨ct,cw⟩:=ch;unfold aD.enc at hx;dsimp only at hx B E;have D:=λn=>rV (w:=w) (c:=c) (n:=n) (t:=ct) (wake:=cw) H
   cases S:c8 w c ct cw with
   |none=>
    have hz:∀L,Q (.tup [.agg [.nils,.acU 0,.nils,.nils,.nils,.nils,.nils,.nils,.nils],.bool false]) L:=λL=>by subst O;refine⟨_,[],ax.all (Fz.tups (.cons (Fz.aggs (m:=aP.zero.enc) ?_) (.cons (.refl _) .nil))),by rw[E S];rfl,rfl⟩;exact fl
    clear O B E D;have u:=Dk w c ct cw W0 WP H o Z;unfold MD at u;rw[S]at u;dsimp only at u;unfold cP;rw[bj,dG]at *
    repeat' (first|refine sy ?_|((with_reducible refine aN 21 ?_);(refine Oi u rp ?_;(rintro _ _ ⟨rfl,rfl⟩;dsimp only[List.cons_append,List.nil_append])))|refine s2 ?_ ?_|intro)
    exact hz _
   |some n=>
    rw[S]at B;have D:=D n S;clear O E;have fin:∀(b:Nat) (L:SH),cO L ((M,(⟨9,[gr n (.sl b 0 n.order.length)]⟩:Blk))::(G,⟨9,[cP]⟩)::ab (some b) 1 (n.order.map aa))->∃(j:Nat) (p:aP×Option Nat),k<j/\j<=l.length/\(dE w (bN w) (l.take j)=some p.1/\jK w p.1/\(p.2=none->p.1.order=[]))/\ax [.pptr [w.enc] 0 0,.ptr G 0 0,.ptr M 0 0,.lst (l.map aD.enc),.acU l.length,.acU (IntKind.i64.wrap ((k:Int)+1))] L
      [.pptr [w.enc] 0 0,.ptr G 0 0,.ptr M 0 0,.lst (l.map aD.enc),.acU l.length,.acU j] ((M,⟨9,[gr p.1 (my p.2 p.1.order.length)]⟩)::(G,⟨9,[cP]⟩)::ab p.2 1 (p.1.order.map aa)):=λb L hL=>
     ⟨k+1,(n,some b),acN,acN,⟨B,D,nofun⟩,by rw[av N acN];exact ax.pickE hL rfl rfl⟩
    clear B D;have u:=Dk w c ct cw W0 WP H o Z;unfold MD at u;rw[S]at u;dsimp only at u;unfold cP at fin ⊢;rw[bj,dG]at *
    repeat' (first|refine sy ?_|((with_reducible refine aN 21 ?_);(refine Oi u rp ?_;(rintro _ _ ⟨bn,rfl,rfl⟩;dsimp only[List.cons_append,List.nil_append])))|refine s2 ?_ ?_|intro)
    exact fin _ _ rp
  .have hd:=aW N;obtain rfl:k=l.length:=by omega
   rw[aaT (Fd _)]at Y;have hz:∀L,(∀q∈ab o 1 (c.order.map aa),q∈L)->Q (.tup [.agg (gr c (my o c.order.length)),.bool true]) L:=λL hm=>by
    subst O;refine⟨_,[],ax.all (Fz.tups (.cons (Fz.aggs (m:=c.enc) ?_) (.cons (.refl _) .nil))),by rw[Y];rfl,rfl⟩;rw[cG,dG];refine .cons (.refl _) (.cons (.refl _) (.cons (.refl _) (.cons (.refl _) (.cons (.refl _) (.cons (.refl _) (.cons ?_ (.cons (.refl _) (.cons (.refl _) .nil))))))));cases o with
    |none=>rw[Z rfl];exact .nils
    |some b=>exact Fz.sls (hm _ (.head _)) rfl acR rfl
   clear O;unfold cP;rw[bj,dG]at *;cases o
   all_goals
    dsimp only[ab,my]at *
    repeat' (first|refine sy ?_|refine s2 ?_ ?_|intro)
    exact hz _ acQ
 clear O;unfold cP at lp;rw[bj,dG]at *
 repeat' (first|refine sy ?_|refine s2 ?_ ?_|intro)
 exact lp _ _
end
section
def kU(w:aG)(c:aP)(t:Int):List Int:=if 0<=dK w c t/\(jA w (dK w c t)).kind=18/\jw c.sync (jA w (dK w c t)).obj≠[]then jw c.sync (jA w (dK w c t)).obj else [-1]
theorem ML(w:aG)(c:aP)(t:Int)(W0:Av w)(ho:c.order.length<2^62)(E:c.sync.threads.length<2^40):aq Tryz.prog 56 [.agg w.enc,.agg c.enc,.acU t] (.lst ((kU w c t).map aa)):=by
 have D:=ku w c t W0.lw ho;refine ac.fz (Cc _ _ _ _ _ ?_);refine vw ?_;generalize M:(λ(v:AV) (L:SH)=>∃N Y,ax [v] L [N] Y/\N=AV.lst ((kU w c t).map aa)/\Y=[])=Q;have j:kU w c t=[-1]->∀b L,(b,(⟨1,[[.acU (-1)]]⟩:Blk))∈L->Q (.sl b 0 1) L:=λh b L hm=>by subst M;rw[h];exact⟨_,[],ax.all (Fz.sls (l:=[(-1:Int)]) hm rfl acR rfl),rfl,rfl⟩
 have u:∀l:List Int,kU w c t=l->∀L,Q (.lst (l.map aa)) L:=λl h L=>by subst M;rw[h];exact⟨_,[],ax.all (.refl _),rfl,rfl⟩
 clear M;rcases kq w c t with⟨e,_⟩|⟨k,S,e,_⟩
 .have B:=j (by unfold kU;rw[e,if_neg acN]);rw[e]at D;rw[bj,cG]at *;clear j u
  repeat' (first|refine sy ?_|refine s2 ?_ ?_|intro)
  exact B _ _ acQ
 .have O:=KR c.sync (w.ev[k]).obj E;have G:kU w c t=if(w.ev[k]).kind=18/\jw c.sync (w.ev[k]).obj≠[]then jw c.sync (w.ev[k]).obj else [-1]:=by unfold kU;rw[e,gq S];simp
  have Z:=qS S;rw[eH]at Z;rw[e]at D;have d1:decide ((k:Int)>=0)=true:=decide_eq_true acN;have d1':decide ((0:Int)<=(k:Int))=true:=decide_eq_true acN;rw[show SyncD.enc c.sync=[.lst (c.sync.locks.map LockD.enc),.acU c.sync.tx,.lst (c.sync.done.map au),.lst (c.sync.threads.map ThrD.enc)]from rfl]at O;rw[bj,cG]at *;by_cases p:(w.ev[k]).kind=18
  .have d2:decide ((w.ev[k]).kind=18)=true:=decide_eq_true p;by_cases q:jw c.sync (w.ev[k]).obj=[]
   .have B:=j (by rw[G,if_neg λx=>x.2 q]);rw[q]at O;have d3:decide ((0:Int)<(((([]:List Int).map aa).length:Nat):Int))=false:=by decide
    clear j u
    repeat' (first|refine sy ?_|refine s2 ?_ ?_|intro)
    exact B _ _ acQ
   .have B:=u (jw c.sync (w.ev[k]).obj) (by rw[G,if_pos ⟨p,q⟩]);have d3:decide ((0:Int)<((jw c.sync (w.ev[k]).obj).length:Int))=true:=decide_eq_true (by have:=acE.2 q;omega);clear j u
    repeat' (first|refine sy ?_|refine s2 ?_ ?_|intro)
    exact B _
  .have d2:decide ((w.ev[k]).kind=18)=false:=decide_eq_false p;have B:=j (by rw[G,if_neg λx=>p x.1]);clear j u
   repeat' (first|refine sy ?_|refine s2 ?_ ?_|intro)
   exact B _ _ acQ
theorem ax.vals2{vs j:List AV}{L L2:SH}(e:L=L2)(h:fy [] vs j):ax vs L j L2:=by subst e;exact ax.vals h
section
variable (w:aG) (nums:List Int) (bz bc:Nat)
def It(c:aP)(p:List aD)(o:Option Nat)(lc:List aD)(ol:Option Nat):SH:=(bc,⟨9,[c.enc]⟩)::(bz,⟨9,[cP]⟩)::(ab o 2 (p.map aD.enc)++ab ol 2 (lc.map aD.enc))
theorem ZT(c:aP)(p D:List aD)(o Z:Option Nat)(i t:Nat)(B:List Int)(hks:B.length<2^40)(hlc:D.length<2^40)(hol:Z=none->D=[])(O:W.Kn)
  (hn:∀(u:List aD) (M:Option Nat) (L:SH),(∀x∈u,x∈D\/x.thread=t)->u.length<=D.length+B.length->(B≠[]->u≠[])->(M=none->u=[])->cO L (It bz bc c p o u M)->O [.lst (nums.map aa),.pptr [w.enc] 0 0,.ptr bz 0 0,.ptr bc 0 0,af o p.length,.acU i,af M u.length,.acU ((t+1:Nat):Int)] L) (ht:IntKind.i64.wrap ((t:Int)+1)=((t+1:Nat):Int)) :
  W.loop (Fx O) [.lst (nums.map aa),.pptr [w.enc] 0 0,.ptr bz 0 0,.ptr bc 0 0,af o p.length,.acU i,af Z D.length,.acU t,.lst (B.map aa),.acU (0:Nat)] (It bz bc c p o D Z):=by
 refine aL B.length (λj (q:List aD×Option Nat)=>([.lst (nums.map aa),.pptr [w.enc] 0 0,.ptr bz 0 0,.ptr bc 0 0,af o p.length,.acU i,af q.2 q.1.length,.acU t,.lst (B.map aa),.acU j],It bz bc c p o q.1 q.2)) (λj q=>(∀x∈q.1,x∈D\/x.thread=t)/\q.1.length=D.length+j/\(q.2=none->q.1=[])) (D,Z) ⟨λx G=>.inl G,rfl,hol⟩ (.refl _ _) ?_;rintro j ⟨E,o1⟩ hj ⟨h1,h2,h3⟩;dsimp only at h1 h2 h3 ⊢;refine vw ?_;rcases Nat.lt_or_ge j B.length with g|g
 .have hd:=aS g;have G:=aj (f:=aa) g;have Y:(E.map aD.enc).length=E.length:=by simp
  have h0:o1=none->E.map aD.enc=[]:=λe=>by rw[h3 e];rfl
  generalize B[j]=kj at *;rw[show aa kj=[.acU kj]from rfl]at G;have fin:∀(nb:Nat) (L:SH) (m:Nat),m=E.length+1->cO L ((bc,(⟨9,[c.enc]⟩:Blk))::(bz,⟨9,[cP]⟩)::(ab o 2 (p.map aD.enc)++ab (some nb) 2 (E.map aD.enc++[[.acU (t:Int),.acU kj]])))->∃(j':Nat) (q:List aD×Option Nat),j<j'/\j'<=B.length/\((∀x∈q.1,x∈D\/x.thread=t)/\q.1.length=D.length+j'/\(q.2=none->q.1=[]))/\ax [.lst (nums.map aa),.pptr [w.enc] 0 0,.ptr bz 0 0,.ptr bc 0 0,af o p.length,.acU i,.sl nb 0 m,.acU t,.lst (B.map aa),.acU (IntKind.i64.wrap ((j:Int)+1))] L
    [.lst (nums.map aa),.pptr [w.enc] 0 0,.ptr bz 0 0,.ptr bc 0 0,af o p.length,.acU i,af q.2 q.1.length,.acU t,.lst (B.map aa),.acU j'] (It bz bc c p o q.1 q.2):=λnb L m hm hL=>
   ⟨j+1,(E++[⟨t,kj⟩],some nb),acN,acN,⟨λx G=>by
    rcases aak.1 G with G|G
    .exact h1 x G
    .rw[aag.1 G];exact .inr rfl,acS,nofun⟩,by
    rw[av g acN,hm];exact ax.pickE hL (by simp[af]) (by simp[It,ab,aD.enc])⟩
  clear hn;have hpl:∀e:o1=none,E.length=0:=λe=>by rw[h3 e];rfl
  unfold It;generalize E.map aD.enc=X at *;rw[bj,cG]at *;cases o
  all_goals
   dsimp only[ab,af,List.nil_append,List.cons_append]at *
   repeat' (first|refine sx ?_|refine aM rp rp Y h0 acP acQ acS acS acP (λN S=>?_)|refine sb λN S=>?_|refine s2 ?_ ?_|intro)
   exact fin N _ _ rfl rp
 .have hd:=aW g;obtain rfl:j=B.length:=by omega
  have hz:=hn E o1 (It bz bc c p o E o1) h1 acN (λhne e=>by have:=acE.2 hne;rw[e]at h2;simp at h2;omega) h3 (by unfold It;repeat constructor);clear hn;unfold It at *;rw[bj,cG]at *
  repeat' (first|refine sy ?_|refine s2 ?_ ?_|intro)
  exact hz
theorem PA(c:aP)(t:Int)(h:c.sync.threads.length<=4):(kU w c t).length<=4/\kU w c t≠[]:=by
 unfold kU;split
 .rename_i g;exact⟨abe (MK _ _ _) h,g.2.2⟩
 .exact⟨acQ,acQ⟩
theorem ZU(c:aP)(p:List aD)(o:Option Nat)(hp:p.length<2^40)(ho:o=none->p=[])(W0:Av w)(WP:oK w.w)(H:jK w c)(i:Nat)(x:Int)(hxr:(nums.map aa)[i]? =some [.acU x])(hx0:0<=x)(hii:IntKind.i64.wrap ((i:Int)+1)=((i+1:Nat):Int))(Y j13:W.Kn)
  (E:∀G:Option Nat,j13 [.ptr bz 0 0,.ptr bc 0 0,af o p.length] (It bz bc c p o [] G))
  (B:∀(ch:aD) (n:aP) (nb:Nat) (L:SH) (m:Nat),c8 w c ch.thread ch.wake=some n->m=p.length+1->cO L ((bc,(⟨9,[n.enc]⟩:Blk))::(bz,⟨9,[cP]⟩)::ab (some nb) 2 (p.map aD.enc++[[.acU ch.thread,.acU ch.wake]]))->Y [.lst (nums.map aa),.pptr [w.enc] 0 0,.ptr bz 0 0,.ptr bc 0 0,.sl nb 0 m,.acU ((i+1:Nat):Int)] L) :
  W.loop (Fy Y j13) [.lst (nums.map aa),.pptr [w.enc] 0 0,.ptr bz 0 0,.ptr bc 0 0,af o p.length,.acU i,.nils,.acU (0:Nat)] ((bc,⟨9,[c.enc]⟩)::(bz,⟨9,[cP]⟩)::ab o 2 (p.map aD.enc)):=by
 obtain⟨s1,s2,s3,s4,s5,s6,s7,s8,s9⟩:=N9 WP W0.lw H;have ht4:=WP.t4;refine aL w.w.threads.length (λt (q:List aD×Option Nat)=>([.lst (nums.map aa),.pptr [w.enc] 0 0,.ptr bz 0 0,.ptr bc 0 0,af o p.length,.acU i,af q.2 q.1.length,.acU t],It bz bc c p o q.1 q.2)) (λt q=>(∀x∈q.1,u9 w c x.thread=true)/\q.1.length<=4*t/\(q.2=none->q.1=[])) ([],none) ⟨nofun,Nat.zero_le _,λ_=>rfl⟩ (ax.vals2 (by unfold It;simp[ab]) (.cons (.refl _) (.cons (.refl _) (.cons (.refl _) (.cons (.refl _) (.cons (.refl _) (.cons (.refl _) (.cons .nile (.cons (.refl _) .nil))))))))) ?_;rintro t ⟨j,G⟩ ht ⟨h1,h2,h3⟩;dsimp only at h1 h2 h3 ⊢;refine vw ?_;rcases Nat.lt_or_ge t w.w.threads.length with g|g
 .have hd:=aS g;have D:=Ib w c t W0 acN (λl h=>by have:=s9 l h;omega);have htt:=av g acN;cases he:u9 w c t with
  |false=>
   rw[he]at D;have fin:∃(M:Nat) (q:List aD×Option Nat),t<M/\M<=w.w.threads.length/\((∀x∈q.1,u9 w c x.thread=true)/\q.1.length<=4*M/\(q.2=none->q.1=[]))/\ax [.lst (nums.map aa),.pptr [w.enc] 0 0,.ptr bz 0 0,.ptr bc 0 0,af o p.length,.acU i,af G j.length,.acU ((t+1:Nat):Int)] (It bz bc c p o j G)
     [.lst (nums.map aa),.pptr [w.enc] 0 0,.ptr bz 0 0,.ptr bc 0 0,af o p.length,.acU i,af q.2 q.1.length,.acU M] (It bz bc c p o q.1 q.2):=
    ⟨t+1,(j,G),acN,acN,⟨h1,by show j.length<=_;omega,h3⟩,.refl _ _⟩
   clear E B;unfold It cP at *;rw[bj,cG]at *
   repeat' (first|refine sy ?_|refine s2 ?_ ?_|intro)
   exact fin
  |true=>
   rw[he]at D;have hwk:=ML w c t W0 acN acN;have hwl:=PA w c t s3;have lp:=λn35 hn=>ZT w nums bz bc c p j o G i t (kU w c t) acN acN h3 n35 hn htt
   clear E B;have lp:=lp (λvs' L'=>∃(M:Nat) (q:List aD×Option Nat),t<M/\M<=w.w.threads.length/\((∀x∈q.1,u9 w c x.thread=true)/\q.1.length<=4*M/\(q.2=none->q.1=[]))/\ax vs' L' [.lst (nums.map aa),.pptr [w.enc] 0 0,.ptr bz 0 0,.ptr bc 0 0,af o p.length,.acU i,af q.2 q.1.length,.acU M] (It bz bc c p o q.1 q.2)) (λZ ol' L a1 a2 a3 a4 hL=>⟨t+1,(Z,ol'),acN,acN,⟨λy hy=>by
    rcases a1 y hy with a|a
    .exact h1 y a
    .rw[a];exact he,by show Z.length<=_;omega,a4⟩,ax.pickE hL rfl rfl⟩)
   unfold It cP at *;rw[bj,cG]at *
   repeat' (first|refine sy ?_|refine s2 ?_ ?_|intro)
   exact lp
 .have hd:=aW g;by_cases hl:j=[]
  .subst hl;have hz:=E G;clear E B;have d0:decide (((([]:List aD).length:Nat):Int)=0)=true:=by decide
   have d1:decide (((0:Nat):Int)=0)=true:=by decide
   unfold It cP at *;rw[bj,cG]at *;cases G
   all_goals
    dsimp only[af,ab,List.length_nil,List.map_nil]at *
    repeat' (first|refine sy ?_|refine s2 ?_ ?_|intro)
    exact hz
  .cases G with
   |none=>exact absurd (h3 rfl) hl
   |some bl=>
    have hlp:=acE.2 hl;have d0:decide ((j.length:Int)=0)=false:=decide_eq_false acN;have hm0:(j.length:Int)≠0:=by omega
    have r0:0<=x.tmod (j.length:Int):=Int.tmod_nonneg _ hx0;have r1:x.tmod (j.length:Int)<(j.length:Int):=Int.tmod_lt_of_pos _ acN;have d1:decide (x.tmod (j.length:Int)<0)=false:=decide_eq_false acN;have hrl:(x.tmod (j.length:Int)).toNat<j.length:=by omega
    have N:=aj (f:=aD.enc) hrl;have D:=h1 _ (List.getElem_mem hrl);generalize j[(x.tmod (j.length:Int)).toNat]=ch at *;obtain⟨ct,cw⟩:=ch;rw[show aD.enc ⟨ct,cw⟩=[.acU ct,.acU cw]from rfl]at N;dsimp only at D;obtain⟨n,hst⟩:∃n,c8 w c ct cw=some n:=by unfold c8;rw[D];exact⟨_,rfl⟩
    have u:=yF w c ct cw W0 WP H;rw[hst]at u;have fin:=λnb L m hm hL=>B ⟨ct,cw⟩ n nb L m hst hm hL
    dsimp only at fin;clear E B h1;have O:(p.map aD.enc).length=p.length:=by simp
    have hp0:o=none->p.map aD.enc=[]:=λe=>by rw[ho e];rfl
    unfold nH at u;dsimp only at u;unfold It cP at *;rw[bj,cG c]at *;rw[cG n]at *;generalize j.map aD.enc=lrows at *;generalize p.map aD.enc=prows at *;cases o
    all_goals
     dsimp only[af,ab,List.nil_append,List.cons_append]at *
     repeat' (first|refine kH (NE hm0 ?_)|refine aw r0 acN rp rfl ?_|refine sx ?_|refine dR rp N rfl ?_|refine aM rp rp O hp0 acP acQ acS acS acP (λS hnb_=>?_)|refine sb λS hnb_=>?_|refine s2 ?_ ?_|intro)
     exact fin S _ _ rfl rp
end
end
def Sj(w:aG)(u:List Int)(W0:Av w)(WP:oK w.w)(H0:jK w (bN w))(hst:aq Tryz.prog 13 [.agg w.enc] (.agg (bN w).enc))(hl:u.length<2^30)(hx0:∀x∈u,0<=x):
  ac Tryz.prog 24 [.agg w.enc,.lst (u.map aa)] [] λv L=>∃(p:List aD) (c:aP),v=.tup [.lst (p.map aD.enc),.agg c.enc]/\L=[]/\dE w (bN w) p=some c/\p.length<=u.length:=by
 refine ac.fz (FB _ _ _ _ ?_);refine vw ?_;generalize hQ:(λ(v:AV) (L:SH)=>∃v2 L2,ax [v] L [v2] L2/\∃(p:List aD) (c:aP),v2=.tup [.lst (p.map aD.enc),.agg c.enc]/\L2=[]/\dE w (bN w) p=some c/\p.length<=u.length)=Q;have N:∀(p:List aD) (c:aP) (o:Option Nat) (L:SH),dE w (bN w) p=some c->p.length<=u.length->(o=none->p=[])->(∀q∈ab o 2 (p.map aD.enc),q∈L)->Q (.tup [af o p.length,.agg c.enc]) L:=λp c o L M O G hm=>by
  subst hQ;refine⟨_,[],ax.all (Fz.tups (.cons (b:=.lst (p.map aD.enc)) ?_ (.cons (.refl _) .nil))),p,c,rfl,rfl,M,O⟩;cases o with
  |none=>rw[G rfl];exact .emp
  |some b=>exact Fz.sls (hm _ (.head _)) rfl acR rfl
 clear hQ;have B:∀(D E:Nat) (p:List aD) (c:aP) (o:Option Nat) (R:SH),dE w (bN w) p=some c->p.length<=u.length->(o=none->p=[])->mC Q [.ptr D 0 0,.ptr E 0 0,af o p.length] ((E,⟨9,[c.enc]⟩)::(D,⟨9,[cP]⟩)::(ab o 2 (p.map aD.enc)++R)):=λD E p c o R M O G=>by
  have Z:=λL=>N p c o L M O G
  clear N;refine vw ?_;unfold cP;rw[cG]at *;cases o
  all_goals
   dsimp only[af,ab,List.nil_append,List.cons_append]at *
   repeat' (first|refine sy ?_|refine s2 ?_ ?_|intro)
   exact Z _ acQ
 have lp:∀D E:Nat,W.loop (FA (mC Q)) [.lst (u.map aa),.pptr [w.enc] 0 0,.ptr D 0 0,.ptr E 0 0,.nils,.acU (0:Nat)] [(E,⟨9,[(bN w).enc]⟩),(D,⟨9,[cP]⟩)]:=by
  intro D E;refine aL u.length (λk (q:List aD×aP×Option Nat)=>([.lst (u.map aa),.pptr [w.enc] 0 0,.ptr D 0 0,.ptr E 0 0,af q.2.2 q.1.length,.acU k],(E,⟨9,[q.2.1.enc]⟩)::(D,⟨9,[cP]⟩)::ab q.2.2 2 (q.1.map aD.enc))) (λk q=>dE w (bN w) q.1=some q.2.1/\jK w q.2.1/\q.1.length<=k/\(q.2.2=none->q.1=[])) ([],bN w,none) ⟨rfl,H0,Nat.zero_le _,λ_=>rfl⟩ (ax.vals2 rfl (.cons (.refl _) (.cons (.refl _) (.cons (.refl _) (.cons (.refl _) (.cons .nile (.cons (.refl _) .nil))))))) ?_;rintro k ⟨p,c,o⟩ hk ⟨M,H,O,G⟩;dsimp only at M H O G ⊢;refine vw ?_;rcases Nat.lt_or_ge k u.length with g|g
  .have hd:=aS g;have hx:=aj (f:=aa) g;have hx1:=hx0 _ (LT g);generalize u[k]=x at *;rw[show aa x=[.acU x]from rfl]at hx;have hkk:=av g acN;have Y:=ZU w u D E c p o acN G W0 WP H k x hx hx1 hkk (λS L'=>∃(j:Nat) (q:List aD×aP×Option Nat),k<j/\j<=u.length/\(dE w (bN w) q.1=some q.2.1/\jK w q.2.1/\q.1.length<=j/\(q.2.2=none->q.1=[]))/\ax S L' [.lst (u.map aa),.pptr [w.enc] 0 0,.ptr D 0 0,.ptr E 0 0,af q.2.2 q.1.length,.acU j] ((E,⟨9,[q.2.1.enc]⟩)::(D,⟨9,[cP]⟩)::ab q.2.2 2 (q.1.map aD.enc))) (mC Q)
    (λol=>B D E p c o _ M acN G)
    (λch n nb L m hs hm hL=>⟨k+1,(p++[ch],n,some nb),acN,acN,⟨by rw[rj _ _ M];exact hs,rV H hs,acS,nofun⟩,by
     rw[hm];exact ax.pickE hL (by simp[af]) (by simp[ab,aD.enc])⟩)
   clear B N;unfold cP at *;rw[bj,cG]at *
   repeat' (first|refine sy ?_|refine s2 ?_ ?_|intro)
   exact Y
  .have hd:=aW g;obtain rfl:k=u.length:=by omega
   have Z:=λL=>N p c o L M O G
   clear B N;unfold cP at *;rw[bj,cG]at *;cases o
   all_goals
    dsimp only[af,ab,List.nil_append,List.cons_append]at *
    repeat' (first|refine sy ?_|refine s2 ?_ ?_|intro)
    exact Z _ acQ
 clear N B;unfold cP at lp;rw[bj,cG]at *
 repeat' (first|refine sy ?_|refine s2 ?_ ?_|intro)
 exact lp _ _
def PB(w:aG)(j:List Int)(Y:Av w)(S:oK w.w)(H0:jK w (bN w))(hp:bv (.agg w.enc))(G:∀c:aP,bv (.agg c.enc))(E:aq Tryz.prog 13 [.agg w.enc] (.agg (bN w).enc))(N:j.length<2^30)(D:∀x∈j,0<=x):
  ∃(p:List aD) (c:aP),aq Tryz.prog 24 [.agg w.enc,.lst (j.map aa)] (.tup [.lst (p.map aD.enc),.agg c.enc])/\dE w (bN w) p=some c/\p.length<=j.length:=by
 obtain⟨v,K,⟨p,c,rfl,rfl,M,B⟩,hpu⟩:=(Sj w j Y S H0 E N D).pure (aA hp (aA (.lmap λx _=>by unfold aa;exact pv) dS)) (λu K ⟨p,c,O,_⟩=>by
  rw[O];exact .tup _ λi a h=>by
   match i with
   |0=>cases h;exact .lmap λx _=>by unfold aD.enc;exact pv
   |1=>cases h;exact G c
   |i+2=>simp at h)
 exact⟨p,c,hpu,M,B⟩
def jm{w:aG}(H:eT w)(l:List aD)(j:l.length<2^40):aq Tryz.prog 26 [.agg w.enc,.lst (l.map aD.enc)] (nH (dE w (bN w) l)):=
 UJ w l (kf H) H.world (kR H) (GC H) j
def UL{w:aG}(H:eT w)(j:List Int)(u:j.length<2^30)(B:∀x∈j,0<=x):∃(p:List aD) (c:aP),aq Tryz.prog 24 [.agg w.enc,.lst (j.map aa)] (.tup [.lst (p.map aD.enc),.agg c.enc])/\dE w (bN w) p=some c/\p.length<=j.length:=
 PB w j (kf H) H.world (kR H) w.pure (λc=>c.pure) (Dx H) u B
def pT(b:UInt8):Int:=(b.toNat:Int)
def gG(t:List UInt8)(ht:t.length<2^20):aq Tryz.prog 25 [.lst (t.map aY)] (.lst ((t.map pT).map aa)):=by
 refine OY λQ M=>xU _ _ _ ?_
 refine vw ?_;have Y:W.loop (xT Q) [.lst (t.map aY),.nils,.acU (0:Nat)] []:=by
  refine aL t.length (λk (o:Option Nat)=>([.lst (t.map aY),af o k,.acU k],ab o 1 (((t.take k).map pT).map aa))) (λk o=>o=none->k=0) none (λ_=>rfl) (ax.drop (K:=[]) (.refl _) rfl (fy.at_ (.cons (.refl _) (.cons .nile (.cons (.refl _) .nil)))).2) ?_;intro k o hk ho;dsimp only;refine vw ?_;have G:(((t.take k).map pT).map aa).length=k:=by simp;omega
  have S:o=none->((t.take k).map pT).map aa=[]:=λe=>by rw[ho e];rfl
  rcases LE k t.length with u|u
  .have hd:=aS u;have hx:=aj (f:=aY) u;have O:t.take (k+1)=t.take k++[t[k]]:=Fn u;generalize hT:t[k]=b at *;rw[show aY b=[.int .u8 (pT b)]from rfl]at hx;have e1:IntKind.i64.wrap (pT b)=pT b:=abg _ (by have:=b.toNat_lt;unfold pT;omega);clear M;have fin:∀(N:Nat) (L:SH),cO L (ab (some N) 1 (((t.take (k+1)).map pT).map aa))->∃(j:Nat) (o:Option Nat),k<j/\j<=t.length/\(o=none->j=0)/\ax [.lst (t.map aY),.sl N 0 (k+1:Nat),.acU (IntKind.i64.wrap ((k:Int)+1))] L [.lst (t.map aY),af o j,.acU j] (ab o 1 (((t.take j).map pT).map aa)):=λN L hL=>
    ⟨k+1,some N,acN,acN,nofun,by rw[av u acN];exact ax.pickE hL rfl rfl⟩
   generalize hX:((t.take k).map pT).map aa=X at *;have D:X++[[.acU (pT b)]]=((t.take (k+1)).map pT).map aa:=by rw[O,<-hX];simp[aa]
   repeat' (first|refine sx ?_|refine aM rp rp G S acP acQ acS acS acP (λB E=>?_)|refine sb λB E=>?_|refine s2 ?_ ?_|intro)
   simp only[e1];exact fin B _ (by rw[<-D];exact rp)
  .have hd:=aW u;obtain rfl:k=t.length:=by omega
   rw[aaT (Fd _)]at *;have Z:∀L,(∀q∈ab o 1 ((t.map pT).map aa),q∈L)->Q (af o t.length) L:=λL hm=>by
    refine M _ _ ?_;cases o with
    |none=>rw[S rfl];exact .emp
    |some b=>exact Fz.sls (l:=t.map pT) (hm _ (.head _)) rfl acR acQ
   clear M
   repeat' (first|refine sy ?_|refine s2 ?_ ?_|intro)
   exact Z _ λq h=>h
 clear M
 repeat' (first|refine sy ?_|refine s2 ?_ ?_|intro)
 exact Y
def On{a:AV}{j n:Nat}{rows:List (List AV)}{ch:List aD}(u:rows=ch.map aD.enc)(B:n=ch.length):ax [a,.sl j 0 n] [(j,(⟨2,rows⟩:Blk))] [a,.lst (ch.map aD.enc)] []:=
 ax.drop (K:=[(j,(⟨2,rows⟩:Blk))]) (R:=[]) acQ rfl (fy.at_ (.cons (.refl _) (.cons (Fz.sls (.head _) u acR B) .nil))).2
def zJ{u n:Nat}{rows:List (List AV)}{a v:AV}{ch:List aD}{L j:SH}{KL:R}(h:aq Tryz.prog 26 [a,.lst (ch.map aD.enc)] v)(M:dF u ⟨2,rows⟩ L j)(B:rows=ch.map aD.enc)(E:n=ch.length)(G:KL v j):W.callM Tryz.prog 26 [a,.sl u 0 n] L KL:=
 ⟨(ac.pre (On B E) (h.call (L:=[]) (KL:=λv K=>v=v/\KL v (K++j)) ⟨rfl,G⟩)).frame M.perm λv N D=>D.2⟩
def Bb{w:aG}:∀(l:List aD) {c d:aP},jK w c->dE w c l=some d->jK w d
 |[],c,d,H,h=>by cases h;exact H
 | x::l,c,d,H,h=>by
  unfold dE at h;cases j:c8 w c x.thread x.wake with
  |none=>rw[j]at h;cases h
  |some n=>rw[j]at h;exact Bb l (rV H j) h
def xc{w:aG}{c d:aP}{t wake:Int}(h:c8 w c t wake=some d):d.order.length=c.order.length+1:=by
 unfold c8 at h;split at h
 .cases h;simp[uG]
 .cases h
def Dy{w:aG}:∀(l:List aD) {c d:aP},dE w c l=some d->d.order.length=c.order.length+l.length
 |[],c,d,h=>by cases h;rfl
 | x::l,c,d,h=>by
  unfold dE at h;cases j:c8 w c x.thread x.wake with
  |none=>rw[j]at h;cases h
  |some n=>rw[j]at h;rw[Dy l h,xc j,abi];omega
def UN(t:List UInt8):∀x∈t.map pT,0<=x:=λx j=>by obtain⟨b,_,rfl⟩:=abP.1 j;exact Int.natCast_nonneg _
def nN{w:aG}(H:eT w)(t:List UInt8)(ht:t.length<=40):∃(p:List aD) (c:aP),aq Tryz.prog 24 [.agg w.enc,.lst ((t.map pT).map aa)] (.tup [.lst (p.map aD.enc),.agg c.enc])/\dE w (bN w) p=some c/\p.length<=40/\jK w c/\c.order.length=p.length:=by obtain⟨p,c,B,j,u⟩:=UL H (t.map pT) acS (UN t);refine⟨p,c,B,j,by simp at u;omega,Bb p (kR H) j,?_⟩;rw[Dy p j];show 0+p.length=p.length;omega
def Tg(p u sc:List UInt8)(hp:p.length<2^63)(z y:Nat)(hz:z<256)(hy:y<256)(l o:List UInt8):aq Tryz.prog 9 [.agg [.lst (p.map aY),.lst (u.map aY),.lst (sc.map aY),.int .u8 z,.int .u8 y],.lst (l.map aY),.lst (o.map aY)] (.bool true):=by
 refine L6 λQ hq=>sI _ _ _ _ _ ?_
 refine vw ?_;by_cases hl:40<l.length
 .have hd:decide ((40:Int)<(l.length:Int))=true:=decide_eq_true acN
  repeat' (first|refine sy ?_|refine s2 ?_ ?_|intro)
  all_goals exact hq _
 .have hd:decide ((40:Int)<(l.length:Int))=false:=decide_eq_false acN;by_cases ho:40<o.length
  .have hd2:decide ((40:Int)<(o.length:Int))=true:=decide_eq_true acN
   repeat' (first|refine sy ?_|refine s2 ?_ ?_|intro)
   all_goals exact hq _
  .have hd2:decide ((40:Int)<(o.length:Int))=false:=decide_eq_false acN;obtain⟨w,hv,H⟩:=l9 p u sc hp z y hz hy;obtain⟨D,c,hwk,hr,hpl,hC,hol⟩:=nN H l acN;have hnum:=gG l acN;have G:=jm H D acN;rw[hr]at G;unfold nH at G;dsimp only at G;have haw:=gt;have hso:=rt c.order acN;have hsw:=rt c.woke (by rw[hC.woke];have:=H.len;omega);have hsf:=GF c.fixed (by rw[hC.fixed];have:=H.len;omega);have fin:∀(B:List aD) (M:Nat) (L:SH),B.length=D.length->D.map aD.thread=B.map aD.thread->(M,(⟨2,B.map aD.enc⟩:Blk))∈L->ax [.agg w.enc,.sl M 0 D.length] L [.agg w.enc,.lst (B.map aD.enc)] []:=λB M L h1 _ hm=>
    ax.drop (K:=L) (R:=[]) acQ rfl (fy.at_ (.cons (.refl _) (.cons (Fz.sls hm rfl acR h1.symm) .nil))).2
   have O:=λB (h:List.length B=D.length)=>jm H B acN
   have S:∀(B:List aD) (d:aP),D.map aD.thread=B.map aD.thread->dE w (bN w) B=some d->c.order=d.order/\c.woke=d.woke/\c.fixed=d.fixed:=λB d h1 h2=>by have:=Tf h1 ⟨rfl,rfl,rfl,rfl,rfl,λ_=>rfl⟩ hr h2;exact⟨this.order,this.woke,this.fixed⟩
   have lp:∀M:Nat,W.loop (sH Q) [.lst (o.map aY),.pptr [w.enc] 0 0,.lst (D.map aD.enc),.sl M 0 D.length,.acU 0] [(M,⟨2,D.map aD.enc⟩)]:=by
    intro M;refine aL D.length (λk (B:List aD)=>([.lst (o.map aY),.pptr [w.enc] 0 0,.lst (D.map aD.enc),.sl M 0 D.length,.acU k],[(M,⟨2,B.map aD.enc⟩)])) (λk B=>B.length=D.length/\D.map aD.thread=B.map aD.thread) D ⟨rfl,rfl⟩ (.refl _ _) ?_;rintro k B hk ⟨g1,g2⟩;dsimp only;refine vw ?_;have hfz:=λL hm=>fin B M L g1 g2 hm
    have E:=O B g1;have Y:=S B;clear fin O S;by_cases hk1:k<D.length/\k<o.length
    .obtain⟨k1,k2⟩:=hk1;have hda:=aS k1;have hdb:=aS k2;have hx:=aj (f:=aY) k2;have hy:=aj (f:=aD.enc) (show k<B.length by omega);have i1:IntKind.i64.wrap ((k:Int)+1)=((k+1:Nat):Int):=av k1 acN;have Z:∀(x:Int) (L:SH),cO L [(M,⟨2,(B.map aD.enc).set k [.acU (B[k]'acN).thread,.acU x]⟩)]->∃(j:Nat) (c2:List aD),k<j/\j<=D.length/\(c2.length=D.length/\D.map aD.thread=c2.map aD.thread)/\ax [.lst (o.map aY),.pptr [w.enc] 0 0,.lst (D.map aD.enc),.sl M 0 D.length,.acU ((k+1:Nat):Int)] L [.lst (o.map aY),.pptr [w.enc] 0 0,.lst (D.map aD.enc),.sl M 0 D.length,.acU j] [(M,⟨2,c2.map aD.enc⟩)]:=λx L hP=>
      ⟨k+1,B.set k ⟨(B[k]'acN).thread,x⟩,acN,acN,⟨by simpa using g1,by
       rw[abT,g2];refine List.ext_getElem acQ λi h1 h2=>?_
       rw[List.getElem_set];split
       .next h=>subst h;simp
       .rfl⟩,ax.pickE hP rfl (by rw[abT];rfl)⟩
     generalize B[k]'acN=x at *;generalize o[k]=b at *;obtain⟨xt,xw⟩:=x;rw[show aD.enc ⟨xt,xw⟩=[.acU xt,.acU xw]from rfl]at hy;rw[show aY b=[.int .u8 (b.toNat:Int)]from rfl]at hx;dsimp only at Z;clear hq hwk hv G E Y hfz;rw[bj]at *
     repeat' (first|refine cN ?_ acN|refine sy ?_|refine s2 ?_ ?_|intro)
     all_goals exact Z _ _ rp
    .have N:(decide ((k:Int)<(D.length:Int))=false)\/(decide ((k:Int)<(D.length:Int))=true/\decide ((k:Int)<(o.length:Int))=false):=by
      by_cases q:k<D.length
      .exact .inr ⟨decide_eq_true acN,decide_eq_false acN⟩
      .exact .inl (decide_eq_false acN)
     have dl:decide ((B.length:Int)=(B.length:Int))=true:=by simp
     clear hv hwk hnum hfz;cases hs:dE w (bN w) B with
     |none=>
      rw[hs]at E;unfold nH at E;dsimp only at E;generalize aP.zero=d0 at *;clear Y;rw[bj]at *;simp only[cG]at *;rcases N with q|⟨q,q2⟩
      all_goals
       repeat' (first|refine sy ?_|((with_reducible refine aN 26 ?_);first|refine jC G ?_|(refine zJ E rp ?_ ?_ ?_;exact rfl;exact g1.symm))|((with_reducible refine cy 26 ?_);first|refine b_dcall G ?_|(refine zI E rp ?_ ?_ ?_;exact rfl;exact g1.symm))|refine s2 ?_ ?_|intro)
       all_goals exact hq _
     |some d=>
      obtain⟨o1,o2,o3⟩:=Y d g2 hs;rw[hs]at E;unfold nH at E;dsimp only at E;rw[bj]at *;simp only[cG]at *;rw[<-o1,<-o2,<-o3]at E;clear Y o1 o2 o3;rcases N with q|⟨q,q2⟩
      all_goals
       repeat' (first|refine sy ?_|((with_reducible refine aN 26 ?_);first|refine jC G ?_|(refine zJ E rp ?_ ?_ ?_;exact rfl;exact g1.symm))|((with_reducible refine cy 26 ?_);first|refine b_dcall G ?_|(refine zI E rp ?_ ?_ ?_;exact rfl;exact g1.symm))|refine s2 ?_ ?_|intro)
       all_goals exact hq _
   clear fin O S G hso hsw hsf haw;rw[bj]at *;simp only[cG]at *
   repeat' (first|refine sy ?_|refine dJ rp (λ_=>rfl) acP acS acS (λ_=>rfl) (λnb_ hnb_=>?_)|refine s2 ?_ ?_|intro)
   rw[abI];exact lp _
