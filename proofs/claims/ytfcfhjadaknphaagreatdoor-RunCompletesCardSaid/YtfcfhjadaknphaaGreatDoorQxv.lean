/- part -/
import Derived.Test.YtfcfhjadaknphaaGreatDoorQxu
set_option linter.all false
set_option maxRecDepth 100000
set_option maxHeartbeats 0
namespace Go.Proofs.YtfcfhjadaknphaaGreatDoor.Am
mutual
def Do(p:aY)(loc:List aO):aa->Prop
 |.mk a b c d e f body els=>fD p loc (.mk a b c d e f body els)/\StsOk p loc body/\StsOk p loc els
def StsOk(p:aY)(loc:List aO):List aa->Prop
 |[]=>True
 |x::l=>Do p loc x/\StsOk p loc l
end
def KJ{p:aY}{loc:List aO}(x:aa):Do p loc x↔fD p loc x/\StsOk p loc x.body/\StsOk p loc x.els:=by cases x;rw[Do];rfl
def nw{p:aY}{loc:List aO}:∀l:List aa,StsOk p loc l↔∀x∈l,Do p loc x
 |[]=>by simp[StsOk]
 |x::l=>by rw[StsOk,nw l];simp
def RE(p:aY)(bw:Nat)(s:pk)(m:Nat)(good:Prop)(u:AV)(K:SH):Prop:=
 ∃(e ln:Int) (s':pk),u=.tup [.YJ e,.YJ ln]/\K=s'.L p bw/\s'.Ok m/\s'.t=s.t/\s'.k=s.k/\(e=0->good)
def QD{p:aY}{D:Nat}{s:pk}{x:aa}{m:Nat}{j:Prop}(h:ac Tryz.prog 97 [.ptr D 0 0,.agg x.row] (s.L p D) (O4 p D s m j)):
  ac Tryz.prog 97 [.ptr D 0 0,.agg x.row] (s.L p D) λu K=>∃(e:Int) (B:pk),u=.YJ e/\K=B.L p D/\B.Ok m/\B.t=s.t/\B.k=s.k/\(e=0->j):=
 ac.permR (h.mono λv Z ⟨e,B,Y,S,O,M,_,_,G,E⟩=>⟨_,S,e,B,Y,rfl,O,M,G,E⟩)
def QE(p:aY)(M:Nat)(hw:p.wt<2^40):∀(n:Nat) (l:List aa) (s:pk) (m:Nat),aa.wts l<=n->(ht:s.t<p.threads.length)->s.Ok m->m+aa.wts l<2^40->
  ac Tryz.prog 50 [.ptr M 0 0,.lst (l.map aa.enc)] (s.L p M) (RE p M s (m+aa.wts l) (StsOk p p.threads[s.t].locals l)):=by
 intro n
 induction n using Nat.strongRecOn with
 |_ n ih=>
  intro l G m hn ht hs0 hm;have hlen:=aa.wts_len l;refine ac.fz (vH _ _ _ _ ?_);refine vw ?_;generalize Y:p.threads[G.t].locals=loc;generalize hQ:(λ(v:AV) (L:SH)=>∃v2 L2,aE [v] L [v2] L2/\RE p M G (m+aa.wts l) (StsOk p loc l) v2 L2)=Q;have hqg:∀(e ln:Int) (K:SH) (E:pk),dD K (E.L p M)->E.Ok (m+aa.wts l)->E.t=G.t->E.k=G.k->(e=0->StsOk p loc l)->Q (.tup [.YJ e,.YJ ln]) K:=λe ln K E h1 D h3 O h5=>by subst hQ;exact⟨_,_,aE.pick h1 rfl,e,ln,E,rfl,rfl,D,h3,O,h5⟩
  clear hQ;refine bF l.length (λi (s:pk)=>([.ptr M 0 0,.lst (l.map aa.enc),.YJ i],s.L p M)) (λi s=>s.Ok (m+aa.wts (l.take i))/\s.t=G.t/\s.k=G.k/\∀j (hj:j<l.length),j<i->Do p loc l[j]) G ⟨by simpa[aa.wts]using hs0,rfl,rfl,λj _ h=>absurd h (Nat.not_lt_zero _)⟩ (.refl _ _) ?_;rintro i s hi ⟨hs,hst,hsk,hG⟩;dsimp only;refine vw ?_;generalize hnx:(λ(vs':List AV) (L':SH)=>∃j o',i<j/\j<=l.length/\(pk.Ok o' (m+aa.wts (l.take j))/\o'.t=G.t/\o'.k=G.k/\∀(q:Nat) (hj:q<l.length),q<j->Do p loc l[q])/\aE vs' L' [.ptr M 0 0,.lst (l.map aa.enc),.YJ (j:Int)] (pk.L p M o'))=nx;rcases Nat.lt_or_ge i l.length with g1|g1
  .have hd:=a8 g1;have hi1:=ax g1 YC;have hx:=DI g1;have hwi:=aa.wts_succ g1;have hwl:=aa.wts_take l (i+1);have hwe:=(l[i]).wt_eq;have hso:=KJ (p:=p) (loc:=loc) l[i];have c1:=QD (QC p M s l[i] (m+aa.wts (l.take i)) hw YC hs YC YC);have hloc2:p.threads[s.t].locals=loc:=by rw[<-Y];congr 2
   rw[hloc2]at c1;have hn:∀(E:pk) (L':SH),dD L' (E.L p M)->E.Ok (m+aa.wts (l.take (i+1)))->E.t=G.t->E.k=G.k->Do p loc l[i]->nx [.ptr M 0 0,.lst (l.map aa.enc),.YJ ((i+1:Nat):Int)] L':=by
    intro E L' q1 q2 q3 q4 q5;subst hnx;refine⟨i+1,E,YC,YC,⟨q2,q3,q4,λj hj hlt=>?_⟩,aE.pick q1 rfl⟩;rcases Fn j i with h1|h1
    .exact hG j hj h1
    .have:j=i:=by omega
     subst this;exact q5
   clear hnx hG;generalize hxx:l[i]=x at *
   repeat' (first|refine sx ?_|((with_reducible refine aU 97 ?_);(refine dK c1 ?_;rintro _ _ ⟨e1,B,rfl,rfl,u,ht1,hk1,hg1⟩))|refine sb λnb_ hnb_=>?_|refine s2 (λh=>?_) λh=>?_|fail)
   have hbk:=λ(q:Nat) (h:q<=m+aa.wts (l.take (i+1))) (E:pk) (D:E.Ok q)=>(⟨D.a0,D.ak,D.k6,D.p0,D.e0,by have:=D.pm;omega,by have:=D.em;omega⟩:E.Ok (m+aa.wts (l.take (i+1))));have hbl:=λ(E:pk) (D:E.Ok (m+aa.wts (l.take (i+1))))=>(⟨D.a0,D.ak,D.k6,D.p0,D.e0,by have:=D.pm;omega,by have:=D.em;omega⟩:E.Ok (m+aa.wts l));have key:∀e:Int,(e=0->fD p loc x/\B.k<6)->vG Q nx [.ptr M 0 0,.lst (l.map aa.enc),.YJ (i:Int),.pptr [x.row] 0 0,.YJ e] (B.L p M):=by
    intro e he;refine vw ?_;unfold pk.L pk.row;by_cases h0:e=0
    .subst h0;obtain⟨hone,hk6⟩:=he rfl;have hzero:∀(k:Nat) (S:List (List AV)),k<=S.length->(S.take k++[Fy])[k]? =some Fy:=λk S h=>by rw[WQ (by rw[Xb];omega),Xb,XF h,X9];rfl
     have hz:=hzero B.k (B.ar.map aa.enc) (by simpa using u.ak)
     repeat' (first|refine qQ ?_ (λe=>by have:=u.a0 e;have:=u.ak;simp_all)|refine sx ?_|refine HX (r:=Fy) rp YE rp (by simpa using u.ak) (λe=>by simp[u.a0 e]) YC YC YE (λnb_ hnb_=>?_)|refine sb λnb_ hnb_=>?_|refine s2 (λh=>?_) λh=>?_|fail)
     rename_i bt hbt;have hrows:(List.take B.k (B.ar.map aa.enc)++[Fy]).set B.k x.row=(B.ar.take B.k++[x]).map aa.enc:=by
      have hl:(List.take B.k (B.ar.map aa.enc)).length=B.k:=by rw[Xb,Xd,XF u.ak]
      rw[Ys _ _ YC,hl,X9,WL,List.map_take,<-aa.enc_row];rfl
     let s2:pk:={B with o1:=some nb_,ar:=B.ar.take B.k++[x],k:=B.k+1}
     have hs2:s2.Ok (m+aa.wts (l.take i)+1):=⟨nofun,by simp[s2,XF u.ak],by show B.k+1<=6;omega,u.p0,u.e0,u.pm,u.em⟩;have c2:=ih (aa.wts x.body) YC x.body s2 (m+aa.wts (l.take i)+1) (Fd _) (by show B.t<_;omega) hs2 YC;have hloc3:p.threads[s2.t].locals=loc:=by rw[<-Y];congr 2;show B.t=G.t;omega
     rw[hloc3]at c2;refine EF (R:=[(bt,?tmp)]) c2 ?hp ?hk
     case hp=>
      unfold pk.L pk.row;dsimp only[ab,ai,s2];rw[<-hrows];exact Th _ _ _ _
     rintro _ _ ⟨e2,ln2,s3,rfl,rfl,hs3,ht3,hk3,hg3⟩;have Z:∀(tmp:Nat×Blk) (e ln:Int) (s4:pk),s4.Ok (m+aa.wts (l.take (i+1)))->s4.t=G.t->s4.k=B.k+1->(e=0->Do p loc x)->vF Q nx [.ptr M 0 0,.lst (l.map aa.enc),.YJ (i:Int),.YJ e,.YJ ln] (s4.L p M++[tmp]):=by
      intro tmp e ln s4 O ht4 hk4 hg4;obtain⟨t4,o1,ar4,k4,o2,sp4,o3,se4⟩:=s4;dsimp only at ht4 hk4;subst ht4;subst hk4;rcases o1 with _|b4
      .exfalso;have:=O.a0 rfl;have:=O.ak;simp_all
      refine vw ?_;unfold pk.L pk.row;dsimp only[ab,ai,List.cons_append,List.nil_append];rw[List.append_assoc];have es:IntKind.i64.wrap (((B.k+1:Nat):Int)-1)=(B.k:Int):=by rw[IntWalk.i64_in _ YC];omega
      by_cases h0:e=0
      .subst h0
       repeat' (first|refine sy ?_|refine xn ?_ (Yi _) rp rfl|refine s2 ?_ ?_|intro)
       exact hn ⟨G.t,some b4,ar4,B.k,o2,sp4,o3,se4⟩ _ (.one (.here _) (.one (.here _) (.slot (.here _) (.slotl (.here _))))) ⟨nofun,by have:=O.ak;dsimp only at *;omega,by dsimp only;omega,O.p0,O.e0,O.pm,O.em⟩ rfl (by dsimp only;omega) (hg4 rfl)
      .have d0:decide (e≠0)=true:=by simpa using h0
       repeat' (first|refine sy ?_|refine xn ?_ (Yi _) rp rfl|refine s2 ?_ ?_|intro)
       exact hqg e ln _ ⟨G.t,some b4,ar4,B.k,o2,sp4,o3,se4⟩ (.one (.here _) (.one (.here _) (.slot (.here _) (.slotl (.here _))))) (hbl _ ⟨nofun,by have:=O.ak;dsimp only at *;omega,by dsimp only;omega,O.p0,O.e0,O.pm,O.em⟩) rfl (by dsimp only;omega) (λh=>absurd h h0)
     have ht3':s3.t=G.t:=by rw[ht3];show B.t=G.t;omega
     have hk3':s3.k=B.k+1:=hk3;have c3:=ih (aa.wts x.els) YC x.els s3 (m+aa.wts (l.take i)+1+aa.wts x.body) (Fd _) YC hs3 YC;have hloc4:p.threads[s3.t].locals=loc:=by rw[<-Y];congr 2
     rw[hloc4]at c3;by_cases D:e2=0
     .have d2:decide (e2=0)=true:=by simpa using D
      refine vw ?_
      repeat' (first|refine sy ?_|refine s2 ?_ ?_|intro)
      refine EF c3 (.refl _) ?_;rintro _ _ ⟨e3,ln3,s4,rfl,rfl,hs4,ht4,hk4,hg4⟩;refine vw ?_
      repeat' (first|with_reducible refine Z _ _ _ _ (hbk _ YC _ hs4) YC YC (λh3=>hso.2 ⟨hone,hg3 D,hg4 h3⟩)|refine sy ?_|refine s2 ?_ ?_|intro)
     .have d2:decide (e2=0)=false:=by simpa using D
      refine vw ?_
      repeat' (first|with_reducible refine Z _ _ _ _ (hbk _ YC _ hs3) YC YC (λh3=>absurd h3 D)|refine sy ?_|refine s2 ?_ ?_|intro)
    .have d0:decide (e≠0)=true:=by simpa using h0
     repeat' (first|refine sy ?_|refine s2 ?_ ?_|intro)
     exact hqg e _ _ B (.one (.here _) (.slot (.here _) (.slot (.here _) (.slotl .last)))) (hbl _ (hbk _ YC _ u)) YC YC (λh=>absurd h h0)
   have hk7:=u.k6;unfold aa.row at key;have ek:=ax (i:=B.k) (n:=7) YC YC;by_cases h6:B.k<6
   .have d6:decide ((6:Int)<((B.k+1:Nat):Int))=false:=by simp;omega
    repeat' (first|refine qQ ?_ (λe=>by have:=u.a0 e;have:=u.ak;simp_all)|with_reducible refine key _ (λh=>⟨hg1 h,h6⟩)|refine sy ?_|refine s2 ?_ ?_|intro)
   .have d6:decide ((6:Int)<((B.k+1:Nat):Int))=true:=by simp;omega
    repeat' (first|refine qQ ?_ (λe=>by have:=u.a0 e;have:=u.ak;simp_all)|with_reducible refine key _ (λh=>absurd h YG)|refine sy ?_|refine s2 ?_ ?_|intro)
  .have hd:=bq g1
   repeat' (first|refine sy ?_|refine s2 ?_ ?_|intro)
   have hil:i=l.length:=by omega
   subst hil;rw[XT]at hs;exact hqg 0 0 _ s (.one (.here _) (.slot (.here _) (.slot (.here _) (.slotl .last)))) hs hst hsk (λ_=>(nw l).2 λx hx=>by obtain⟨j,hj,rfl⟩:=XJ hx;exact hG j hj hj)
structure i5(p:aY):Prop where
 shaped:Pj p=true
 decls:vR p.decls
 few:p.threads.length<=4
 threads:qV p
 stmts:bT (λt=>aa.cnts t.body) p.threads<=60
 sts:∀i (h:i<p.threads.length),StsOk p p.threads[i].locals p.threads[i].body
def O5(p:aY)(hw:p.wt<2^40):ac Tryz.prog 24 [.agg p.enc] [] (Md (i5 p)):=by
 have hl1:=p.decls_len;have hl2:=p.threads_len;have Z:bT (λt:aj=>aa.wts t.body) p.threads<=p.wt:=by have:=BJ (f:=λt:aj=>aa.wts t.body) (g:=aj.wt) (λt=>by unfold aj.wt;omega) p.threads;unfold aY.wt;unfold bT at *;omega
 have hcnt:bT (λt:aj=>aa.cnts t.body) p.threads<=p.wt:=W5 (BJ (λt=>aa.cnts_wt t.body) p.threads) Z;have c1:=Ma p hw;have c2:=O3 p.decls YC;have c3:=JE p hw;refine ac.fz (xp _ _ _ ?_);refine vw ?_;generalize hQ:(λ(v:AV) (L:SH)=>∃v2 L2,aE [v] L [v2] L2/\Md (i5 p) v2 L2)=Q;have u:∀(e ln:Int) (K:SH),e≠0->Q (.tup [.YJ e,.YJ ln]) K:=λe ln K h=>by subst hQ;exact⟨_,[],aE.all (.refl _),e,ln,rfl,rfl,λh0=>absurd h0 h⟩
 have E:∀K:SH,i5 p->Q (.tup [.YJ 0,.YJ 0]) K:=λK h=>by subst hQ;exact⟨_,[],aE.all (.refl _),0,0,rfl,rfl,λ_=>h⟩
 clear hQ;by_cases hs:Pj p=true
 case neg=>
  have hs:Pj p=false:=by simpa using hs
  rw[hs]at c1
  repeat' (first|refine sy ?_|refine s2 ?_ ?_|intro)
  exact u _ _ _ YG
 rw[hs]at c1
 repeat' (first|refine sx ?_|((with_reducible refine aU 47 ?_);(refine dK c2 ?_;rintro _ _ ⟨e1,ln1,rfl,rfl,M⟩))|((with_reducible refine aU 48 ?_);(refine dK c3 ?_;rintro _ _ ⟨e2,ln2,rfl,rfl,G⟩))|refine sb λY hnb_=>?_|refine s2 (λh=>?_) λh=>?_|fail)
 all_goals first
  |exact u _ _ _ YG
  |exact u _ _ _ (of_decide_eq_true YD)
  |skip
 rename_i f2 h4;have M:=M (by simpa using f2);have G:=G (by simpa using h);have h4:p.threads.length<=4:=by simp at h4;omega
 clear h f2;refine cS p.threads.length (λ_=>True) (λi=>[.pptr [p.enc] 0 0,.YJ (bT (λt:aj=>aa.cnts t.body) (p.threads.take i):Nat),.YJ i]) YC trivial rfl (λi S hd hi _ nx hn=>?_) (λi S hd _ nx=>?_)
 all_goals refine vw ?_
 .have hx:=aq (f:=aj.enc) S;have D:=dI (f:=λt:aj=>aa.cnts t.body) S;have hst:=oq (λt:aj=>aa.cnts t.body) p.threads (i+1);have hwt:=p.thread_wt S;have c4:=O0 _ p.threads[i].body (Fd _) (by have:aa.wts p.threads[i].body<p.threads[i].wt:=(by unfold aj.wt;omega);omega);have e1:=jY (a:=bT (λt:aj=>aa.cnts t.body) (p.threads.take i)) (b:=aa.cnts p.threads[i].body) YC;have hn:=hn trivial;rw[D]at hn
  repeat' (first|refine sy ?_|refine s2 ?_ ?_|intro)
  exact hn
 .have hxd:=hd
  repeat' (first|refine sx ?_|refine sb λY hnb_=>?_|refine s2 (λh=>?_) λh=>?_|fail)
  .exact u _ _ _ YG
  have h60:bT (λt:aj=>aa.cnts t.body) p.threads<=60:=by rw[S,XT]at h;simp at h;omega
  generalize Y=bw at *;clear hd hxd S;refine bF p.threads.length (λi (s:pk)=>([.pptr [p.enc] 0 0,.ptr bw 0 0,.YJ i],s.L p bw)) (λi s=>s.Ok (bT (λt:aj=>aa.wts t.body) (p.threads.take i))/\s.k=0/\∀j (hj:j<p.threads.length),j<i->StsOk p p.threads[j].locals p.threads[j].body) ⟨0,none,[],0,none,[],none,[]⟩ ⟨⟨λ_=>rfl,Fd _,YG,λ_=>rfl,λ_=>rfl,YF,YF⟩,rfl,λj _ h=>absurd h (XX _)⟩ ?_ ?_
  .exact aE.box (K:=[]) (R:=[]) (.refl _) (.cons (.refl _) (.cons (.refl _) (.cons (.refl _) (.cons .nile (.cons .nile (.cons .nile .nil))))))
  .rintro i s hi ⟨B,hk1,hG⟩;dsimp only;refine vw ?_;generalize hnx:(λ(vs':List AV) (L':SH)=>∃j o',i<j/\j<=p.threads.length/\(pk.Ok o' (bT (λt:aj=>aa.wts t.body) (p.threads.take j))/\o'.k=0/\∀(q:Nat) (hj:q<p.threads.length),q<j->StsOk p p.threads[q].locals p.threads[q].body)/\aE vs' L' [.pptr [p.enc] 0 0,.ptr bw 0 0,.YJ (j:Int)] (pk.L p bw o'))=nx;rcases Nat.lt_or_ge i p.threads.length with O|O
   .have hd:=a8 O;have hi1:=ax O YC;have hx:=aq (f:=aj.enc) O;have D:=dI (f:=λt:aj=>aa.wts t.body) O;have hst:=oq (λt:aj=>aa.wts t.body) p.threads (i+1);have c5:=QE p bw hw _ p.threads[i].body {s with t:=i} (bT (λt:aj=>aa.wts t.body) (p.threads.take i)) (Fd _) O ⟨B.a0,B.ak,B.k6,B.p0,B.e0,B.pm,B.em⟩ YC;rw[<-D]at c5;unfold pk.L pk.row at c5 ⊢
    repeat' (first|refine sy ?_|((with_reducible refine aU 50 ?_);(refine dK c5 ?_;rintro _ _ ⟨e3,ln3,s3,rfl,rfl,hs3,ht3,hk3,hg3⟩))|refine s2 (λh=>?_) λh=>?_|intro)
    .exact u _ _ _ (of_decide_eq_true h)
    .subst hnx;refine⟨i+1,s3,YC,YC,⟨hs3,by rw[hk3];exact hk1,λj hj hlt=>?_⟩,.refl _ _⟩;rcases Fn j i with q1|q1
     .exact hG j hj q1
     .have:j=i:=by omega
      subst this;exact hg3 (by simpa using h)
   .have hd:=bq O
    repeat' (first|refine sy ?_|refine s2 ?_ ?_|intro)
    exact E _ ⟨hs,M,h4,G,h60,λj hj=>hG j hj YC⟩
def O6(p:aY)(B:p.wt<2^40):∃e j:Int,(e=0->i5 p)/\ao Tryz.prog 24 [.agg p.enc] (.tup [.YJ e,.YJ j]):=by obtain⟨v,K,⟨e,j,rfl,rfl,D⟩,hp⟩:=(O5 p B).pure (by simp only[Xk,Xv,false_implies,implies_true,and_true];exact p.pure) (λu K ⟨e,j,E,_,_⟩=>by rw[E];exact HW e j);exact⟨e,j,D,hp⟩
def xI(p:aY):Prop:=∃ln:Int,ao Tryz.prog 24 [.agg p.enc] (.tup [.YJ 0,.YJ ln])
def RG:Option (AV×af)->Bool
 |some (.tup [.int .i64 0,.int .i64 _],_)=>true
 |_=>false
def Me{f:FuncId}{args:List AV}{n:Nat}(ha:∀a∈args,cE a)(j:RG (nD Tryz.prog (iI Tryz.prog (λ_=>none) n) f args af.empty)=true):∃u:Int,ao Tryz.prog f args (.tup [.YJ 0,.YJ u]):=by
 have Y:=(QT Ai).2;have S:=um (P:=Tryz.prog) Y (λc Z H e D O dr hx=>IC Wx Y n c Z H e D O dr hx);cases B:nD Tryz.prog (iI Tryz.prog (λ_=>none) n) f args af.empty with
 |none=>rw[B]at j;cases j
 |some r=>
  obtain⟨v,O⟩:=r;rw[B]at j;have hv:∃u:Int,v=.tup [.YJ 0,.YJ u]:=by
   unfold RG at j;split at j
   .rename_i M;cases M;exact⟨_,rfl⟩
   .cases j
  obtain⟨u,rfl⟩:=hv;have hV:My Tryz.prog f args (.tup [.YJ 0,.YJ u]):=λw σ vs hW G=>(S.ok _ _ _ _ _ B w σ vs hW G).mono λe w' ⟨v',E,he,k1,k2,k3,k4⟩=>⟨v',E,O,he,k1,k3⟩
  exact⟨u,S.body _ _ _ _ _ B,λH hb hS=>⟨_,H,[],Uc (HW 0 u) (λi a h=>ha a (XC h)) hV H,.refl hb hS,rfl,rfl⟩⟩
