/- A part of the proof; the statement is proved in the last part. -/
import Derived.Test.YtbofdbhnbodbiaaGreatDoorQuH
set_option linter.all false
set_option maxRecDepth 100000
set_option maxHeartbeats 20000000
namespace Go.Proofs.YtbofdbhnbodbiaaGreatDoor.Am
def Sa(p:bU)(bw:Nat)(s:mq)(m:Nat)(u:AV)(K:SH):Prop:=
 ∃(e ln:Int) (s':mq),u=.tup [.U1 e,.U1 ln]/\K=s'.L p bw/\s'.Ok m/\s'.t=s.t/\s'.k=s.k
def PK{p:bU}{B:Nat}{s:mq}{x:aa}{m:Nat}(h:ac Tryz.prog 135 [.ptr B 0 0,.agg x.row] (s.L p B) (PI p B s m)):
  ac Tryz.prog 135 [.ptr B 0 0,.agg x.row] (s.L p B) λu K=>∃(e:Int) (j:mq),u=.U1 e/\K=j.L p B/\j.Ok m/\j.t=s.t/\j.k=s.k:=
 ac.permR (h.mono λv O ⟨e,j,N,M,G,E,_,_,D⟩=>⟨_,M,e,j,N,rfl,G,E,D⟩)
def PL(p:bU)(N:Nat)(hw:p.wt<2^40):∀(n:Nat) (l:List aa) (s:mq) (m:Nat),aa.wts l<=n->(ht:s.t<p.threads.length)->s.Ok m->m+aa.wts l<2^40->
  ac Tryz.prog 93 [.ptr N 0 0,.lst (l.map aa.enc)] (s.L p N) (Sa p N s (m+aa.wts l) ):=by
 intro n
 induction n using Nat.strongRecOn with
 |_ n ih=>
  intro l O m hn ht hs0 hm;have hlen:=aa.wts_len l;refine ac.fz (tM _ _ _ _ ?_);refine vw ?_;generalize hQ:(λ(v:AV) (L:SH)=>∃v2 L2,az [v] L [v2] L2/\Sa p N O (m+aa.wts l) v2 L2)=Q;have hqg:∀(e ln:Int) (K:SH) (M:mq),fE K (M.L p N)->M.Ok (m+aa.wts l)->M.t=O.t->M.k=O.k->Q (.tup [.U1 e,.U1 ln]) K:=λe ln K M h1 G h3 S=>by subst hQ;exact⟨_,_,az.pick h1 rfl,e,ln,M,rfl,rfl,G,h3,S⟩
  clear hQ;refine bz l.length (λi (s:mq)=>([.ptr N 0 0,.lst (l.map aa.enc),.U1 i],s.L p N)) (λi s=>s.Ok (m+aa.wts (l.take i))/\s.t=O.t/\s.k=O.k) O ⟨by simpa[aa.wts]using hs0,rfl,rfl⟩ (.refl _ _) ?_;rintro i s hi ⟨hs,hst,hsk⟩;dsimp only;refine vw ?_;generalize hnx:(λ(vs':List AV) (L':SH)=>∃j o',i<j/\j<=l.length/\(mq.Ok o' (m+aa.wts (l.take j))/\o'.t=O.t/\o'.k=O.k)/\az vs' L' [.ptr N 0 0,.lst (l.map aa.enc),.U1 (j:Int)] (mq.L p N o'))=nx;rcases Nat.lt_or_ge i l.length with g1|g1
  .have hd:=aS g1;have hi1:=aw g1 UW;have hx:=BD g1;have hwi:=aa.wts_succ g1;have hwl:=aa.wts_take l (i+1);have hwe:=(l[i]).wt_eq;have c1:=PK (PJ p N s l[i] (m+aa.wts (l.take i)) hw UW hs UW UW);have hn:∀(M:mq) (L':SH),fE L' (M.L p N)->M.Ok (m+aa.wts (l.take (i+1)))->M.t=O.t->M.k=O.k->nx [.ptr N 0 0,.lst (l.map aa.enc),.U1 ((i+1:Nat):Int)] L':=by intro M L' q1 q2 q3 q4;subst hnx;exact⟨i+1,M,UW,UW,⟨q2,q3,q4⟩,az.pick q1 rfl⟩
   clear hnx;generalize hxx:l[i]=x at *
   repeat' (first|refine st ?_|((with_reducible refine bb 135 ?_);(refine vO c1 ?_;rintro _ _ ⟨e1,D,rfl,rfl,u,ht1,hk1⟩))|refine sb λE B=>?_|refine s2 (λh=>?_) λh=>?_|fail)
   have hbk:=λ(q:Nat) (h:q<=m+aa.wts (l.take (i+1))) (M:mq) (G:M.Ok q)=>(⟨G.a0,G.ak,G.k6,G.p0,G.e0,by have:=G.pm;omega,by have:=G.em;omega⟩:M.Ok (m+aa.wts (l.take (i+1))));have hbl:=λ(M:mq) (G:M.Ok (m+aa.wts (l.take (i+1))))=>(⟨G.a0,G.ak,G.k6,G.p0,G.e0,by have:=G.pm;omega,by have:=G.em;omega⟩:M.Ok (m+aa.wts l));have key:∀e:Int,(e=0->D.k<6)->tL Q nx [.ptr N 0 0,.lst (l.map aa.enc),.U1 (i:Int),.pptr [x.row] 0 0,.U1 e] (D.L p N):=by
    intro e he;refine vw ?_;unfold mq.L mq.row;by_cases h0:e=0
    .subst h0;have hk6:=he rfl;have hzero:∀(k:Nat) (Y:List (List AV)),k<=Y.length->(Y.take k++[Dp])[k]? =some Dp:=λk Y h=>by rw[Tm (by rw[TJ];omega),TJ,Ud h,UT];rfl
     have hz:=hzero D.k (D.ar.map aa.enc) (by simpa using u.ak)
     repeat' (first|refine xA ?_ (λe=>by have:=u.a0 e;have:=u.ak;simp_all)|refine st ?_|refine Fq (r:=Dp) rp UY rp (by simpa using u.ak) (λe=>by simp[u.a0 e]) UW UW UY (λE B=>?_)|refine sb λE B=>?_|refine s2 (λh=>?_) λh=>?_|fail)
     rename_i bt hbt;have hrows:(List.take D.k (D.ar.map aa.enc)++[Dp]).set D.k x.row=(D.ar.take D.k++[x]).map aa.enc:=by
      have hl:(List.take D.k (D.ar.map aa.enc)).length=D.k:=by rw[TJ,Um,Ud u.ak]
      rw[List.set_append_right _ _ UW,hl,UT,Ti,List.map_take,<-aa.enc_row];rfl
     let s2:mq:={D with o1:=some E,ar:=D.ar.take D.k++[x],k:=D.k+1}
     have hs2:s2.Ok (m+aa.wts (l.take i)+1):=⟨nofun,by simp[s2,Ud u.ak],by show D.k+1<=6;omega,u.p0,u.e0,u.pm,u.em⟩;have c2:=ih (aa.wts x.body) UW x.body s2 (m+aa.wts (l.take i)+1) (Te _) (by show D.t<_;omega) hs2 UW;refine CD (R:=[(bt,?tmp)]) c2 ?hp ?hk
     case hp=>
      unfold mq.L mq.row;dsimp only[ab,aj,s2];rw[<-hrows];exact PD _ _ _ _
     rintro _ _ ⟨e2,ln2,s3,rfl,rfl,hs3,ht3,hk3⟩;have Z:∀(tmp:Nat×Blk) (e ln:Int) (s4:mq),s4.Ok (m+aa.wts (l.take (i+1)))->s4.t=O.t->s4.k=D.k+1->tK Q nx [.ptr N 0 0,.lst (l.map aa.enc),.U1 (i:Int),.U1 e,.U1 ln] (s4.L p N++[tmp]):=by
      intro tmp e ln s4 S ht4 hk4;obtain⟨t4,o1,ar4,k4,o2,sp4,o3,se4⟩:=s4;dsimp only at ht4 hk4;subst ht4;subst hk4;rcases o1 with _|b4
      .exfalso;have:=S.a0 rfl;have:=S.ak;simp_all
      refine vw ?_;unfold mq.L mq.row;dsimp only[ab,aj,List.cons_append,List.nil_append];rw[List.append_assoc];have es:IntKind.i64.wrap (((D.k+1:Nat):Int)-1)=(D.k:Int):=by rw[IntWalk.i64_in _ UW];omega
      by_cases h0:e=0
      .subst h0
       repeat' (first|refine st ?_|refine vf ?_ (UK _) rp rfl|refine sb λE B=>?_|refine s2 (λh=>?_) λh=>?_|fail)
       exact hn ⟨O.t,some b4,ar4,D.k,o2,sp4,o3,se4⟩ _ (.one (.here _) (.one (.here _) (.slot (.here _) (.slotl (.here _))))) ⟨nofun,by have:=S.ak;dsimp only at *;omega,by dsimp only;omega,S.p0,S.e0,S.pm,S.em⟩ rfl (by dsimp only;omega)
      .have d0:decide (e≠0)=true:=by simpa using h0
       repeat' (first|refine st ?_|refine vf ?_ (UK _) rp rfl|refine sb λE B=>?_|refine s2 (λh=>?_) λh=>?_|fail)
       exact hqg e ln _ ⟨O.t,some b4,ar4,D.k,o2,sp4,o3,se4⟩ (.one (.here _) (.one (.here _) (.slot (.here _) (.slotl (.here _))))) (hbl _ ⟨nofun,by have:=S.ak;dsimp only at *;omega,by dsimp only;omega,S.p0,S.e0,S.pm,S.em⟩) rfl (by dsimp only;omega)
     have ht3':s3.t=O.t:=by rw[ht3];show D.t=O.t;omega
     have hk3':s3.k=D.k+1:=hk3;have c3:=ih (aa.wts x.els) UW x.els s3 (m+aa.wts (l.take i)+1+aa.wts x.body) (Te _) UW hs3 UW;by_cases G:e2=0
     .have d2:decide (e2=0)=true:=by simpa using G
      refine vw ?_
      repeat' (first|refine st ?_|refine sb λE B=>?_|refine s2 (λh=>?_) λh=>?_|fail)
      refine CD c3 (.refl _) ?_;rintro _ _ ⟨e3,ln3,s4,rfl,rfl,hs4,ht4,hk4⟩;refine vw ?_
      repeat' (first|with_reducible exact Z _ _ _ _ (hbk _ UW _ hs4) UW UW|refine st ?_|refine sb λE B=>?_|refine s2 (λh=>?_) λh=>?_|fail)
     .have d2:decide (e2=0)=false:=by simpa using G
      refine vw ?_
      repeat' (first|with_reducible exact Z _ _ _ _ (hbk _ UW _ hs3) UW UW|refine st ?_|refine sb λE B=>?_|refine s2 (λh=>?_) λh=>?_|fail)
    .have d0:decide (e≠0)=true:=by simpa using h0
     repeat' (first|refine st ?_|refine sb λE B=>?_|refine s2 (λh=>?_) λh=>?_|fail)
     exact hqg e _ _ D (.one (.here _) (.slot (.here _) (.slot (.here _) (.slotl .last)))) (hbl _ (hbk _ UW _ u)) UW UW
   have hk7:=u.k6;unfold aa.row at key;have ek:=aw (i:=D.k) (n:=7) UW UW;by_cases h6:D.k<6
   .have d6:decide ((6:Int)<((D.k+1:Nat):Int))=false:=by simp;omega
    repeat' (first|refine xA ?_ (λe=>by have:=u.a0 e;have:=u.ak;simp_all)|with_reducible refine key _ (λ_=>h6)|refine st ?_|refine sb λE B=>?_|refine s2 (λh=>?_) λh=>?_|fail)
   .have d6:decide ((6:Int)<((D.k+1:Nat):Int))=true:=by simp;omega
    repeat' (first|refine xA ?_ (λe=>by have:=u.a0 e;have:=u.ak;simp_all)|with_reducible refine key _ (λh=>absurd h U0)|refine st ?_|refine sb λE B=>?_|refine s2 (λh=>?_) λh=>?_|fail)
  .have hd:=aX g1
   repeat' (first|refine st ?_|refine sb λE B=>?_|refine s2 (λh=>?_) λh=>?_|fail)
   have hil:i=l.length:=by omega
   subst hil;rw[UQ]at hs;exact hqg 0 0 _ s (.one (.here _) (.slot (.here _) (.slot (.here _) (.slotl .last)))) hs hst hsk
def B9(p:bU)(Y:p.wt<2^40):TE 50 [.agg p.enc]:=by
 have hl1:=p.decls_len;have hl2:=p.threads_len;have hsum:gF (λt:ai=>aa.wts t.body) p.threads<=p.wt:=by have:=Fs (f:=λt:ai=>aa.wts t.body) (g:=ai.wt) (λt=>by unfold ai.wt;omega) p.threads;unfold bU.wt;unfold gF at *;omega
 have c1:=Lw p Y;have c2:=Na p.decls UW;have c3:=I7 p Y;refine te λQ G=>vh _ _ _ ?_
 refine vw ?_
 repeat' (first|refine st ?_|(refine pf 89 ?_;refine pm (c1) ?_)|(refine pf 90 ?_;refine pm (c2) ?_)|(refine pf 91 ?_;refine pm (c3) ?_)|refine sb λD B=>?_|refine s2 (λh=>?_) λh=>?_|fail)
 all_goals first|exact G _ _ _|skip
 rename_i h4;have h4:p.threads.length<=4:=by simp at h4;omega
 refine B8 p.threads.length (λi n=>[.pptr [p.enc] 0 0,.U1 n,.U1 i]) 0 UW rfl (λi n N M hi nx hn=>?_) (λi n N M nx=>?_)
 all_goals refine vw ?_
 .have hx:=am (f:=ai.enc) N;have hwt:=p.thread_wt N;have c4:=M9 _ p.threads[i].body (Te _) (by have:aa.wts p.threads[i].body<p.threads[i].wt:=(by unfold ai.wt;omega);omega)
  repeat' (first|refine st ?_|(refine pf 92 ?_;refine pm (c4) ?_)|refine sb λD B=>?_|refine s2 (λh=>?_) λh=>?_|fail)
  exact hn _
 .repeat' (first|refine st ?_|refine sb λD B=>?_|refine s2 (λh=>?_) λh=>?_|fail)
  .exact G _ _ _
  generalize D=bw at *;clear M N;refine bz p.threads.length (λi (s:mq)=>([.pptr [p.enc] 0 0,.ptr bw 0 0,.U1 i],s.L p bw)) (λi s=>s.Ok (gF (λt:ai=>aa.wts t.body) (p.threads.take i))/\s.k=0) ⟨0,none,[],0,none,[],none,[]⟩ ⟨⟨λ_=>rfl,Te _,TG _,λ_=>rfl,λ_=>rfl,TG _,TG _⟩,rfl⟩ ?_ ?_
  .exact az.box (K:=[]) (R:=[]) (.refl _) (.cons (.refl _) (.cons (.refl _) (.cons (.refl _) (.cons .nile (.cons .nile (.cons .nile .nil))))))
  .rintro i s hi ⟨u,hk1⟩;dsimp only;refine vw ?_;generalize hnx:(λ(O:List AV) (L':SH)=>∃j S,i<j/\j<=p.threads.length/\(mq.Ok S (gF (λt:ai=>aa.wts t.body) (p.threads.take j))/\S.k=0)/\az O L' [.pptr [p.enc] 0 0,.ptr bw 0 0,.U1 (j:Int)] (mq.L p bw S))=nx;rcases Nat.lt_or_ge i p.threads.length with E|E
   .have M:=aS E;have hi1:=aw E UW;have hx:=am (f:=ai.enc) E;have Z:=GK (f:=λt:ai=>aa.wts t.body) E;have hst:=zK (λt:ai=>aa.wts t.body) p.threads (i+1);have c5:=PL p bw Y _ p.threads[i].body {s with t:=i} (gF (λt:ai=>aa.wts t.body) (p.threads.take i)) (Te _) E ⟨u.a0,u.ak,u.k6,u.p0,u.e0,u.pm,u.em⟩ UW;rw[<-Z]at c5;unfold mq.L mq.row at c5 ⊢
    repeat' (first|refine st ?_|((with_reducible refine bb 93 ?_);(refine vO c5 ?_;rintro _ _ ⟨e3,ln3,s3,rfl,rfl,hs3,ht3,hk3⟩))|refine sb λD B=>?_|refine s2 (λh=>?_) λh=>?_|fail)
    .exact G _ _ _
    .subst hnx;exact⟨i+1,s3,UW,UW,⟨hs3,by rw[hk3];exact hk1⟩,.refl _ _⟩
   .have M:=aX E
    repeat' (first|refine st ?_|refine sb λD B=>?_|refine s2 (λh=>?_) λh=>?_|fail)
    exact G _ _ _
def lJ:RF:=nv (bO Tryz.prog Tryz.f56 [] [])
abbrev vl(a b:AV)(L:SH)(Q:R):Prop:=Pc lJ 20 Q 0 [] [a,b] L
def tN(j t1:AV)(L:SH)(Q:R)(h:vl j t1 L Q):ac Tryz.prog 56 [j,t1] L Q:=
 fv lJ Tryz.func56 h
def zO:RF:=nv (bO Tryz.prog Tryz.f59 [] [])
abbrev GN(a:AV)(L:SH)(Q:R):Prop:=Pc zO 20 Q 0 [] [a] L
def Fv(j:AV)(L:SH)(Q:R)(h:GN j L Q):ac Tryz.prog 59 [j] L Q:=
 fv zO Tryz.func59 h
def wj:RF:=nv (bO Tryz.prog Tryz.f143 [] [])
abbrev Fw(a:AV)(L:SH)(Q:R):Prop:=Pc wj 20 Q 0 [] [a] L
def Dq(j:AV)(L:SH)(Q:R)(h:Fw j L Q):ac Tryz.prog 143 [j] L Q:=
 fv wj Tryz.func143 h
def qI:RF:=nv (bO Tryz.prog Tryz.f142 [] [(0,[4,5])])
abbrev Bf(a b c:AV)(L:SH)(Q:R):Prop:=Pc qI 20 Q 0 [] [a,b,c] L
def zP(j t1 t2:AV)(L:SH)(Q:R)(h:Bf j t1 t2 L Q):ac Tryz.prog 142 [j,t1,t2] L Q:=
 fv qI Tryz.func142 h
def qJ:RF:=nv (bO Tryz.prog Tryz.f58 [] [(0,[3])])
abbrev Bg(a b:AV)(L:SH)(Q:R):Prop:=Pc qJ 20 Q 0 [] [a,b] L
def zQ(j t1:AV)(L:SH)(Q:R)(h:Bg j t1 L Q):ac Tryz.prog 58 [j,t1] L Q:=
 fv qJ Tryz.func58 h
def tO:RF:=nv (bO Tryz.prog Tryz.f55 [] [])
abbrev Dr(L:SH)(Q:R):Prop:=Pc tO 20 Q 0 [] [] L
def Bh(L:SH)(Q:R)(h:Dr L Q):ac Tryz.prog 55 [] L Q:=
 fv tO Tryz.func55 h
def jr:RF:=nv (bO Tryz.prog Tryz.f144 [] [])
abbrev rN(a b:AV)(L:SH)(Q:R):Prop:=Pc jr 20 Q 0 [] [a,b] L
def pY(j t1:AV)(L:SH)(Q:R)(h:rN j t1 L Q):ac Tryz.prog 144 [j,t1] L Q:=
 fv jr Tryz.func144 h
def j8:RF:=nv (bO Tryz.prog Tryz.f141 [] [])
abbrev tP(a b:AV)(L:SH)(Q:R):Prop:=Pc j8 20 Q 0 [] [a,b] L
def jt(j t1:AV)(L:SH)(Q:R)(h:tP j t1 L Q):ac Tryz.prog 141 [j,t1] L Q:=
 fv j8 Tryz.func141 h
def ju:RF:=nv (bO Tryz.prog Tryz.f145 [] [])
abbrev rO(a b c:AV)(L:SH)(Q:R):Prop:=Pc ju 20 Q 0 [] [a,b,c] L
def pZ(j t1 t2:AV)(L:SH)(Q:R)(h:rO j t1 t2 L Q):ac Tryz.prog 145 [j,t1,t2] L Q:=
 fv ju Tryz.func145 h
def jv:RF:=nv (bO Tryz.prog Tryz.f57 [(9,⟨[0,1,2,7,8],[],true,[]⟩)] [])
abbrev rP(a b c:AV)(L:SH)(Q:R):Prop:=Pc jv 20 Q 0 [] [a,b,c] L
def p7(j t1 t2:AV)(L:SH)(Q:R)(h:rP j t1 t2 L Q):ac Tryz.prog 57 [j,t1,t2] L Q:=
 fv jv Tryz.func57 h
def dH:RF:=nv (bO Tryz.prog Tryz.f97 [(1502,⟨[0,4,5],[],true,[]⟩),(2102,⟨[0,4],[],true,[]⟩),(2402,⟨[0,1,4,5,6],[],true,[]⟩)] [(18,[9]),(28,[11]),(33,[12])])
abbrev rQ(Q:R)(a:SH)(b c d:AV):Prop:=Pc dH 19 Q 1502 [] [b,d,c] a
abbrev rR(Q:R)(a:SH)(b c:AV):Prop:=Pc dH 19 Q 2102 [] [b,c] a
abbrev p8(Q:R)(a:SH)(b c d e f:AV):Prop:=Pc dH 19 Q 2402 [] [b,c,e,d,f] a
abbrev tQ(a b:AV)(L:SH)(Q:R):Prop:=Pc dH 20 Q 0 [] [a,b] L
def jw(j t1:AV)(L:SH)(Q:R)(h:tQ j t1 L Q):ac Tryz.prog 97 [j,t1] L Q:=
 fv dH Tryz.func97 h
def fb:RF:=nv (bO Tryz.prog Tryz.f25 [(57052,⟨[2,3,4,5,6,7,8],[18],false,[]⟩),(48040,⟨[2,3,4,5,6,7,8],[18],false,[]⟩),(36,⟨[2,3,4,5,6,7,8,9],[48040],false,[]⟩),(18,⟨[2,3,4,5,6,7],[],true,[]⟩)] [])
abbrev dC(a:Kn):Vs->SH->Prop:=Jp fb 18 q0 48040 [a]
abbrev xj(a:Kn):Vs->SH->Kn->Prop:=Lp fb 18 q0 36 [a]
abbrev xk(Q:R):Vs->SH->Kn->Prop:=Lp fb 19 Q 18 []
abbrev zR(a:AV)(L:SH)(Q:R):Prop:=Pc fb 20 Q 0 [] [a] L
def xl(j:AV)(L:SH)(Q:R)(h:zR j L Q):ac Tryz.prog 25 [j] L Q:=
 fv fb Tryz.func25 h
def wm:RF:=nv (bO Tryz.prog Tryz.f7 [] [(1,[3])])
abbrev Fx(a:AV)(L:SH)(Q:R):Prop:=Pc wm 20 Q 0 [] [a] L
def Ds(j:AV)(L:SH)(Q:R)(h:Fx j L Q):ac Tryz.prog 7 [j] L Q:=
 fv wm Tryz.func7 h
end Go.Proofs.YtbofdbhnbodbiaaGreatDoor.Am
