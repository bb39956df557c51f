/- part -/
import Derived.Test.YtfckbjehkbhkgaaGreatQwA
set_option linter.all false
set_option maxRecDepth 100000
set_option maxHeartbeats 0
namespace Go.Proofs.YtfckbjehkbhkgaaGreat.Am
def ZV(p:cJ)(bw:Nat)(s:oV)(m:Nat)(u:AV)(K:SH):Prop:=
 ∃(e ln:Int) (s':oV),u=.tup [.acU e,.acU ln]/\K=s'.L p bw/\s'.Ok m/\s'.t=s.t/\s'.k=s.k
def Xx{p:cJ}{B:Nat}{s:oV}{x:ae}{m:Nat}(h:ac Tryz.prog 181 [.ptr B 0 0,.agg x.row] (s.L p B) (Xv p B s m)):
  ac Tryz.prog 181 [.ptr B 0 0,.agg x.row] (s.L p B) λu K=>∃(e:Int) (j:oV),u=.acU e/\K=j.L p B/\j.Ok m/\j.t=s.t/\j.k=s.k:=
 ac.permR (h.mono λv O ⟨e,j,N,M,G,E,_,_,D⟩=>⟨_,M,e,j,N,rfl,G,E,D⟩)
def Xy(p:cJ)(G:Nat)(hw:p.wt<2^40):∀(n:Nat) (l:List ae) (s:oV) (m:Nat),ae.wts l<=n->(ht:s.t<p.threads.length)->s.Ok m->m+ae.wts l<2^40->
  ac Tryz.prog 157 [.ptr G 0 0,.lst (l.map ae.enc)] (s.L p G) (ZV p G s (m+ae.wts l) ):=by
 intro n
 induction n using Nat.strongRecOn with
 |_ n ih=>
  intro l M m hn ht hs0 hm;have hlen:=ae.wts_len l;refine ac.fz (xh _ _ _ _ ?_);refine vw ?_;generalize hQ:(λ(v:AV) (L:SH)=>∃v2 L2,ax [v] L [v2] L2/\ZV p G M (m+ae.wts l) v2 L2)=Q;have hqg:∀(e ln:Int) (K:SH) (E:oV),cO K (E.L p G)->E.Ok (m+ae.wts l)->E.t=M.t->E.k=M.k->Q (.tup [.acU e,.acU ln]) K:=λe ln K E h1 D h3 N=>by subst hQ;exact⟨_,_,ax.pick h1 rfl,e,ln,E,rfl,rfl,D,h3,N⟩
  clear hQ;refine aL l.length (λi (s:oV)=>([.ptr G 0 0,.lst (l.map ae.enc),.acU i],s.L p G)) (λi s=>s.Ok (m+ae.wts (l.take i))/\s.t=M.t/\s.k=M.k) M ⟨by simpa[ae.wts]using hs0,rfl,rfl⟩ (.refl _ _) ?_;rintro i s hi ⟨hs,hst,hsk⟩;dsimp only;refine vw ?_;generalize hnx:(λ(vs':List AV) (L':SH)=>∃j o',i<j/\j<=l.length/\(oV.Ok o' (m+ae.wts (l.take j))/\o'.t=M.t/\o'.k=M.k)/\ax vs' L' [.ptr G 0 0,.lst (l.map ae.enc),.acU (j:Int)] (oV.L p G o'))=nx;rcases Nat.lt_or_ge i l.length with g1|g1
  .have hd:=aS g1;have hi1:=av g1 acN;have hx:=Gb g1;have hwi:=ae.wts_succ g1;have hwl:=ae.wts_take l (i+1);have hwe:=(l[i]).wt_eq;have c1:=Xx (Xw p G s l[i] (m+ae.wts (l.take i)) hw acN hs acN acN);have hn:∀(E:oV) (L':SH),cO L' (E.L p G)->E.Ok (m+ae.wts (l.take (i+1)))->E.t=M.t->E.k=M.k->nx [.ptr G 0 0,.lst (l.map ae.enc),.acU ((i+1:Nat):Int)] L':=by intro E L' q1 q2 q3 q4;subst hnx;exact⟨i+1,E,acN,acN,⟨q2,q3,q4⟩,ax.pick q1 rfl⟩
   clear hnx;generalize hxx:l[i]=x at *
   repeat' (first|refine sx ?_|((with_reducible refine aN 181 ?_);(refine zw c1 ?_;rintro _ _ ⟨e1,B,rfl,rfl,u,ht1,hk1⟩))|refine sb λnb_ Y=>?_|refine s2 (λh=>?_) λh=>?_|fail)
   have hbk:=λ(q:Nat) (h:q<=m+ae.wts (l.take (i+1))) (E:oV) (D:E.Ok q)=>(⟨D.a0,D.ak,D.k6,D.p0,D.e0,by have:=D.pm;omega,by have:=D.em;omega⟩:E.Ok (m+ae.wts (l.take (i+1))));have hbl:=λ(E:oV) (D:E.Ok (m+ae.wts (l.take (i+1))))=>(⟨D.a0,D.ak,D.k6,D.p0,D.e0,by have:=D.pm;omega,by have:=D.em;omega⟩:E.Ok (m+ae.wts l));have key:∀e:Int,(e=0->B.k<6)->xg Q nx [.ptr G 0 0,.lst (l.map ae.enc),.acU (i:Int),.pptr [x.row] 0 0,.acU e] (B.L p G):=by
    intro e he;refine vw ?_;unfold oV.L oV.row;by_cases h0:e=0
    .subst h0;have hk6:=he rfl;have hzero:∀(k:Nat) (O:List (List AV)),k<=O.length->(O.take k++[Io])[k]? =some Io:=λk O h=>by rw[aaL (by rw[abm];omega),abm,abV h,Nat.sub_self];rfl
     have hz:=hzero B.k (B.ar.map ae.enc) (by simpa using u.ak)
     repeat' (first|refine A6 ?_ (λe=>by have:=u.a0 e;have:=u.ak;simp_all)|refine sx ?_|refine KH (r:=Io) rp acP rp (by simpa using u.ak) (λe=>by simp[u.a0 e]) acN acN acP (λnb_ Y=>?_)|refine sb λnb_ Y=>?_|refine s2 (λh=>?_) λh=>?_|fail)
     rename_i bt hbt;have hrows:(List.take B.k (B.ar.map ae.enc)++[Io]).set B.k x.row=(B.ar.take B.k++[x]).map ae.enc:=by
      have hl:(List.take B.k (B.ar.map ae.enc)).length=B.k:=by rw[abm,acl,abV u.ak]
      rw[List.set_append_right _ _ acN,hl,Nat.sub_self,ST,acD,<-ae.enc_row];rfl
     let s2:oV:={B with o1:=some nb_,ar:=B.ar.take B.k++[x],k:=B.k+1}
     have hs2:s2.Ok (m+ae.wts (l.take i)+1):=⟨nofun,by simp[s2,abV u.ak],by show B.k+1<=6;omega,u.p0,u.e0,u.pm,u.em⟩;have c2:=ih (ae.wts x.body) acN x.body s2 (m+ae.wts (l.take i)+1) (Fd _) (by show B.t<_;omega) hs2 acN;refine Hm (R:=[(bt,?Z)]) c2 ?hp ?hk
     case hp=>
      unfold oV.L oV.row;dsimp only[ab,af,s2];rw[<-hrows];exact Xk _ _ _ _
     rintro _ _ ⟨e2,ln2,s3,rfl,rfl,hs3,ht3,hk3⟩;have S:∀(Z:Nat×Blk) (e ln:Int) (s4:oV),s4.Ok (m+ae.wts (l.take (i+1)))->s4.t=M.t->s4.k=B.k+1->xf Q nx [.ptr G 0 0,.lst (l.map ae.enc),.acU (i:Int),.acU e,.acU ln] (s4.L p G++[Z]):=by
      intro Z e ln s4 N ht4 hk4;obtain⟨t4,o1,ar4,k4,o2,sp4,o3,se4⟩:=s4;dsimp only at ht4 hk4;subst ht4;subst hk4;rcases o1 with _|b4
      .exfalso;have:=N.a0 rfl;have:=N.ak;simp_all
      refine vw ?_;unfold oV.L oV.row;dsimp only[ab,af,List.cons_append,List.nil_append];rw[List.append_assoc];have es:IntKind.i64.wrap (((B.k+1:Nat):Int)-1)=(B.k:Int):=by rw[IntWalk.i64_in _ acN];omega
      by_cases h0:e=0
      .subst h0
       repeat' (first|refine sy ?_|refine yG ?_ (acC _) rp rfl|refine s2 ?_ ?_|intro)
       exact hn ⟨M.t,some b4,ar4,B.k,o2,sp4,o3,se4⟩ _ (.one (.here _) (.one (.here _) (.slot (.here _) (.slotl (.here _))))) ⟨nofun,by have:=N.ak;dsimp only at *;omega,by dsimp only;omega,N.p0,N.e0,N.pm,N.em⟩ rfl (by dsimp only;omega)
      .have d0:decide (e≠0)=true:=by simpa using h0
       repeat' (first|refine sy ?_|refine yG ?_ (acC _) rp rfl|refine s2 ?_ ?_|intro)
       exact hqg e ln _ ⟨M.t,some b4,ar4,B.k,o2,sp4,o3,se4⟩ (.one (.here _) (.one (.here _) (.slot (.here _) (.slotl (.here _))))) (hbl _ ⟨nofun,by have:=N.ak;dsimp only at *;omega,by dsimp only;omega,N.p0,N.e0,N.pm,N.em⟩) rfl (by dsimp only;omega)
     have ht3':s3.t=M.t:=by rw[ht3];show B.t=M.t;omega
     have hk3':s3.k=B.k+1:=hk3;have c3:=ih (ae.wts x.els) acN x.els s3 (m+ae.wts (l.take i)+1+ae.wts x.body) (Fd _) acN hs3 acN;by_cases D:e2=0
     .have d2:decide (e2=0)=true:=by simpa using D
      refine vw ?_
      repeat' (first|refine sy ?_|refine s2 ?_ ?_|intro)
      refine Hm c3 (.refl _) ?_;rintro _ _ ⟨e3,ln3,s4,rfl,rfl,hs4,ht4,hk4⟩;refine vw ?_
      repeat' (first|with_reducible exact S _ _ _ _ (hbk _ acN _ hs4) acN acN|refine sy ?_|refine s2 ?_ ?_|intro)
     .have d2:decide (e2=0)=false:=by simpa using D
      refine vw ?_
      repeat' (first|with_reducible exact S _ _ _ _ (hbk _ acN _ hs3) acN acN|refine sy ?_|refine s2 ?_ ?_|intro)
    .have d0:decide (e≠0)=true:=by simpa using h0
     repeat' (first|refine sy ?_|refine s2 ?_ ?_|intro)
     exact hqg e _ _ B (.one (.here _) (.slot (.here _) (.slot (.here _) (.slotl .last)))) (hbl _ (hbk _ acN _ u)) acN acN
   have hk7:=u.k6;unfold ae.row at key;have ek:=av (i:=B.k) (n:=7) acN acN;by_cases h6:B.k<6
   .have d6:decide ((6:Int)<((B.k+1:Nat):Int))=false:=by simp;omega
    repeat' (first|refine A6 ?_ (λe=>by have:=u.a0 e;have:=u.ak;simp_all)|with_reducible refine key _ (λ_=>h6)|refine sy ?_|refine s2 ?_ ?_|intro)
   .have d6:decide ((6:Int)<((B.k+1:Nat):Int))=true:=by simp;omega
    repeat' (first|refine A6 ?_ (λe=>by have:=u.a0 e;have:=u.ak;simp_all)|with_reducible refine key _ (λh=>absurd h acR)|refine sy ?_|refine s2 ?_ ?_|intro)
  .have hd:=aW g1
   repeat' (first|refine sy ?_|refine s2 ?_ ?_|intro)
   have hil:i=l.length:=by omega
   subst hil;rw[acx]at hs;exact hqg 0 0 _ s (.one (.here _) (.slot (.here _) (.slot (.here _) (.slotl .last)))) hs hst hsk
def GH(p:cJ)(Y:p.wt<2^40):TE 123 [.agg p.enc]:=by
 have hl1:=p.decls_len;have hl2:=p.threads_len;have hsum:iQ (λt:am=>ae.wts t.body) p.threads<=p.wt:=by have:=KI (f:=λt:am=>ae.wts t.body) (g:=am.wt) (λt=>by unfold am.wt;omega) p.threads;unfold cJ.wt;unfold iQ at *;omega
 have c1:=R8 p Y;have c2:=UT p.decls acN;have c3:=PF p Y;refine te λQ G=>yO _ _ _ ?_
 refine vw ?_
 repeat' (first|refine sx ?_|refine sb λD E=>?_|refine s2 (λh=>?_) λh=>?_|fail)
 all_goals first|exact G _ _ _|skip
 rename_i h4;have h4:p.threads.length<=4:=by simp at h4;omega
 refine Gy p.threads.length (λi n=>[.pptr [p.enc] 0 0,.acU n,.acU i]) 0 acN rfl (λi n N M hi nx hn=>?_) (λi n N M nx=>?_)
 all_goals refine vw ?_
 .have hx:=aj (f:=am.enc) N;have hwt:=p.thread_wt N;have c4:=US _ p.threads[i].body (Fd _) (by have:ae.wts p.threads[i].body<p.threads[i].wt:=(by unfold am.wt;omega);omega)
  repeat' (first|refine sy ?_|refine s2 ?_ ?_|intro)
  exact hn _
 .repeat' (first|refine sx ?_|refine sb λD E=>?_|refine s2 ?_ ?_|intro)
  .exact G _ _ _
  generalize D=bw at *;clear M N;refine aL p.threads.length (λi (s:oV)=>([.pptr [p.enc] 0 0,.ptr bw 0 0,.acU i],s.L p bw)) (λi s=>s.Ok (iQ (λt:am=>ae.wts t.body) (p.threads.take i))/\s.k=0) ⟨0,none,[],0,none,[],none,[]⟩ ⟨⟨λ_=>rfl,Fd _,abt _,λ_=>rfl,λ_=>rfl,abt _,abt _⟩,rfl⟩ ?_ ?_
  .exact ax.box (K:=[]) (R:=[]) (.refl _) (.cons (.refl _) (.cons (.refl _) (.cons (.refl _) (.cons .nile (.cons .nile (.cons .nile .nil))))))
  .rintro i s hi ⟨u,hk1⟩;dsimp only;refine vw ?_;generalize hnx:(λ(O:List AV) (L':SH)=>∃j S,i<j/\j<=p.threads.length/\(oV.Ok S (iQ (λt:am=>ae.wts t.body) (p.threads.take j))/\S.k=0)/\ax O L' [.pptr [p.enc] 0 0,.ptr bw 0 0,.acU (j:Int)] (oV.L p bw S))=nx;rcases Nat.lt_or_ge i p.threads.length with B|B
   .have M:=aS B;have hi1:=av B acN;have hx:=aj (f:=am.enc) B;have Z:=Mz (f:=λt:am=>ae.wts t.body) B;have hst:=Dj (λt:am=>ae.wts t.body) p.threads (i+1);have c5:=Xy p bw Y _ p.threads[i].body {s with t:=i} (iQ (λt:am=>ae.wts t.body) (p.threads.take i)) (Fd _) B ⟨u.a0,u.ak,u.k6,u.p0,u.e0,u.pm,u.em⟩ acN;rw[<-Z]at c5;unfold oV.L oV.row at c5 ⊢
    repeat' (first|refine sy ?_|((with_reducible refine aN 157 ?_);(refine zw c5 ?_;rintro _ _ ⟨e3,ln3,s3,rfl,rfl,hs3,ht3,hk3⟩))|refine s2 ?_ ?_|intro)
    .exact G _ _ _
    .subst hnx;exact⟨i+1,s3,acN,acN,⟨hs3,by rw[hk3];exact hk1⟩,.refl _ _⟩
   .have M:=aW B
    repeat' (first|refine sy ?_|refine s2 ?_ ?_|intro)
    exact G _ _ _
def nP:RF:=nv (bQ Tryz.prog Tryz.f92 [] [])
abbrev yR(a b:AV)(L:SH)(Q:R):Prop:=Pc nP 20 Q 0 [] [a,b] L
def lX(u j:AV)(L:SH)(Q:R)(h:yR u j L Q):ac Tryz.prog 92 [u,j] L Q:=
 fv nP Tryz.func92 h
def DB:RF:=nv (bQ Tryz.prog Tryz.f131 [] [])
abbrev MQ(a:AV)(L:SH)(Q:R):Prop:=Pc DB 20 Q 0 [] [a] L
def KX(j:AV)(L:SH)(Q:R)(h:MQ j L Q):ac Tryz.prog 131 [j] L Q:=
 fv DB Tryz.func131 h
def zK:RF:=nv (bQ Tryz.prog Tryz.f189 [] [])
abbrev KY(a:AV)(L:SH)(Q:R):Prop:=Pc zK 20 Q 0 [] [a] L
def Iv(j:AV)(L:SH)(Q:R)(h:KY j L Q):ac Tryz.prog 189 [j] L Q:=
 fv zK Tryz.func189 h
def tS:RF:=nv (bQ Tryz.prog Tryz.f188 [] [(0,[4,5])])
abbrev FD(a b c:AV)(L:SH)(Q:R):Prop:=Pc tS 20 Q 0 [] [a,b,c] L
def DC(B u j:AV)(L:SH)(Q:R)(h:FD B u j L Q):ac Tryz.prog 188 [B,u,j] L Q:=
 fv tS Tryz.func188 h
def tT:RF:=nv (bQ Tryz.prog Tryz.f130 [] [(0,[3])])
abbrev FE(a b:AV)(L:SH)(Q:R):Prop:=Pc tT 20 Q 0 [] [a,b] L
def DD(u j:AV)(L:SH)(Q:R)(h:FE u j L Q):ac Tryz.prog 130 [u,j] L Q:=
 fv tT Tryz.func130 h
def xi:RF:=nv (bQ Tryz.prog Tryz.f128 [] [])
abbrev Iw(L:SH)(Q:R):Prop:=Pc xi 20 Q 0 [] [] L
def FF(L:SH)(Q:R)(h:Iw L Q):ac Tryz.prog 128 [] L Q:=
 fv xi Tryz.func128 h
def kV:RF:=nv (bQ Tryz.prog Tryz.f190 [] [])
abbrev uO(a b:AV)(L:SH)(Q:R):Prop:=Pc kV 20 Q 0 [] [a,b] L
def sQ(u j:AV)(L:SH)(Q:R)(h:uO u j L Q):ac Tryz.prog 190 [u,j] L Q:=
 fv kV Tryz.func190 h
def lY:RF:=nv (bQ Tryz.prog Tryz.f187 [] [])
abbrev xj(a b:AV)(L:SH)(Q:R):Prop:=Pc lY 20 Q 0 [] [a,b] L
def kW(u j:AV)(L:SH)(Q:R)(h:xj u j L Q):ac Tryz.prog 187 [u,j] L Q:=
 fv lY Tryz.func187 h
def kX:RF:=nv (bQ Tryz.prog Tryz.f191 [] [])
abbrev uP(a b c:AV)(L:SH)(Q:R):Prop:=Pc kX 20 Q 0 [] [a,b,c] L
def sR(B u j:AV)(L:SH)(Q:R)(h:uP B u j L Q):ac Tryz.prog 191 [B,u,j] L Q:=
 fv kX Tryz.func191 h
def kY:RF:=nv (bQ Tryz.prog Tryz.f129 [(9,⟨[0,1,2,7,8],[],true,[]⟩)] [])
abbrev uQ(a b c:AV)(L:SH)(Q:R):Prop:=Pc kY 20 Q 0 [] [a,b,c] L
def sS(B u j:AV)(L:SH)(Q:R)(h:uQ B u j L Q):ac Tryz.prog 129 [B,u,j] L Q:=
 fv kY Tryz.func129 h
def eU:RF:=nv (bQ Tryz.prog Tryz.f161 [(1502,⟨[0,4,5],[],true,[]⟩),(2102,⟨[0,4],[],true,[]⟩),(2402,⟨[0,1,4,5,6],[],true,[]⟩)] [(18,[9]),(28,[11]),(33,[12])])
abbrev uR(Q:R)(a:SH)(b c d:AV):Prop:=Pc eU 19 Q 1502 [] [b,d,c] a
abbrev uS(Q:R)(a:SH)(b c:AV):Prop:=Pc eU 19 Q 2102 [] [b,c] a
abbrev sT(Q:R)(a:SH)(b c d e f:AV):Prop:=Pc eU 19 Q 2402 [] [b,c,e,d,f] a
abbrev xk(a b:AV)(L:SH)(Q:R):Prop:=Pc eU 20 Q 0 [] [a,b] L
def kZ(u j:AV)(L:SH)(Q:R)(h:xk u j L Q):ac Tryz.prog 161 [u,j] L Q:=
 fv eU Tryz.func161 h
def gu:RF:=nv (bQ Tryz.prog Tryz.f105 [(57052,⟨[2,3,4,5,6,7,8],[18],false,[]⟩),(48040,⟨[2,3,4,5,6,7,8],[18],false,[]⟩),(36,⟨[2,3,4,5,6,7,8,9],[48040],false,[]⟩),(18,⟨[2,3,4,5,6,7],[],true,[]⟩)] [])
abbrev eK(a:Kn):Vs->SH->Prop:=Jp gu 18 q0 48040 [a]
abbrev AH(a:Kn):Vs->SH->Kn->Prop:=Lp gu 18 q0 36 [a]
abbrev AI(Q:R):Vs->SH->Kn->Prop:=Lp gu 19 Q 18 []
abbrev DE(a:AV)(L:SH)(Q:R):Prop:=Pc gu 20 Q 0 [] [a] L
def AJ(j:AV)(L:SH)(Q:R)(h:DE j L Q):ac Tryz.prog 105 [j] L Q:=
 fv gu Tryz.func105 h
def zL:RF:=nv (bQ Tryz.prog Tryz.f65 [] [(1,[3])])
abbrev KZ(a:AV)(L:SH)(Q:R):Prop:=Pc zL 20 Q 0 [] [a] L
def Ix(j:AV)(L:SH)(Q:R)(h:KZ j L Q):ac Tryz.prog 65 [j] L Q:=
 fv zL Tryz.func65 h
