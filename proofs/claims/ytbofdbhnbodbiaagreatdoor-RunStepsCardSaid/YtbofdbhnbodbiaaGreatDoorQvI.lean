/- A part of the proof; the statement is proved in the last part. -/
import Derived.Test.YtbofdbhnbodbiaaGreatDoorQvH
set_option linter.all false
set_option maxRecDepth 100000
set_option maxHeartbeats 20000000
namespace Go.Proofs.YtbofdbhnbodbiaaGreatDoor.Am
def Rl(p:bT)(bw:Nat)(s:mc)(m:Nat)(u:AV)(K:SH):Prop:=
 ∃(e ln:Int) (s':mc),u=.tup [.Uf e,.Uf ln]/\K=s'.L p bw/\s'.Ok m/\s'.t=s.t/\s'.k=s.k
def O1{p:bT}{B:Nat}{s:mc}{x:aa}{m:Nat}(h:ac Tryz.prog 135 [.ptr B 0 0,.agg x.row] (s.L p B) (OZ p B s m)):
  ac Tryz.prog 135 [.ptr B 0 0,.agg x.row] (s.L p B) λu K=>∃(e:Int) (j:mc),u=.Uf e/\K=j.L p B/\j.Ok m/\j.t=s.t/\j.k=s.k:=
 ac.permR (h.mono λv O ⟨e,j,N,M,G,E,_,_,D⟩=>⟨_,M,e,j,N,rfl,G,E,D⟩)
def O2(p:bT)(N:Nat)(hw:p.wt<2^40):∀(n:Nat) (l:List aa) (s:mc) (m:Nat),aa.wts l<=n->(ht:s.t<p.threads.length)->s.Ok m->m+aa.wts l<2^40->
  ac Tryz.prog 93 [.ptr N 0 0,.lst (l.map aa.enc)] (s.L p N) (Rl p N s (m+aa.wts l) ):=by
 intro n
 induction n using Nat.strongRecOn with
 |_ n ih=>
  intro l O m hn ht hs0 hm;have hlen:=aa.wts_len l;refine ac.fz (tp _ _ _ _ ?_);refine vw ?_;generalize hQ:(λ(v:AV) (L:SH)=>∃v2 L2,az [v] L [v2] L2/\Rl p N O (m+aa.wts l) v2 L2)=Q;have hqg:∀(e ln:Int) (K:SH) (M:mc),fV K (M.L p N)->M.Ok (m+aa.wts l)->M.t=O.t->M.k=O.k->Q (.tup [.Uf e,.Uf ln]) K:=λe ln K M h1 G h3 S=>by subst hQ;exact⟨_,_,az.pick h1 rfl,e,ln,M,rfl,rfl,G,h3,S⟩
  clear hQ;refine bD l.length (λi (s:mc)=>([.ptr N 0 0,.lst (l.map aa.enc),.Uf i],s.L p N)) (λi s=>s.Ok (m+aa.wts (l.take i))/\s.t=O.t/\s.k=O.k) O ⟨by simpa[aa.wts]using hs0,rfl,rfl⟩ (.refl _ _) ?_;rintro i s hi ⟨hs,hst,hsk⟩;dsimp only;refine vw ?_;generalize hnx:(λ(vs':List AV) (L':SH)=>∃j o',i<j/\j<=l.length/\(mc.Ok o' (m+aa.wts (l.take j))/\o'.t=O.t/\o'.k=O.k)/\az vs' L' [.ptr N 0 0,.lst (l.map aa.enc),.Uf (j:Int)] (mc.L p N o'))=nx;rcases Nat.lt_or_ge i l.length with g1|g1
  .have hd:=aW g1;have hi1:=ax g1 Ua;have hx:=Bg g1;have hwi:=aa.wts_succ g1;have hwl:=aa.wts_take l (i+1);have hwe:=(l[i]).wt_eq;have c1:=O1 (O0 p N s l[i] (m+aa.wts (l.take i)) hw Ua hs Ua Ua);have hn:∀(M:mc) (L':SH),fV L' (M.L p N)->M.Ok (m+aa.wts (l.take (i+1)))->M.t=O.t->M.k=O.k->nx [.ptr N 0 0,.lst (l.map aa.enc),.Uf ((i+1:Nat):Int)] L':=by intro M L' q1 q2 q3 q4;subst hnx;exact⟨i+1,M,Ua,Ua,⟨q2,q3,q4⟩,az.pick q1 rfl⟩
   clear hnx;generalize hxx:l[i]=x at *
   repeat' (first|refine st ?_|((with_reducible refine bb 135 ?_);(refine vm c1 ?_;rintro _ _ ⟨e1,D,rfl,rfl,u,ht1,hk1⟩))|refine sb λE B=>?_|refine s2 (λh=>?_) λh=>?_|fail)
   have hbk:=λ(q:Nat) (h:q<=m+aa.wts (l.take (i+1))) (M:mc) (G:M.Ok q)=>(⟨G.a0,G.ak,G.k6,G.p0,G.e0,by have:=G.pm;omega,by have:=G.em;omega⟩:M.Ok (m+aa.wts (l.take (i+1))));have hbl:=λ(M:mc) (G:M.Ok (m+aa.wts (l.take (i+1))))=>(⟨G.a0,G.ak,G.k6,G.p0,G.e0,by have:=G.pm;omega,by have:=G.em;omega⟩:M.Ok (m+aa.wts l));have key:∀e:Int,(e=0->D.k<6)->tm Q nx [.ptr N 0 0,.lst (l.map aa.enc),.Uf (i:Int),.pptr [x.row] 0 0,.Uf e] (D.L p N):=by
    intro e he;refine vw ?_;unfold mc.L mc.row;by_cases h0:e=0
    .subst h0;have hk6:=he rfl;have hzero:∀(k:Nat) (Y:List (List AV)),k<=Y.length->(Y.take k++[CS])[k]? =some CS:=λk Y h=>by rw[SA (by rw[ST];omega),ST,Tn h,T7];rfl
     have hz:=hzero D.k (D.ar.map aa.enc) (by simpa using u.ak)
     repeat' (first|refine xf ?_ (λe=>by have:=u.a0 e;have:=u.ak;simp_all)|refine st ?_|refine EV (r:=CS) rp Uc rp (by simpa using u.ak) (λe=>by simp[u.a0 e]) Ua Ua Uc (λE B=>?_)|refine sb λE B=>?_|refine s2 (λh=>?_) λh=>?_|fail)
     rename_i bt hbt;have hrows:(List.take D.k (D.ar.map aa.enc)++[CS]).set D.k x.row=(D.ar.take D.k++[x]).map aa.enc:=by
      have hl:(List.take D.k (D.ar.map aa.enc)).length=D.k:=by rw[ST,Ty,Tn u.ak]
      rw[List.set_append_right _ _ Ua,hl,T7,LT,List.map_take,<-aa.enc_row];rfl
     let s2:mc:={D with o1:=some E,ar:=D.ar.take D.k++[x],k:=D.k+1}
     have hs2:s2.Ok (m+aa.wts (l.take i)+1):=⟨nofun,by simp[s2,Tn u.ak],by show D.k+1<=6;omega,u.p0,u.e0,u.pm,u.em⟩;have c2:=ih (aa.wts x.body) Ua x.body s2 (m+aa.wts (l.take i)+1) (Fd _) (by show D.t<_;omega) hs2 Ua;refine Cb (R:=[(bt,?tmp)]) c2 ?hp ?hk
     case hp=>
      unfold mc.L mc.row;dsimp only[ab,aj,s2];rw[<-hrows];exact OW _ _ _ _
     rintro _ _ ⟨e2,ln2,s3,rfl,rfl,hs3,ht3,hk3⟩;have Z:∀(tmp:Nat×Blk) (e ln:Int) (s4:mc),s4.Ok (m+aa.wts (l.take (i+1)))->s4.t=O.t->s4.k=D.k+1->tj Q nx [.ptr N 0 0,.lst (l.map aa.enc),.Uf (i:Int),.Uf e,.Uf ln] (s4.L p N++[tmp]):=by
      intro tmp e ln s4 S ht4 hk4;obtain⟨t4,o1,ar4,k4,o2,sp4,o3,se4⟩:=s4;dsimp only at ht4 hk4;subst ht4;subst hk4;rcases o1 with _|b4
      .exfalso;have:=S.a0 rfl;have:=S.ak;simp_all
      refine vw ?_;unfold mc.L mc.row;dsimp only[ab,aj,List.cons_append,List.nil_append];rw[List.append_assoc];have es:IntKind.i64.wrap (((D.k+1:Nat):Int)-1)=(D.k:Int):=by rw[IntWalk.i64_in _ Ua];omega
      by_cases h0:e=0
      .subst h0
       repeat' (first|refine st ?_|refine uM ?_ (TY _) rp rfl|refine sb λE B=>?_|refine s2 (λh=>?_) λh=>?_|fail)
       exact hn ⟨O.t,some b4,ar4,D.k,o2,sp4,o3,se4⟩ _ (.one (.here _) (.one (.here _) (.slot (.here _) (.slotl (.here _))))) ⟨nofun,by have:=S.ak;dsimp only at *;omega,by dsimp only;omega,S.p0,S.e0,S.pm,S.em⟩ rfl (by dsimp only;omega)
      .have d0:decide (e≠0)=true:=by simpa using h0
       repeat' (first|refine st ?_|refine uM ?_ (TY _) rp rfl|refine sb λE B=>?_|refine s2 (λh=>?_) λh=>?_|fail)
       exact hqg e ln _ ⟨O.t,some b4,ar4,D.k,o2,sp4,o3,se4⟩ (.one (.here _) (.one (.here _) (.slot (.here _) (.slotl (.here _))))) (hbl _ ⟨nofun,by have:=S.ak;dsimp only at *;omega,by dsimp only;omega,S.p0,S.e0,S.pm,S.em⟩) rfl (by dsimp only;omega)
     have ht3':s3.t=O.t:=by rw[ht3];show D.t=O.t;omega
     have hk3':s3.k=D.k+1:=hk3;have c3:=ih (aa.wts x.els) Ua x.els s3 (m+aa.wts (l.take i)+1+aa.wts x.body) (Fd _) Ua hs3 Ua;by_cases G:e2=0
     .have d2:decide (e2=0)=true:=by simpa using G
      refine vw ?_
      repeat' (first|refine st ?_|refine sb λE B=>?_|refine s2 (λh=>?_) λh=>?_|fail)
      refine Cb c3 (.refl _) ?_;rintro _ _ ⟨e3,ln3,s4,rfl,rfl,hs4,ht4,hk4⟩;refine vw ?_
      repeat' (first|with_reducible exact Z _ _ _ _ (hbk _ Ua _ hs4) Ua Ua|refine st ?_|refine sb λE B=>?_|refine s2 (λh=>?_) λh=>?_|fail)
     .have d2:decide (e2=0)=false:=by simpa using G
      refine vw ?_
      repeat' (first|with_reducible exact Z _ _ _ _ (hbk _ Ua _ hs3) Ua Ua|refine st ?_|refine sb λE B=>?_|refine s2 (λh=>?_) λh=>?_|fail)
    .have d0:decide (e≠0)=true:=by simpa using h0
     repeat' (first|refine st ?_|refine sb λE B=>?_|refine s2 (λh=>?_) λh=>?_|fail)
     exact hqg e _ _ D (.one (.here _) (.slot (.here _) (.slot (.here _) (.slotl .last)))) (hbl _ (hbk _ Ua _ u)) Ua Ua
   have hk7:=u.k6;unfold aa.row at key;have ek:=ax (i:=D.k) (n:=7) Ua Ua;by_cases h6:D.k<6
   .have d6:decide ((6:Int)<((D.k+1:Nat):Int))=false:=by simp;omega
    repeat' (first|refine xf ?_ (λe=>by have:=u.a0 e;have:=u.ak;simp_all)|with_reducible refine key _ (λ_=>h6)|refine st ?_|refine sb λE B=>?_|refine s2 (λh=>?_) λh=>?_|fail)
   .have d6:decide ((6:Int)<((D.k+1:Nat):Int))=true:=by simp;omega
    repeat' (first|refine xf ?_ (λe=>by have:=u.a0 e;have:=u.ak;simp_all)|with_reducible refine key _ (λh=>absurd h Ue)|refine st ?_|refine sb λE B=>?_|refine s2 (λh=>?_) λh=>?_|fail)
  .have hd:=aX g1
   repeat' (first|refine st ?_|refine sb λE B=>?_|refine s2 (λh=>?_) λh=>?_|fail)
   have hil:i=l.length:=by omega
   subst hil;rw[T4]at hs;exact hqg 0 0 _ s (.one (.here _) (.slot (.here _) (.slot (.here _) (.slotl .last)))) hs hst hsk
def BJ(p:bT)(Y:p.wt<2^40):TE 50 [.agg p.enc]:=by
 have hl1:=p.decls_len;have hl2:=p.threads_len;have hsum:gA (λt:ai=>aa.wts t.body) p.threads<=p.wt:=by have:=EW (f:=λt:ai=>aa.wts t.body) (g:=ai.wt) (λt=>by unfold ai.wt;omega) p.threads;unfold bT.wt;unfold gA at *;omega
 have c1:=KV p Y;have c2:=Mz p.decls Ua;have c3:=Iy p Y;refine te λQ G=>uO _ _ _ ?_
 refine vw ?_
 repeat' (first|refine st ?_|(refine pf 89 ?_;refine pm (c1) ?_)|(refine pf 90 ?_;refine pm (c2) ?_)|(refine pf 91 ?_;refine pm (c3) ?_)|refine sb λD B=>?_|refine s2 (λh=>?_) λh=>?_|fail)
 all_goals first|exact G _ _ _|skip
 rename_i h4;have h4:p.threads.length<=4:=by simp at h4;omega
 refine BI p.threads.length (λi n=>[.pptr [p.enc] 0 0,.Uf n,.Uf i]) 0 Ua rfl (λi n N M hi nx hn=>?_) (λi n N M nx=>?_)
 all_goals refine vw ?_
 .have hx:=ao (f:=ai.enc) N;have hwt:=p.thread_wt N;have c4:=My _ p.threads[i].body (Fd _) (by have:aa.wts p.threads[i].body<p.threads[i].wt:=(by unfold ai.wt;omega);omega)
  repeat' (first|refine st ?_|(refine pf 92 ?_;refine pm (c4) ?_)|refine sb λD B=>?_|refine s2 (λh=>?_) λh=>?_|fail)
  exact hn _
 .repeat' (first|refine st ?_|refine sb λD B=>?_|refine s2 (λh=>?_) λh=>?_|fail)
  .exact G _ _ _
  generalize D=bw at *;clear M N;refine bD p.threads.length (λi (s:mc)=>([.pptr [p.enc] 0 0,.ptr bw 0 0,.Uf i],s.L p bw)) (λi s=>s.Ok (gA (λt:ai=>aa.wts t.body) (p.threads.take i))/\s.k=0) ⟨0,none,[],0,none,[],none,[]⟩ ⟨⟨λ_=>rfl,Fd _,SL _,λ_=>rfl,λ_=>rfl,SL _,SL _⟩,rfl⟩ ?_ ?_
  .exact az.box (K:=[]) (R:=[]) (.refl _) (.cons (.refl _) (.cons (.refl _) (.cons (.refl _) (.cons .nile (.cons .nile (.cons .nile .nil))))))
  .rintro i s hi ⟨u,hk1⟩;dsimp only;refine vw ?_;generalize hnx:(λ(O:List AV) (L':SH)=>∃j S,i<j/\j<=p.threads.length/\(mc.Ok S (gA (λt:ai=>aa.wts t.body) (p.threads.take j))/\S.k=0)/\az O L' [.pptr [p.enc] 0 0,.ptr bw 0 0,.Uf (j:Int)] (mc.L p bw S))=nx;rcases Nat.lt_or_ge i p.threads.length with E|E
   .have M:=aW E;have hi1:=ax E Ua;have hx:=ao (f:=ai.enc) E;have Z:=Gd (f:=λt:ai=>aa.wts t.body) E;have hst:=zr (λt:ai=>aa.wts t.body) p.threads (i+1);have c5:=O2 p bw Y _ p.threads[i].body {s with t:=i} (gA (λt:ai=>aa.wts t.body) (p.threads.take i)) (Fd _) E ⟨u.a0,u.ak,u.k6,u.p0,u.e0,u.pm,u.em⟩ Ua;rw[<-Z]at c5;unfold mc.L mc.row at c5 ⊢
    repeat' (first|refine st ?_|((with_reducible refine bb 93 ?_);(refine vm c5 ?_;rintro _ _ ⟨e3,ln3,s3,rfl,rfl,hs3,ht3,hk3⟩))|refine sb λD B=>?_|refine s2 (λh=>?_) λh=>?_|fail)
    .exact G _ _ _
    .subst hnx;exact⟨i+1,s3,Ua,Ua,⟨hs3,by rw[hk3];exact hk1⟩,.refl _ _⟩
   .have M:=aX E
    repeat' (first|refine st ?_|refine sb λD B=>?_|refine s2 (λh=>?_) λh=>?_|fail)
    exact G _ _ _
def ly:RF:=nv (bO Tryz.prog Tryz.f56 [] [])
abbrev uR(a b:AV)(L:SH)(Q:R):Prop:=Pc ly 20 Q 0 [] [a,b] L
def tq(j t1:AV)(L:SH)(Q:R)(h:uR j t1 L Q):ac Tryz.prog 56 [j,t1] L Q:=
 fv ly Tryz.func56 h
def zx:RF:=nv (bO Tryz.prog Tryz.f59 [] [])
abbrev Gg(a:AV)(L:SH)(Q:R):Prop:=Pc zx 20 Q 0 [] [a] L
def EZ(j:AV)(L:SH)(Q:R)(h:Gg j L Q):ac Tryz.prog 59 [j] L Q:=
 fv zx Tryz.func59 h
def vM:RF:=nv (bO Tryz.prog Tryz.f143 [] [])
abbrev E0(a:AV)(L:SH)(Q:R):Prop:=Pc vM 20 Q 0 [] [a] L
def CU(j:AV)(L:SH)(Q:R)(h:E0 j L Q):ac Tryz.prog 143 [j] L Q:=
 fv vM Tryz.func143 h
def qA:RF:=nv (bO Tryz.prog Tryz.f142 [] [(0,[4,5])])
abbrev AO(a b c:AV)(L:SH)(Q:R):Prop:=Pc qA 20 Q 0 [] [a,b,c] L
def zy(j t1 t2:AV)(L:SH)(Q:R)(h:AO j t1 t2 L Q):ac Tryz.prog 142 [j,t1,t2] L Q:=
 fv qA Tryz.func142 h
def qB:RF:=nv (bO Tryz.prog Tryz.f58 [] [(0,[3])])
abbrev AP(a b:AV)(L:SH)(Q:R):Prop:=Pc qB 20 Q 0 [] [a,b] L
def zz(j t1:AV)(L:SH)(Q:R)(h:AP j t1 L Q):ac Tryz.prog 58 [j,t1] L Q:=
 fv qB Tryz.func58 h
def tu:RF:=nv (bO Tryz.prog Tryz.f55 [] [])
abbrev CV(L:SH)(Q:R):Prop:=Pc tu 20 Q 0 [] [] L
def AQ(L:SH)(Q:R)(h:CV L Q):ac Tryz.prog 55 [] L Q:=
 fv tu Tryz.func55 h
def ji:RF:=nv (bO Tryz.prog Tryz.f144 [] [])
abbrev rv(a b:AV)(L:SH)(Q:R):Prop:=Pc ji 20 Q 0 [] [a,b] L
def pL(j t1:AV)(L:SH)(Q:R)(h:rv j t1 L Q):ac Tryz.prog 144 [j,t1] L Q:=
 fv ji Tryz.func144 h
def jW:RF:=nv (bO Tryz.prog Tryz.f141 [] [])
abbrev tv(a b:AV)(L:SH)(Q:R):Prop:=Pc jW 20 Q 0 [] [a,b] L
def jj(j t1:AV)(L:SH)(Q:R)(h:tv j t1 L Q):ac Tryz.prog 141 [j,t1] L Q:=
 fv jW Tryz.func141 h
def jl:RF:=nv (bO Tryz.prog Tryz.f145 [] [])
abbrev ry(a b c:AV)(L:SH)(Q:R):Prop:=Pc jl 20 Q 0 [] [a,b,c] L
def pM(j t1 t2:AV)(L:SH)(Q:R)(h:ry j t1 t2 L Q):ac Tryz.prog 145 [j,t1,t2] L Q:=
 fv jl Tryz.func145 h
def jm:RF:=nv (bO Tryz.prog Tryz.f57 [(9,⟨[0,1,2,7,8],[],true,[]⟩)] [])
abbrev rB(a b c:AV)(L:SH)(Q:R):Prop:=Pc jm 20 Q 0 [] [a,b,c] L
def pN(j t1 t2:AV)(L:SH)(Q:R)(h:rB j t1 t2 L Q):ac Tryz.prog 57 [j,t1,t2] L Q:=
 fv jm Tryz.func57 h
def dD:RF:=nv (bO Tryz.prog Tryz.f97 [(1502,⟨[0,4,5],[],true,[]⟩),(2102,⟨[0,4],[],true,[]⟩),(2402,⟨[0,1,4,5,6],[],true,[]⟩)] [(18,[9]),(28,[11]),(33,[12])])
abbrev rC(Q:R)(a:SH)(b c d:AV):Prop:=Pc dD 19 Q 1502 [] [b,d,c] a
abbrev rD(Q:R)(a:SH)(b c:AV):Prop:=Pc dD 19 Q 2102 [] [b,c] a
abbrev pO(Q:R)(a:SH)(b c d e f:AV):Prop:=Pc dD 19 Q 2402 [] [b,c,e,d,f] a
abbrev tw(a b:AV)(L:SH)(Q:R):Prop:=Pc dD 20 Q 0 [] [a,b] L
def jn(j t1:AV)(L:SH)(Q:R)(h:tw j t1 L Q):ac Tryz.prog 97 [j,t1] L Q:=
 fv dD Tryz.func97 h
def eV:RF:=nv (bO Tryz.prog Tryz.f25 [(57052,⟨[2,3,4,5,6,7,8],[18],false,[]⟩),(48040,⟨[2,3,4,5,6,7,8],[18],false,[]⟩),(36,⟨[2,3,4,5,6,7,8,9],[48040],false,[]⟩),(18,⟨[2,3,4,5,6,7],[],true,[]⟩)] [])
abbrev du(a:Kn):Vs->SH->Prop:=Jp eV 18 q0 48040 [a]
abbrev wS(a:Kn):Vs->SH->Kn->Prop:=Lp eV 18 q0 36 [a]
abbrev wT(Q:R):Vs->SH->Kn->Prop:=Lp eV 19 Q 18 []
abbrev zA(a:AV)(L:SH)(Q:R):Prop:=Pc eV 20 Q 0 [] [a] L
def wU(j:AV)(L:SH)(Q:R)(h:zA j L Q):ac Tryz.prog 25 [j] L Q:=
 fv eV Tryz.func25 h
def vN:RF:=nv (bO Tryz.prog Tryz.f7 [] [(1,[3])])
abbrev E1(a:AV)(L:SH)(Q:R):Prop:=Pc vN 20 Q 0 [] [a] L
def CW(j:AV)(L:SH)(Q:R)(h:E1 j L Q):ac Tryz.prog 7 [j] L Q:=
 fv vN Tryz.func7 h
end Go.Proofs.YtbofdbhnbodbiaaGreatDoor.Am
