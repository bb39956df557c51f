/- A part of the proof; the statement is proved in the last part. -/
import Derived.Test.YtenbpcngcicamaaGreatDoorQcs
set_option linter.unusedSimpArgs false
set_option linter.unusedVariables false
namespace Go.Proofs.YtenbpcngcicamaaGreatDoor.Am
section
set_option maxRecDepth 100000
set_option maxHeartbeats 4000000
def Ux(p:bO)(bw:Nat)(s:na)(m:Nat)(u:AV)(K:SH):Prop:=
 ∃(e ln:Int) (s':na),u=.tup [.W9 e,.W9 ln]∧K=s'.L p bw∧s'.Ok m∧s'.t=s.t∧s'.k=s.k
theorem Su{p:bO}{bw:Nat}{s:na}{x:ab}{m:Nat}(h:ai Tryz.prog 65 [.ptr bw 0 0,.agg x.row] (s.L p bw) (Ss p bw s m)):
  ai Tryz.prog 65 [.ptr bw 0 0,.agg x.row] (s.L p bw) λu K=>∃(e:Int) (s':na),u=.W9 e∧K=s'.L p bw∧s'.Ok m∧s'.t=s.t∧s'.k=s.k:=
 ai.permR (h.mono λv K' ⟨e,s',h1,h2,h3,h4,_,_,h5⟩=>⟨_,h2,e,s',h1,rfl,h3,h4,h5⟩)
set_option maxHeartbeats 2000000 in
theorem Sv(p:bO)(bw:Nat)(hw:p.wt<2^40):∀(n:Nat) (l:List ab) (s:na) (m:Nat),ab.wts l≤n→(ht:s.t<p.threads.length)→s.Ok m→m+ab.wts l<2^40→
  ai Tryz.prog 41 [.ptr bw 0 0,.lst (l.map ab.enc)] (s.L p bw) (Ux p bw s (m+ab.wts l) ):=by
 intro n
 induction n using Nat.strongRecOn with
 |_ n ih=>
  intro l s0 m hn ht hs0 hm;have hlen:=ab.wts_len l;refine ai.fz (yj _ _ _ _ ?_);unfold mn;generalize hQ:(λ(v:AV) (L:SH)=>∃v2 L2,aI [v] L [v2] L2∧Ux p bw s0 (m+ab.wts l) v2 L2)=Q;have hqg:∀(e ln:Int) (K:SH) (s':na),gI K (s'.L p bw)→s'.Ok (m+ab.wts l)→s'.t=s0.t→s'.k=s0.k→Q (.tup [.W9 e,.W9 ln]) K:=λe ln K s' h1 h2 h3 h4=>by subst hQ;exact⟨_,_,aI.pick h1 rfl,e,ln,s',rfl,rfl,h2,h3,h4⟩
  clear hQ;refine cg l.length (λi (s:na)=>([.ptr bw 0 0,.lst (l.map ab.enc),.W9 i],s.L p bw)) (λi s=>s.Ok (m+ab.wts (l.take i))∧s.t=s0.t∧s.k=s0.k) s0 ⟨by simpa[ab.wts]using hs0,rfl,rfl⟩ (.refl _ _) ?_;rintro i s hi ⟨hs,hst,hsk⟩;dsimp only;unfold kJ;generalize hnx:(λ(vs':List AV) (L':SH)=>∃j o',i<j∧j≤l.length∧(na.Ok o' (m+ab.wts (l.take j))∧o'.t=s0.t∧o'.k=s0.k)∧aI vs' L' [.ptr bw 0 0,.lst (l.map ab.enc),.W9 (j:Int)] (na.L p bw o'))=nx;rcases Nat.lt_or_ge i l.length with g1|g1
  ·have hd:=bF g1;have hi1:=aE g1 W4;have hx:=FE g1;have hwi:=ab.wts_succ g1;have hwl:=ab.wts_take l (i+1);have hwe:=(l[i]).wt_eq;have c1:=Su (St p bw s l[i] (m+ab.wts (l.take i)) hw W4 hs W4 W4);have hn:∀(s':na) (L':SH),gI L' (s'.L p bw)→s'.Ok (m+ab.wts (l.take (i+1)))→s'.t=s0.t→s'.k=s0.k→nx [.ptr bw 0 0,.lst (l.map ab.enc),.W9 ((i+1:Nat):Int)] L':=by intro s' L' q1 q2 q3 q4;subst hnx;exact⟨i+1,s',W4,W4,⟨q2,q3,q4⟩,aI.pick q1 rfl⟩
   clear hnx;generalize hxx:l[i]=x at *
   repeat' (first|refine st ?_|((with_reducible refine aZ 65 ?_);(refine AW c1 ?_;rintro _ _ ⟨e1,s1,rfl,rfl,hs1,ht1,hk1⟩))|refine sb λnb_ hnb_=>?_|refine s2 (λh=>?_) λh=>?_|fail)
   have hbk:=λ(q:Nat) (h:q≤m+ab.wts (l.take (i+1))) (s':na) (h2:s'.Ok q)=>(⟨h2.a0,h2.ak,h2.k6,h2.p0,h2.e0,by have:=h2.pm;omega,by have:=h2.em;omega⟩:s'.Ok (m+ab.wts (l.take (i+1))));have hbl:=λ(s':na) (h2:s'.Ok (m+ab.wts (l.take (i+1))))=>(⟨h2.a0,h2.ak,h2.k6,h2.p0,h2.e0,by have:=h2.pm;omega,by have:=h2.em;omega⟩:s'.Ok (m+ab.wts l));have key:∀e:Int,(e=0→s1.k<6)→gh Q nx [.ptr bw 0 0,.lst (l.map ab.enc),.W9 (i:Int),.pptr [x.row] 0 0,.W9 e] (s1.L p bw):=by
    intro e he;unfold gh;unfold na.L na.row;by_cases h0:e=0
    ·subst h0;have hk6:=he rfl;have hzero:∀(k:Nat) (rows:List (List AV)),k≤rows.length→(rows.take k++[G0])[k]? =some G0:=λk rows h=>by rw[Vx (by rw[VR];omega),VR,Wd h,Nat.sub_self];rfl
     have hz:=hzero s1.k (s1.ar.map ab.enc) (by simpa using hs1.ak)
     repeat' (first|refine Cs ?_ (λe=>by have:=hs1.a0 e;have:=hs1.ak;simp_all)|refine st ?_|refine IU (r:=G0) rp W6 rp (by simpa using hs1.ak) (λe=>by simp[hs1.a0 e]) W4 W4 W6 (λnb_ hnb_=>?_)|refine sb λnb_ hnb_=>?_|refine s2 (λh=>?_) λh=>?_|fail)
     rename_i bt hbt;have hrows:(List.take s1.k (s1.ar.map ab.enc)++[G0]).set s1.k x.row=(s1.ar.take s1.k++[x]).map ab.enc:=by
      have hl:(List.take s1.k (s1.ar.map ab.enc)).length=s1.k:=by rw[VR,Wv,Wd hs1.ak]
      rw[List.set_append_right _ _ W4,hl,Nat.sub_self,Vr,List.map_take,←ab.enc_row];rfl
     let s2:na:={s1 with o1:=some nb_,ar:=s1.ar.take s1.k++[x],k:=s1.k+1}
     have hs2:s2.Ok (m+ab.wts (l.take i)+1):=⟨nofun,by simp[s2,Wd hs1.ak],by show s1.k+1≤6;omega,hs1.p0,hs1.e0,hs1.pm,hs1.em⟩;have c2:=ih (ab.wts x.body) W4 x.body s2 (m+ab.wts (l.take i)+1) (Vo _) (by show s1.t<_;omega) hs2 W4;refine Gp (R:=[(bt,?tmp)]) c2 ?hp ?hk
     case hp=>
      unfold na.L na.row;dsimp only[ah,aq,s2];rw[←hrows];exact Sp _ _ _ _
     rintro _ _ ⟨e2,ln2,s3,rfl,rfl,hs3,ht3,hk3⟩;have key2:∀(tmp:Nat×Blk) (e ln:Int) (s4:na),s4.Ok (m+ab.wts (l.take (i+1)))→s4.t=s0.t→s4.k=s1.k+1→gf Q nx [.ptr bw 0 0,.lst (l.map ab.enc),.W9 (i:Int),.W9 e,.W9 ln] (s4.L p bw++[tmp]):=by
      intro tmp e ln s4 h4 ht4 hk4;obtain⟨t4,o1,ar4,k4,o2,sp4,o3,se4⟩:=s4;dsimp only at ht4 hk4;subst ht4;subst hk4;rcases o1 with _|b4
      ·exfalso;have:=h4.a0 rfl;have:=h4.ak;simp_all
      unfold gf;unfold na.L na.row;dsimp only[ah,aq,List.cons_append,List.nil_append];rw[List.append_assoc];have es:IntKind.i64.wrap (((s1.k+1:Nat):Int)-1)=(s1.k:Int):=by rw[IntWalk.i64_in _ W4];omega
      by_cases h0:e=0
      ·subst h0
       repeat' (first|refine st ?_|refine Ag ?_ (WI _) rp rfl|refine sb λnb_ hnb_=>?_|refine s2 (λh=>?_) λh=>?_|fail)
       exact hn ⟨s0.t,some b4,ar4,s1.k,o2,sp4,o3,se4⟩ _ (.one (.here _) (.one (.here _) (.slot (.here _) (.slotl (.here _))))) ⟨nofun,by have:=h4.ak;dsimp only at *;omega,by dsimp only;omega,h4.p0,h4.e0,h4.pm,h4.em⟩ rfl (by dsimp only;omega)
      ·have d0:decide (e≠0)=true:=by simpa using h0
       repeat' (first|refine st ?_|refine Ag ?_ (WI _) rp rfl|refine sb λnb_ hnb_=>?_|refine s2 (λh=>?_) λh=>?_|fail)
       exact hqg e ln _ ⟨s0.t,some b4,ar4,s1.k,o2,sp4,o3,se4⟩ (.one (.here _) (.one (.here _) (.slot (.here _) (.slotl (.here _))))) (hbl _ ⟨nofun,by have:=h4.ak;dsimp only at *;omega,by dsimp only;omega,h4.p0,h4.e0,h4.pm,h4.em⟩) rfl (by dsimp only;omega)
     have ht3':s3.t=s0.t:=by rw[ht3];show s1.t=s0.t;omega
     have hk3':s3.k=s1.k+1:=hk3;have c3:=ih (ab.wts x.els) W4 x.els s3 (m+ab.wts (l.take i)+1+ab.wts x.body) (Vo _) W4 hs3 W4;by_cases h2:e2=0
     ·have d2:decide (e2=0)=true:=by simpa using h2
      unfold gg
      repeat' (first|refine st ?_|refine sb λnb_ hnb_=>?_|refine s2 (λh=>?_) λh=>?_|fail)
      refine Gp c3 (.refl _) ?_;rintro _ _ ⟨e3,ln3,s4,rfl,rfl,hs4,ht4,hk4⟩;unfold kI
      repeat' (first|with_reducible exact key2 _ _ _ _ (hbk _ W4 _ hs4) W4 W4|refine st ?_|refine sb λnb_ hnb_=>?_|refine s2 (λh=>?_) λh=>?_|fail)
     ·have d2:decide (e2=0)=false:=by simpa using h2
      unfold gg
      repeat' (first|with_reducible exact key2 _ _ _ _ (hbk _ W4 _ hs3) W4 W4|refine st ?_|refine sb λnb_ hnb_=>?_|refine s2 (λh=>?_) λh=>?_|fail)
    ·have d0:decide (e≠0)=true:=by simpa using h0
     repeat' (first|refine st ?_|refine sb λnb_ hnb_=>?_|refine s2 (λh=>?_) λh=>?_|fail)
     exact hqg e _ _ s1 (.one (.here _) (.slot (.here _) (.slot (.here _) (.slotl .last)))) (hbl _ (hbk _ W4 _ hs1)) W4 W4
   have hk7:=hs1.k6;unfold ab.row at key;have ek:=aE (i:=s1.k) (n:=7) W4 W4;by_cases h6:s1.k<6
   ·have d6:decide ((6:Int)<((s1.k+1:Nat):Int))=false:=by simp;omega
    repeat' (first|refine Cs ?_ (λe=>by have:=hs1.a0 e;have:=hs1.ak;simp_all)|with_reducible refine key _ (λ_=>h6)|refine st ?_|refine sb λnb_ hnb_=>?_|refine s2 (λh=>?_) λh=>?_|fail)
   ·have d6:decide ((6:Int)<((s1.k+1:Nat):Int))=true:=by simp;omega
    repeat' (first|refine Cs ?_ (λe=>by have:=hs1.a0 e;have:=hs1.ak;simp_all)|with_reducible refine key _ (λh=>absurd h W8)|refine st ?_|refine sb λnb_ hnb_=>?_|refine s2 (λh=>?_) λh=>?_|fail)
  ·have hd:=bM g1
   repeat' (first|refine st ?_|refine sb λnb_ hnb_=>?_|refine s2 (λh=>?_) λh=>?_|fail)
   have hil:i=l.length:=by omega
   subst hil;rw[List.take_length]at hs;exact hqg 0 0 _ s (.one (.here _) (.slot (.here _) (.slot (.here _) (.slotl .last)))) hs hst hsk
theorem FW(p:bO)(hw:p.wt<2^40):TE 17 [.agg p.enc]:=by
 have hl1:=p.decls_len;have hl2:=p.threads_len;have hsum:gC (λt:aj=>ab.wts t.body) p.threads≤p.wt:=by have:=IV (f:=λt:aj=>ab.wts t.body) (g:=aj.wt) (λt=>by unfold aj.wt;omega) p.threads;unfold bO.wt;unfold gC at *;omega
 have c1:=Ou p hw;have c2:=P7 p.decls W4;have c3:=Me p hw;refine te λQ hq=>Aw _ _ _ ?_
 unfold nU
 repeat' (first|refine st ?_|(refine pf 37 ?_;refine pm (c1) ?_)|(refine pf 38 ?_;refine pm (c2) ?_)|(refine pf 39 ?_;refine pm (c3) ?_)|refine sb λnb_ hnb_=>?_|refine s2 (λh=>?_) λh=>?_|fail)
 all_goals first|exact hq _ _ _|skip
 rename_i h4;have h4:p.threads.length≤4:=by simp at h4;omega
 refine FV p.threads.length (λi n=>[.pptr [p.enc] 0 0,.W9 n,.W9 i]) 0 W4 rfl (λi n h1 hd hi nx hn=>?_) (λi n h1 hd nx=>?_)
 all_goals unfold mj
 ·have hx:=az (f:=aj.enc) h1;have hwt:=p.thread_wt h1;have c4:=P6 _ p.threads[i].body (Vo _) (by have:ab.wts p.threads[i].body<p.threads[i].wt:=(by unfold aj.wt;omega);omega)
  repeat' (first|refine st ?_|(refine pf 40 ?_;refine pm (c4) ?_)|refine sb λnb_ hnb_=>?_|refine s2 (λh=>?_) λh=>?_|fail)
  exact hn _
 ·repeat' (first|refine st ?_|refine sb λnb_ hnb_=>?_|refine s2 (λh=>?_) λh=>?_|fail)
  ·exact hq _ _ _
  generalize nb_=bw at *;clear hd h1;refine cg p.threads.length (λi (s:na)=>([.pptr [p.enc] 0 0,.ptr bw 0 0,.W9 i],s.L p bw)) (λi s=>s.Ok (gC (λt:aj=>ab.wts t.body) (p.threads.take i))∧s.k=0) ⟨0,none,[],0,none,[],none,[]⟩ ⟨⟨λ_=>rfl,Vo _,V1 _,λ_=>rfl,λ_=>rfl,V1 _,V1 _⟩,rfl⟩ ?_ ?_
  ·exact aI.box (K:=[]) (R:=[]) (.refl _) (.cons (.refl _) (.cons (.refl _) (.cons (.refl _) (.cons .nile (.cons .nile (.cons .nile .nil))))))
  ·rintro i s hi ⟨hs1,hk1⟩;dsimp only;unfold mi;generalize hnx:(λ(vs':List AV) (L':SH)=>∃j o',i<j∧j≤p.threads.length∧(na.Ok o' (gC (λt:aj=>ab.wts t.body) (p.threads.take j))∧o'.k=0)∧aI vs' L' [.pptr [p.enc] 0 0,.ptr bw 0 0,.W9 (j:Int)] (na.L p bw o'))=nx;rcases Nat.lt_or_ge i p.threads.length with g1|g1
   ·have hd:=bF g1;have hi1:=aE g1 W4;have hx:=az (f:=aj.enc) g1;have hss:=J6 (f:=λt:aj=>ab.wts t.body) g1;have hst:=D6 (λt:aj=>ab.wts t.body) p.threads (i+1);have c5:=Sv p bw hw _ p.threads[i].body {s with t:=i} (gC (λt:aj=>ab.wts t.body) (p.threads.take i)) (Vo _) g1 ⟨hs1.a0,hs1.ak,hs1.k6,hs1.p0,hs1.e0,hs1.pm,hs1.em⟩ W4;rw[←hss]at c5;unfold na.L na.row at c5 ⊢
    repeat' (first|refine st ?_|((with_reducible refine aZ 41 ?_);(refine AW c5 ?_;rintro _ _ ⟨e3,ln3,s3,rfl,rfl,hs3,ht3,hk3⟩))|refine sb λnb_ hnb_=>?_|refine s2 (λh=>?_) λh=>?_|fail)
    ·exact hq _ _ _
    ·subst hnx;exact⟨i+1,s3,W4,W4,⟨hs3,by rw[hk3];exact hk1⟩,.refl _ _⟩
   ·have hd:=bM g1
    repeat' (first|refine st ?_|refine sb λnb_ hnb_=>?_|refine s2 (λh=>?_) λh=>?_|fail)
    exact hq _ _ _
end
section
set_option maxRecDepth 100000
def yk(Q:R)(c:SH)(b d:AV):Prop:=dP 1 b c λe=>wb .add 3 e (.W9 1) λf=>W.nilchk b λg=>W.faddr 1 g λh=>W.store 1 h f c λa=>(true=true)∧(W.nilchk b λi=>aO 0 i [] 3 a λj k=>W.nilchk b λl=>aO 1 l [rm 3 k] 7 a λm s=>wb .sub 3 m (.W9 1) λn=>di [] 9 1 j n a λo t=>dl [] 10 o a λp u=>W.conv .i64 p λq=>wb .rem 3 q d λr=>Q r a)
def mo(a c:AV)(L:SH)(Q:R):Prop:=(true=true)∧(W.nilchk a λf=>aO 1 f [] 3 L λg h=>W.nilchk a λi=>aO 0 i [rm 3 h] 7 L λj r=>W.len j λk=>wb .geq 3 g k λb=>W.dgrd b false (λl=>l c L rz) L λm d s=>W.dgrd b false (λn=>wb .lss 3 m (.W9 1) λo=>n o d rz) d λp e t=>W.pick b (.bool true) p λq=>wk q (Q (.W9 0) e) ((yk Q e a c)))
theorem yl(t0 t1:AV)(L:SH)(Q:R)(h:mo t0 t1 L Q):ai Tryz.prog 23 [t0,t1] L Q:=
 fs [] [] [] [(1,[0,1,3,7,0,16,48,112,240,511,1023,2047,4095,8191]),(4,[0,1,3,7,0,16,48,112,240,511,1023,2047,0,8191,16383])] Tryz.func23 h
def El(c:AV)(L:SH)(Q:R):Prop:=W.alloc [(.W9 0),(.W9 0),(.str []),.nils] L λa d=>W.build [(.W9 0),(.W9 0),(.str []),.nils] [(0,1,(.W9 1)),(1,1,c)] λe=>W.store 4 a e d λb=>W.load true 4 a b λf=>Q f b
theorem IY(t0:AV)(L:SH)(Q:R)(h:El t0 L Q):ai Tryz.prog 26 [t0] L Q:=
 fs [] [] [] [] Tryz.func26 h
def A5(c:AV)(L:SH)(Q:R):Prop:=W.alloc [(.W9 0),(.W9 0),(.str []),.nils] L λa d=>W.build [(.W9 0),(.W9 0),(.str []),.nils] [(0,1,(.W9 2)),(2,1,c)] λe=>W.store 4 a e d λb=>W.load true 4 a b λf=>Q f b
theorem G1(t0:AV)(L:SH)(Q:R)(h:A5 t0 L Q):ai Tryz.prog 73 [t0] L Q:=
 fs [] [] [] [] Tryz.func73 h
def sC(d e f:AV)(L:SH)(Q:R):Prop:=W.box e L λg h=>W.box f h λi j=>W.alloc [(.W9 0),(.W9 0),(.str []),.nils] j λb k=>W.frz1 g k λl m=>W.frz1 i m λn a=>ca 4 l a λo=>ca 4 n a λp=>W.bslice 4 [(.W9 0),(.W9 0),(.str []),.nils] 2 [(0,o),(1,p)] a λq r=>W.build [(.W9 0),(.W9 0),(.str []),.nils] [(0,1,d),(3,1,q)] λs=>W.store 4 b s r λc=>W.load true 4 b c λt=>Q t c
theorem Em(t0 t1 t2:AV)(L:SH)(Q:R)(h:sC t0 t1 t2 L Q):ai Tryz.prog 72 [t0,t1,t2] L Q:=
 fs [] [] [(0,[4,5])] [] Tryz.func72 h
def sD(d e:AV)(L:SH)(Q:R):Prop:=W.box e L λf g=>W.alloc [(.W9 0),(.W9 0),(.str []),(.str []),.nils,(.W9 0),(.W9 0),(.str []),.nils,.nils,.nils] g λa h=>W.frz1 f h λi b=>ca 4 i b λj=>W.build [(.W9 0),(.W9 0),(.str []),(.str []),.nils,(.W9 0),(.W9 0),(.str []),.nils,.nils,.nils] [(0,1,(.W9 1)),(2,1,d),(5,4,j)] λk=>W.store 11 a k b λc=>W.load true 11 a c λl=>Q l c
theorem En(t0 t1:AV)(L:SH)(Q:R)(h:sD t0 t1 L Q):ai Tryz.prog 25 [t0,t1] L Q:=
 fs [] [] [(0,[3])] [] Tryz.func25 h
def ym(L:SH)(Q:R):Prop:=W.build [(.W9 0),(.W9 0),(.str []),(.W9 0),(.W9 0),(.str [])] [(0,1,(.W9 1)),(2,1,(.str [120]))] λa=>W.build [(.W9 0),(.W9 0),(.str []),(.W9 0),(.W9 0),(.str [])] [(0,1,(.W9 1)),(2,1,(.str [121])),(4,1,(.W9 1))] λb=>W.build [(.W9 0),(.W9 0),(.str []),(.W9 0),(.W9 0),(.str [])] [(0,1,(.W9 2)),(2,1,(.str [118]))] λc=>W.build [(.W9 0),(.W9 0),(.str []),(.W9 0),(.W9 0),(.str [])] [(0,1,(.W9 1)),(2,1,(.str [113])),(3,1,(.W9 2))] λd=>W.build [(.W9 0),(.W9 0),(.str []),(.W9 0),(.W9 0),(.str [])] [(0,1,(.W9 3)),(2,1,(.str [109]))] λe=>W.build [(.W9 0),(.W9 0),(.str []),(.W9 0),(.W9 0),(.str [])] [(0,1,(.W9 3)),(2,1,(.str [110]))] λf=>W.build [(.W9 0),(.W9 0),(.str []),(.W9 0),(.W9 0),(.str [])] [(0,1,(.W9 4)),(2,1,(.str [114]))] λg=>W.build [(.W9 0),(.W9 0),(.str []),(.W9 0),(.W9 0),(.str [])] [(0,1,(.W9 5)),(2,1,(.str [99])),(5,1,(.str [109]))] λh=>W.build [(.W9 0),(.W9 0),(.str []),(.W9 0),(.W9 0),(.str [])] [(0,1,(.W9 6)),(2,1,(.str [102]))] λi=>W.bslice 6 [(.W9 0),(.W9 0),(.str []),(.W9 0),(.W9 0),(.str [])] 9 [(0,a),(1,b),(2,c),(3,d),(4,e),(5,f),(6,g),(7,h),(8,i)] L λj k=>Q j k
theorem Fg(L:SH)(Q:R)(h:ym L Q):ai Tryz.prog 22 [] L Q:=
 fs [] [] [] [] Tryz.func22 h
def jO(a b:AV)(L:SH)(Q:R):Prop:=dP 7 a L λc=>wc (.fn 64 []) [c,b] L λd e=>wb .geq 3 d (.W9 0) λf=>Q f e
theorem qU(t0 t1:AV)(L:SH)(Q:R)(h:jO t0 t1 L Q):ai Tryz.prog 74 [t0,t1] L Q:=
 fs [] [] [] [] Tryz.func74 h
def ur(Q:R)(a c:AV)(d:SH):Prop:=W.store 4 a c d λb=>W.load true 4 a b λe=>Q e b
def ut(Q:R)(a b:AV)(c:SH):Prop:=wc (.fn 26 []) [b] c (ur Q a)
def uu(Q:R)(a c:AV)(d:SH):Prop:=W.store 4 a c d λb=>W.load true 4 a b λe=>Q e b
def uv(Q:R)(b c d:AV)(a:SH):Prop:=wx 1 b d a λe=>wc (.fn 73 []) [e] a (uu Q c)
def uw(Q:R)(a c:AV)(d:SH):Prop:=W.bslice 4 [(.W9 0),(.W9 0),(.str []),.nils] 1 [(0,c)] d λe f=>W.build [(.W9 0),(.W9 0),(.str []),.nils] [(0,1,(.W9 3)),(2,1,(.str [113])),(3,1,e)] λg=>W.store 4 a g f λb=>W.load true 4 a b λh=>Q h b
def ux(Q:R)(c:SH)(a d:AV)(e:SH)(f:Ns):Prop:=wn [] f [] c.names λh=>ds [] 19 4 a d e λb i=>W.load true 4 a b λg=>Q g b
def uy(Q:R)(b:SH)(c d e f:AV)(a:SH)(g:Ns):Prop:=wn [] g [] b.names λh=>wd [] 18 (.fn 72 []) [c,d,f] a (ux Q a e)
def uz(Q:R)(b:SH)(c d e f:AV)(g h:Fp)(i:AV)(a:SH)(j:Ns):Prop:=wn [] j [] b.names λl=>wb .sub 3 c (.W9 1) λk=>wd [rm 9 g,rm 8 h] 17 (.fn 71 []) [d,k] a (uy Q a e i f)
def uA(Q:R)(f:SH)(b c g h i:AV)(a:SH)(j:Ns):Prop:=wn [] j [] f.names λn=>di [] 8 1 g i a λk d=>dl [] 9 k a λl e=>wb .sub 3 b (.W9 1) λm=>wd [rm 9 e,rm 8 d] 13 (.fn 71 []) [c,m] a (uz Q a b c l h e d)
def uB(Q:R)(d:SH)(b e f:AV):Prop:=W.bslice 1 [(.W9 0)] 6 [(0,(.W9 6)),(1,(.W9 7)),(2,(.W9 8)),(3,(.W9 11)),(4,(.W9 13)),(5,(.W9 17))] d λc a=>(true=true)∧(W.nilchk b λg=>aO 0 g [] 4 a λh j=>W.len c λi=>wd [] 7 (.fn 23 []) [h,i] a (uA Q a e b c f))
def uC(Q:R)(a:SH)(b f d e c:AV):Prop:=wb .lss 3 d (.W9 7) λg=>wk g (dP 0 b a λh=>W.len e λi=>wc (.fn 23 []) [h,i] a (uv Q e c)) (wb .eql 3 d (.W9 7) λj=>wk j (wc (.fn 71 []) [b,(.W9 0)] a (uw Q c)) ((uB Q a b f c)))
def uD(Q:R)(e f g h b:AV)(i:SH):Prop:=wb .lss 3 b (.W9 2) λa=>bH a false e i λj k=>wg a false (wb .eql 3 j (.W9 0)) k λl m=>bH a false l m λc n=>bH c true b n λo p=>wg c true (wb .geq 3 o (.W9 7)) p λq r=>wg a false (W.pick c q (.bool false)) r λs d=>W.pick a (.bool true) s λt=>wk t (dP 0 f d λu=>wc (.fn 23 []) [u,(.W9 4)] d (ut Q g)) ((uC Q d f e b h g))
def gk(a c:AV)(L:SH)(Q:R):Prop:=W.alloc [(.W9 0),(.W9 0),(.str []),.nils] L λd e=>W.bslice 1 [(.str [])] 7 [(0,(.str [97])),(1,(.str [98])),(2,(.str [120])),(3,(.str [121])),(4,(.str [118])),(5,(.str [120])),(6,(.str [121]))] e λf b=>dP 0 a b λg=>wc (.fn 23 []) [g,(.W9 10)] b (uD Q c a d f)
theorem jP(t0 t1:AV)(L:SH)(Q:R)(h:gk t0 t1 L Q):ai Tryz.prog 71 [t0,t1] L Q:=
 fs [] [] [] [(10,[0,0,2,6,14,0,32,126,255,511,0,0,2048,7422,0,0,32768,130302,262143,524287])] Tryz.func71 h
def iL(Q:R)(b d:AV)(a:SH):Prop:=(true=true)∧(W.nilchk b λe=>aO 7 e [] 4 a λc f=>W.nilchk b λg=>aO 7 g [rm 4 f] 8 a λh o=>W.len h λi=>wb .sub 3 i (.W9 1) λj=>W.calm [] ⟨11,(dT c),[],[],false,[]⟩ (W.slice 1 c none (some j) none a λk=>wn (dT c) [] [] [] λp=>W.nilchk b λl=>W.faddr 7 l λm=>ds [] 14 1 m k a λn q=>Q d n))
def qV(Q:R)(a b c:AV)(d:SH):Prop:=wb .add 3 (.W9 1) c λe=>wc (.fn 24 []) [a,b,e] d (iL Q a)
def jQ(a c d:AV)(L:SH)(Q:R):Prop:=dP 7 a L λe=>W.bslice 1 [(.str [])] 1 [(0,c)] L λf g=>W.append 1 16 e f g λh i=>W.nilchk a λj=>W.faddr 7 j λk=>W.store 1 k h i λb=>dP 0 a b λl=>wc (.fn 23 []) [l,(.W9 2)] b (qV Q a d)
theorem qW(t0 t1 t2:AV)(L:SH)(Q:R)(h:jQ t0 t1 t2 L Q):ai Tryz.prog 75 [t0,t1,t2] L Q:=
 fs [] [] [] [(3,[0,0,2,6,14,0,32,96,224,480,992,2046,4095,8191,16383])] Tryz.func75 h
def qX(a:Kn)(b c d e f g:AV)(h:SH):Prop:=W.bslice 11 [(.W9 0),(.W9 0),(.str []),(.str []),.nils,(.W9 0),(.W9 0),(.str []),.nils,.nils,.nils] 1 [(0,g)] h λi j=>W.append 11 176 b i j λk l=>wb .add 3 c (.W9 1) λm=>a [d,e,f,k,m] l
def iM(Q:R)(j:Vs)(k:SH)(l:Kn):Prop:=He 0 1 2 7 8 j λc e f g d=>wb .lss 3 d f λb=>bH b true d k λm n=>wg b true (wb .eql 3 m (.W9 0)) n λo p=>bH b true o p λa q=>bH a false c q λr s=>wg a false (W.nilchk r) s λt u=>wg a false (W.faddr 2 t) u λv h=>wg a false (wl v h) h λw x=>wg a false (wb .gtr 3 w (.W9 0)) x λy z=>wg b true (W.pick a (.bool true) y) z λA i=>W.pick b A (.bool false) λB=>wk B (wc (.fn 45 []) [c,e] i (qX l g d c e f)) (Q g i)
def jR(a b c:AV)(L:SH)(Q:R):Prop:=W.loop (iM Q) [a,b,c,.nils,(.W9 0)] L
theorem qY(t0 t1 t2:AV)(L:SH)(Q:R)(h:jR t0 t1 t2 L Q):ai Tryz.prog 24 [t0,t1,t2] L Q:=
 fs [] [(3,[0,1,2,7,8])] [] [] Tryz.func24 h
def uE(Q:R)(c:SH)(a d:AV)(e:SH)(f:Ns):Prop:=wn [] f [] c.names λh=>ds [] 7 11 a d e λb i=>W.load true 11 a b λg=>Q g b
def uF(Q:R)(b:SH)(c d e:AV)(a:SH)(f:Ns):Prop:=wn [] f [] b.names λg=>wd [] 6 (.fn 25 []) [c,e] a (uE Q a d)
def jS(Q:R)(c:SH)(d e f:AV):Prop:=(true=true)∧(W.calm [] ⟨0,[],[],[],false,[]⟩ (W.bslice 1 [(.str [])] 4 [(0,(.str [120])),(1,(.str [121])),(2,(.str [120])),(3,(.str [118]))] c λb a=>wn [] [] (aa b) [] λg=>di [] 2 1 b e a λh i=>dl [] 3 h a λj k=>wd [rm 3 k,rm 2 i,rm 0 g] 5 (.fn 71 []) [d,(.W9 1)] a (uF Q a j f)))
def uG(Q:R)(c:SH)(a d:AV)(e:SH)(f:Ns):Prop:=wn [] f [] c.names λh=>ds [] 11 11 a d e λb i=>W.load true 11 a b λg=>Q g b
def uH(Q:R)(b:SH)(c d e:AV)(a:SH)(f:Ns):Prop:=wn [] f [] b.names λg=>wd [] 10 (.fn 25 []) [c,e] a (uG Q a d)
def uI(Q:R)(b:SH)(c d e:AV)(f:Fp)(g:AV)(a:SH)(h:Ns):Prop:=wn [] h [] b.names λm=>di [] 6 1 d g a λi j=>dl [] 7 i a λk l=>wd [rm 7 l,rm 6 j,rm 0 f] 9 (.fn 71 []) [c,(.W9 1)] a (uH Q a k e)
def jT(Q:R)(e:SH)(c f:AV):Prop:=(true=true)∧(W.calm [] ⟨0,[],[],[],false,[]⟩ (W.bslice 1 [(.str [])] 2 [(0,(.str [97])),(1,(.str [98]))] e λd a=>wn [] [] (aa d) [] λb=>W.nilchk c λg=>aO 0 g [rm 0 b] 4 a λh i=>wd [rm 0 b] 5 (.fn 23 []) [h,(.W9 2)] a (uI Q a c d f b)))
def uJ(Q:R)(c a d:AV)(e:SH):Prop:=W.build [(.W9 0),(.W9 0),(.str []),(.str []),.nils,(.W9 0),(.W9 0),(.str []),.nils,.nils,.nils] [(0,1,(.W9 1)),(2,1,(.str [113])),(4,1,c),(5,4,d)] λf=>W.store 11 a f e λb=>W.load true 11 a b λg=>Q g b
def uK(Q:R)(a b c:AV)(d:SH):Prop:=W.bslice 4 [(.W9 0),(.W9 0),(.str []),.nils] 1 [(0,c)] d λe f=>wc (.fn 71 []) [a,(.W9 1)] f (uJ Q e b)
def uL(Q:R)(a b e:AV)(f:SH):Prop:=W.faddr 10 a λg=>W.store 1 g e f λc=>ca 11 a c λh=>W.store 11 b h c λd=>W.load true 11 b d λi=>Q i d
def uM(Q:R)(e f c a g:AV)(b:SH):Prop:=wb .eql 3 g (.W9 1) λh=>wk h (wb .sub 3 e (.W9 1) λi=>wc (.fn 24 []) [f,i,(.W9 1)] b (uL Q c a)) (ca 11 c b λj=>W.store 11 a j b λd=>W.load true 11 a d λk=>Q k d)
def uN(Q:R)(a d e f g:AV)(h:SH):Prop:=W.build [(.W9 0),(.W9 0),(.str []),(.str []),.nils,(.W9 0),(.W9 0),(.str []),.nils,.nils,.nils] [(0,1,(.W9 2)),(5,4,e),(9,1,g)] λi=>W.alloc [(.W9 0),(.W9 0),(.str []),(.str []),.nils,(.W9 0),(.W9 0),(.str []),.nils,.nils,.nils] h λb j=>W.store 11 b i j λc=>dP 0 a c λk=>wc (.fn 23 []) [k,(.W9 2)] c (uM Q d a b f)
def qZ(Q:R)(a b c d:AV)(e:SH):Prop:=wb .sub 3 a (.W9 1) λf=>wc (.fn 24 []) [b,f,(.W9 1)] e (uN Q b a d c)
def q6(Q:R)(d e f g a h:AV)(i:SH):Prop:=W.bslice 11 [(.W9 0),(.W9 0),(.str []),(.str []),.nils,(.W9 0),(.W9 0),(.str []),.nils,.nils,.nils] 1 [(0,h)] i λj k=>W.append 11 176 e j k λl m=>W.build [(.W9 0),(.W9 0),(.str []),(.str []),.nils,(.W9 0),(.W9 0),(.str []),.nils,.nils,.nils] [(0,1,(.W9 3)),(5,4,f),(9,1,l)] λn=>qn [(.W9 0),(.W9 0),(.str []),(.str []),.nils,(.W9 0),(.W9 0),(.str []),.nils,.nils,.nils] 11 n m λo p=>W.nilchk d λq=>W.faddr 6 q λr=>W.store 1 r g p λb=>ca 11 o b λs=>W.store 11 a s b λc=>W.load true 11 a c λt=>Q t c
def q7(Q:R)(a b c d e f:AV)(g:SH):Prop:=wc (.fn 25 []) [(.str [98]),f] g (q6 Q a b c d e)
def q8(Q:R)(a b c d e f g:AV)(h:SH):Prop:=wc (.fn 72 []) [(.W9 6),b,g] h (q7 Q a c d e f)
def q9(Q:R)(a b c d e f:AV)(g:SH):Prop:=wc (.fn 26 []) [(.W9 1)] g (q8 Q a f b c d e)
def re(Q:R)(a b c d e:AV)(f:SH):Prop:=wc (.fn 73 []) [(.str [98])] f (q9 Q a e b c d)
def rh(Q:R)(b a c d e:AV)(f:SH):Prop:=wb .sub 3 b (.W9 1) λg=>wc (.fn 24 []) [a,g,(.W9 1)] f (re Q a e c d)
def ri(Q:R)(a b c d e f:AV)(g:SH):Prop:=wc (.fn 72 []) [(.W9 13),c,f] g (rh Q a b d e)
def rj(Q:R)(a b c d e:AV)(f:SH):Prop:=wc (.fn 26 []) [(.W9 2)] f (ri Q a b e c d)
def uO(Q:R)(b:SH)(a c d:AV):Prop:=dP 6 a b λe=>W.nilchk a λf=>W.faddr 6 f λg=>W.store 1 g (.bool true) b λh=>wc (.fn 73 []) [(.str [98])] h (rj Q c a e d)
def rk(Q:R)(c a d:AV)(e:SH):Prop:=W.build [(.W9 0),(.W9 0),(.str []),(.str []),.nils,(.W9 0),(.W9 0),(.str []),.nils,.nils,.nils] [(0,1,(.W9 4)),(2,1,c),(9,1,d)] λf=>W.store 11 a f e λb=>W.load true 11 a b λg=>Q g b
def uP(Q:R)(c:SH)(d e f g:AV):Prop:=W.bslice 1 [(.str [])] 2 [(0,(.str [109])),(1,(.str [110]))] c λh a=>wb .sub 3 f (.W9 8) λi=>wx 1 h i a λb=>wb .sub 3 d (.W9 1) λj=>wc (.fn 75 []) [e,b,j] a (rk Q b g)
def rl(Q:R)(c a d:AV)(e:SH):Prop:=W.build [(.W9 0),(.W9 0),(.str []),(.str []),.nils,(.W9 0),(.W9 0),(.str []),.nils,.nils,.nils] [(0,1,c),(2,1,(.str [114])),(9,1,d)] λf=>W.store 11 a f e λb=>W.load true 11 a b λg=>Q g b
def uQ(Q:R)(a:SH)(b c d e:AV):Prop:=wb .sub 3 d (.W9 10) λf=>wb .add 3 f (.W9 5) λg=>wb .sub 3 b (.W9 1) λh=>wc (.fn 75 []) [c,(.str [114]),h] a (rl Q g e)
def rn(Q:R)(d a e:AV)(f:SH):Prop:=W.build [(.W9 0),(.W9 0),(.str []),(.str []),.nils,(.W9 0),(.W9 0),(.str []),.nils,.nils,.nils] [(0,1,(.W9 7)),(9,1,e)] λg=>qn [(.W9 0),(.W9 0),(.str []),(.str []),.nils,(.W9 0),(.W9 0),(.str []),.nils,.nils,.nils] 11 g f λh i=>W.nilchk d λj=>W.faddr 4 j λk=>W.store 1 k (.bool false) i λb=>ca 11 h b λl=>W.store 11 a l b λc=>W.load true 11 a c λm=>Q m c
def rq(Q:R)(a b c:AV)(d:SH):Prop:=wb .add 3 (.W9 1) c λe=>wc (.fn 24 []) [a,(.W9 0),e] d (rn Q a b)
def uR(Q:R)(c:SH)(a d:AV):Prop:=W.nilchk a λe=>W.faddr 4 e λf=>W.store 1 f (.bool true) c λb=>dP 0 a b λg=>wc (.fn 23 []) [g,(.W9 2)] b (rq Q a d)
def rr(Q:R)(d a e:AV)(f:SH):Prop:=W.build [(.W9 0),(.W9 0),(.str []),(.str []),.nils,(.W9 0),(.W9 0),(.str []),.nils,.nils,.nils] [(0,1,(.W9 8)),(9,1,e)] λg=>qn [(.W9 0),(.W9 0),(.str []),(.str []),.nils,(.W9 0),(.W9 0),(.str []),.nils,.nils,.nils] 11 g f λh i=>W.nilchk d λj=>W.faddr 5 j λk=>W.store 1 k (.bool false) i λb=>ca 11 h b λl=>W.store 11 a l b λc=>W.load true 11 a c λm=>Q m c
def uS(Q:R)(b:SH)(a c d:AV):Prop:=W.nilchk a λe=>W.faddr 5 e λf=>W.store 1 f (.bool true) b λg=>wb .sub 3 c (.W9 1) λh=>wc (.fn 24 []) [a,h,(.W9 2)] g (rr Q a d)
def rt(Q:R)(c a d:AV)(e:SH):Prop:=W.bslice 11 [(.W9 0),(.W9 0),(.str []),(.str []),.nils,(.W9 0),(.W9 0),(.str []),.nils,.nils,.nils] 2 [(0,c),(1,d)] e λf g=>W.build [(.W9 0),(.W9 0),(.str []),(.str []),.nils,(.W9 0),(.W9 0),(.str []),.nils,.nils,.nils] [(0,1,(.W9 4)),(2,1,(.str [109])),(9,1,f)] λh=>W.store 11 a h g λb=>W.load true 11 a b λi=>Q i b
def ru(Q:R)(a b c:AV)(d:SH):Prop:=wc (.fn 25 []) [(.str [97]),c] d (rt Q a b)
def uT(Q:R)(a:SH)(b:AV):Prop:=W.build [(.W9 0),(.W9 0),(.str []),(.str []),.nils,(.W9 0),(.W9 0),(.str []),.nils,.nils,.nils] [(0,1,(.W9 9)),(2,1,(.str [99]))] λc=>wc (.fn 73 []) [(.str [120])] a (ru Q c b)
def rv(Q:R)(a c:AV)(d:SH):Prop:=wb .add 3 (.W9 10) c λe=>W.build [(.W9 0),(.W9 0),(.str []),(.str []),.nils,(.W9 0),(.W9 0),(.str []),.nils,.nils,.nils] [(0,1,e),(2,1,(.str [99]))] λf=>W.bslice 11 [(.W9 0),(.W9 0),(.str []),(.str []),.nils,(.W9 0),(.W9 0),(.str []),.nils,.nils,.nils] 1 [(0,f)] d λg h=>W.build [(.W9 0),(.W9 0),(.str []),(.str []),.nils,(.W9 0),(.W9 0),(.str []),.nils,.nils,.nils] [(0,1,(.W9 4)),(2,1,(.str [109])),(9,1,g)] λi=>W.store 11 a i h λb=>W.load true 11 a b λj=>Q j b
def rx(Q:R)(a c:AV)(d:SH):Prop:=W.build [(.W9 0),(.W9 0),(.str []),(.str []),.nils,(.W9 0),(.W9 0),(.str []),.nils,.nils,.nils] [(0,1,(.W9 14)),(2,1,(.str [102])),(5,4,c)] λe=>W.store 11 a e d λb=>W.load true 11 a b λf=>Q f b
def uU(Q:R)(b:SH)(a c:AV):Prop:=W.nilchk a λd=>W.faddr 3 d λe=>W.store 1 e (.bool true) b λf=>wc (.fn 71 []) [a,(.W9 1)] f (rx Q c)
def uV(Q:R)(c:SH)(a:AV):Prop:=W.build [(.W9 0),(.W9 0),(.str []),(.str []),.nils,(.W9 0),(.W9 0),(.str []),.nils,.nils,.nils] [(0,1,(.W9 15)),(2,1,(.str [97])),(3,1,(.str [102]))] λd=>W.store 11 a d c λb=>W.load true 11 a b λe=>Q e b
def ry(Q:R)(a c:AV)(d:SH):Prop:=W.store 11 a c d λb=>W.load true 11 a b λe=>Q e b
def rB(Q:R)(a b:AV)(c:SH):Prop:=wc (.fn 25 []) [(.str [120]),b] c (ry Q a)
def rC(Q:R)(i:SH)(c j d:AV):Prop:=wb .eql 3 j (.W9 17) λb=>bH b true c i λk l=>wg b true (W.nilchk k) l λm n=>wg b true (W.faddr 4 m) n λo e=>wg b true (wl o e) e λp q=>wg b true (W.un .not p) q λr s=>W.pick b r (.bool false) λa=>bH a true c s λt u=>wg a true (W.nilchk t) u λv w=>wg a true (W.faddr 0 v) w λx f=>wg a true (wl x f) f λy g=>W.grd a true (λz=>wc (.fn 23 []) [y,(.W9 2)] g λA B=>z A B) g λC D=>wg a true (wb .eql 3 C (.W9 1)) D λE h=>W.pick a E (.bool false) λF=>wk F ((uV Q h d)) (wc (.fn 71 []) [c,(.W9 1)] h (rB Q d))
def rD(Q:R)(k:SH)(d e f:AV):Prop:=wb .eql 3 e (.W9 16) λa=>bH a true d k λl m=>wg a true (W.nilchk l) m λn o=>wg a true (W.faddr 4 n) o λp g=>wg a true (wl p g) g λq r=>wg a true (W.un .not q) r λs t=>W.pick a s (.bool false) λb=>bH b true d t λu v=>wg b true (W.nilchk u) v λw x=>wg b true (W.faddr 6 w) x λy h=>wg b true (wl y h) h λz A=>wg b true (W.un .not z) A λB C=>W.pick b B (.bool false) λc=>bH c true d C λD E=>wg c true (W.nilchk D) E λF G=>wg c true (W.faddr 3 F) G λH i=>wg c true (wl H i) i λI J=>wg c true (W.un .not I) J λM j=>W.pick c M (.bool false) λN=>wk N ((uU Q j d f)) ((rC Q j d e f))
def rE(Q:R)(h:SH)(b d i e:AV):Prop:=wb .eql 3 d (.W9 15) λf=>bH f true i h λj k=>W.pick f j (.bool false) λa=>bH a true b k λl g=>W.grd a true (λm=>wc (.fn 74 []) [l,(.str [109])] g λn o=>m n o) g λp q=>wg a true (W.un .not p) q λr c=>W.pick a r (.bool false) λs=>wk s (dP 0 b c λt=>wc (.fn 23 []) [t,(.W9 2)] c (rv Q e)) ((rD Q c b d e))
def rF(Q:R)(k:SH)(c d e f:AV):Prop:=wb .eql 3 d (.W9 14) λg=>bH g true e k λl m=>W.pick g l (.bool false) λa=>bH a true c m λn o=>wg a true (W.nilchk n) o λp q=>wg a true (W.faddr 5 p) q λr h=>wg a true (wl r h) h λs t=>wg a true (W.un .not s) t λu v=>W.pick a u (.bool false) λb=>bH b true c v λw i=>W.grd b true (λx=>wc (.fn 74 []) [w,(.str [109])] i λy z=>x y z) i λA B=>wg b true (W.un .not A) B λC j=>W.pick b C (.bool false) λD=>wk D ((uT Q j f)) ((rE Q j c d e f))
def rG(Q:R)(i:SH)(b j c d e:AV):Prop:=wb .eql 3 c (.W9 13) λf=>bH f true d i λk l=>W.pick f k (.bool false) λa=>bH a true b l λm n=>wg a true (W.nilchk m) n λo p=>wg a true (W.faddr 5 o) p λq g=>wg a true (wl q g) g λr s=>wg a true (W.un .not r) s λt h=>W.pick a t (.bool false) λu=>wk u ((uS Q h b j e)) ((rF Q h b c d e))
def rH(Q:R)(g:SH)(a h b c d:AV):Prop:=wb .eql 3 b (.W9 12) λe=>bH e true c g λi f=>W.pick e i (.bool false) λj=>wk j ((uR Q f a d)) ((rG Q f a h b c d))
def rI(Q:R)(k:SH)(c e a f g:AV):Prop:=wb .eql 3 a (.W9 10) λd=>bH d false a k λl m=>wg d false (wb .eql 3 l (.W9 11)) m λn o=>W.pick d (.bool true) n λh=>bH h true f o λp q=>W.pick h p (.bool false) λb=>bH b true c q λr i=>W.grd b true (λs=>wc (.fn 74 []) [r,(.str [114])] i λt u=>s t u) i λv w=>wg b true (W.un .not v) w λx j=>W.pick b x (.bool false) λy=>wk y ((uQ Q j e c a g)) ((rH Q j c e a f g))
def rJ(Q:R)(n:SH)(c e b f g:AV):Prop:=wb .eql 3 b (.W9 8) λd=>bH d false b n λo p=>wg d false (wb .eql 3 o (.W9 9)) p λq r=>W.pick d (.bool true) q λh=>bH h true f r λs t=>W.pick h s (.bool false) λa=>bH a true c t λu i=>W.grd a true (λv=>W.bslice 1 [(.str [])] 2 [(0,(.str [109])),(1,(.str [110]))] i λw x=>v w x) i λy z=>bH a true b z λA B=>wg a true (wb .sub 3 A (.W9 8)) B λC j=>wg a true (W.idx 1 y C j) j λD k=>wg a true (wl D k) k λE l=>W.grd a true (λF=>wc (.fn 74 []) [u,E] l λG H=>F G H) l λI J=>wg a true (W.un .not I) J λM m=>W.pick a M (.bool false) λN=>wk N ((uP Q m e c b g)) ((rI Q m c e b f g))
def rK(Q:R)(g:SH)(a c d e h:AV):Prop:=wb .eql 3 d (.W9 7) λb=>bH b true a g λi j=>wg b true (wb .gtr 3 i (.W9 0)) j λk f=>W.pick b k (.bool false) λl=>wk l ((uO Q f c a e)) ((rJ Q f c a d h e))
def rL(Q:R)(g:SH)(a b d e h:AV):Prop:=wb .eql 3 d (.W9 6) λc=>bH c true a g λi j=>wg c true (wb .gtr 3 i (.W9 0)) j λk f=>W.pick c k (.bool false) λl=>wk l (wc (.fn 71 []) [b,(.W9 1)] f (qZ Q a b e)) ((rK Q f a b d e h))
def iN(Q:R)(b:SH)(a e c d f:AV):Prop:=wb .eql 3 c (.W9 5) λg=>wk g (wc (.fn 71 []) [a,(.W9 0)] b (uK Q a d)) ((rL Q b e a c d f))
def rM(Q:R)(g c e d:AV)(j:SH):Prop:=wb .gtr 3 g (.W9 0) λa=>bH a true c j λk l=>wg a true (W.nilchk k) l λm n=>wg a true (W.faddr 2 m) n λo h=>wg a true (wl o h) h λp q=>wg a true (wb .gtr 3 p (.W9 0)) q λr s=>W.pick a r (.bool false) λb=>bH b true c s λt u=>wg b true (W.nilchk t) u λv w=>wg b true (W.faddr 4 v) w λx i=>wg b true (wl x i) i λy z=>wg b true (W.un .not y) z λA f=>W.pick b A (.bool false) λB=>wb .lss 3 d (.W9 4) λC=>wk C ((jS Q f c d e)) (wb .eql 3 d (.W9 4) λD=>wk D ((jT Q f c e)) ((iN Q f c g d e B)))
def gl(a d:AV)(L:SH)(Q:R):Prop:=W.alloc [(.W9 0),(.W9 0),(.str []),(.str []),.nils,(.W9 0),(.W9 0),(.str []),.nils,.nils,.nils] L λe b=>dP 2 a b λf=>wb .sub 3 f (.W9 1) λg=>W.nilchk a λh=>W.faddr 2 h λi=>W.store 1 i g b λc=>dP 0 a c λj=>wc (.fn 23 []) [j,(.W9 18)] c (rM Q d a e)
theorem jU(t0 t1:AV)(L:SH)(Q:R)(h:gl t0 t1 L Q):ai Tryz.prog 45 [t0,t1] L Q:=
 fs [] [] [(18,[9]),(28,[11]),(33,[12])] [(5,[0,0,3,7,0,16,63,127]),(7,[0,0,2,6,14,30,63,127,0,318,1023,2047])] Tryz.func45 h
def Cc(c:Kn)(d:Vs)(a:SH):Prop:=Mw 2 3 4 5 6 7 8 d λe f b g h i j=>aC 1 b a λk=>ca 4 j a λl=>W.bslice 4 [(.str []),(.W9 0),.nils,.nils] 1 [(0,l)] a λm n=>W.append 4 72 k m n λo p=>W.faddr 1 b λq=>W.store 1 q o p λr=>wb .add 3 i (.W9 1) λs=>c [e,f,b,g,h,s] r
def Cd(h:Kn)(b:SH)(d f i j k l m:AV):Prop:=(true=true)∧(aO 3 d [] 1 b λa e=>di [rm 1 e] 3 1 f (.W9 1) b λn u=>dl [rm 1 e] 4 n b λo v=>W.build [(.W9 0),(.W9 0),(.str []),(.str []),.nils,(.W9 0),(.W9 0),(.str []),.nils,.nils,.nils] [(0,1,(.W9 13)),(2,1,o)] λp=>W.calm [rm 1 e] ⟨6,[],[],[],false,[]⟩ (W.bslice 11 [(.W9 0),(.W9 0),(.str []),(.str []),.nils,(.W9 0),(.W9 0),(.str []),.nils,.nils,.nils] 1 [(0,p)] b λc q=>wn [] [] (aa c) [] λw=>W.calm [] ⟨7,(aa a++aa c),(aa a),[],false,[]⟩ (W.append 11 176 a c q λg r=>wn (aa a++aa c) (aa a) (aa g) [] λx=>W.faddr 3 d λs=>ds [] 9 1 s g r λt y=>h [i,j,k,l,f,m,d] t)))
def Ce(p:Kn)(q:SH)(b c d e g h i j f:AV)(r:SH)(s:Ns):Prop:=wn [] s [] q.names λJ=>W.calm [] ⟨10,(aa b++aa f),(aa b),[],false,[]⟩ (W.append 11 176 b f r λk t=>wn (aa b++aa f) (aa b) (aa k) [] λM=>W.faddr 3 c λu=>ds [] 12 1 u k t λv N=>W.join (Cc p) λl=>wb .eql 3 d (.W9 0) λa=>bH a true e v λw x=>wg a true (W.nilchk w) x λy z=>wg a true (W.faddr 0 y) z λA m=>wg a true (wl A m) m λB n=>W.grd a true (λC=>wc (.fn 23 []) [B,(.W9 3)] n λD E=>C D E) n λF G=>wg a true (wb .eql 3 F (.W9 2)) G λH o=>W.pick a H (.bool false) λI=>wk I ((Cd l o c g h e i j d)) (l [h,e,i,j,g,d,c] o))
def Cf(c:Kn)(d:SH)(a e f g h i j k:AV)(l:Fp)(m:AV)(b:SH)(n:Ns):Prop:=wn [] n [] d.names λp=>wb .add 3 (.W9 1) m λo=>wd [rm 1 l] 9 (.fn 24 []) [a,(.W9 2),o] b (Ce c b e f g a h i j k)
def bZ(e:Kn)(f:Vs)(a:SH):Prop:=Mw 2 3 4 5 6 7 8 f λg c h i j k d=>(true=true)∧(aO 3 d [] 1 a λl b=>W.nilchk c λm=>aO 0 m [rm 1 b] 6 a λn o=>wd [rm 1 b] 7 (.fn 23 []) [n,(.W9 3)] a (Cf e a c l d k j g h i b))
def Cg(i:Kn)(b:SH)(d f g j k l m n:AV):Prop:=(true=true)∧(aO 3 d [] 1 b λa e=>di [rm 1 e] 4 1 f g b λo w=>dl [rm 1 e] 5 o b λp x=>W.build [(.W9 0),(.W9 0),(.str []),(.str []),.nils,(.W9 0),(.W9 0),(.str []),.nils,.nils,.nils] [(0,1,(.W9 12)),(2,1,p)] λq=>W.calm [rm 1 e] ⟨7,[],[],[],false,[]⟩ (W.bslice 11 [(.W9 0),(.W9 0),(.str []),(.str []),.nils,(.W9 0),(.W9 0),(.str []),.nils,.nils,.nils] 1 [(0,q)] b λc r=>wn [] [] (aa c) [] λy=>W.calm [] ⟨8,(aa a++aa c),(aa a),[],false,[]⟩ (W.append 11 176 a c r λh s=>wn (aa a++aa c) (aa a) (aa h) [] λz=>W.faddr 3 d λt=>ds [] 10 1 t h s λu A=>wb .add 3 g (.W9 1) λv=>i [j,k,l,m,f,n,d,v] u)))
def iz(j:Kn)(k:Vs)(b:SH)(l:Kn):Prop:=RB 2 3 4 5 6 7 8 9 k λc d e a f g h i=>wb .lss 3 i a λm=>wk m ((Cg l b h f i c d e a g)) (j [c,d,e,a,f,g,h] b)
def Ch(k:Kn)(l:SH)(b a c e f g:AV):Prop:=W.nilchk b λm=>W.faddr 1 m λn=>W.store 1 n a l λh=>wx 1 c a h λo=>W.bslice 1 [(.str [])] 2 [(0,(.str [97])),(1,(.str [98]))] h λp q=>W.build [(.str []),(.W9 0),.nils,.nils] [(0,1,o),(2,1,p)] λr=>W.alloc [(.str []),(.W9 0),.nils,.nils] q λd s=>W.store 4 d r s λi=>W.join (bZ k) λj=>wb .eql 3 a (.W9 0) λt=>wk t (W.loop (iz j) [e,b,f,g,c,a,d,(.W9 1)] i) (j [e,b,f,g,c,a,d] i)
def Ci(Q:R)(c d a e:AV)(f:SH):Prop:=W.bslice 11 [(.W9 0),(.W9 0),(.str []),(.str []),.nils,(.W9 0),(.W9 0),(.str []),.nils,.nils,.nils] 1 [(0,e)] f λg h=>W.build [(.str []),(.W9 0),.nils,.nils] [(0,1,(.str [109,97,105,110])),(2,1,c),(3,1,g)] λi=>W.bslice 4 [(.str []),(.W9 0),.nils,.nils] 1 [(0,i)] h λj k=>W.build [.nils,.nils] [(0,1,d),(1,1,j)] λl=>W.store 2 a l k λb=>W.load true 2 a b λm=>Q m b
def Cj(Q:R)(a b c d:AV)(e:SH):Prop:=wc (.fn 25 []) [(.str [120]),d] e (Ci Q a b c)
def Ck(Q:R)(a b:AV)(c:SH):Prop:=W.bslice 1 [(.str [])] 2 [(0,(.str [97])),(1,(.str [98]))] c λd e=>wc (.fn 26 []) [(.W9 1)] e (Cj Q d b a)
def Cl(Q:R)(a e c:AV)(b:SH):Prop:=W.ext 0 c λf=>W.ext 1 c λj=>wb .neq 59 f (.W9 0) λg=>wk g (wc (.fn 22 []) [] b (Ck Q a)) (ca 2 e b λh=>W.store 2 a h b λd=>W.load true 2 a d λi=>Q i d)
def fw(Q:R)(f:Vs)(a:SH)(g:Kn):Prop:=Hf 2 3 4 5 6 7 f λc h b d i e=>wb .lss 3 e d λj=>wk j ((Ch g a h e i c b d)) (ca 2 b a λk=>wc (.fn 17 []) [k] a (Cl Q c b))
def Ax(Q:R)(a b c d:AV)(e:SH):Prop:=wb .add 3 (.W9 2) d λf=>W.bslice 1 [(.str [])] 4 [(0,(.str [109,97,105,110])),(1,(.str [116,49])),(2,(.str [116,50])),(3,(.str [116,51]))] e λg h=>W.loop (fw Q) [a,b,c,f,g,(.W9 0)] h
def Ay(Q:R)(a d e:AV)(f:SH):Prop:=W.build [.nils,.nils] [(0,1,e)] λg=>W.alloc [.nils,.nils] f λb h=>W.store 2 b g h λc=>dP 0 a c λi=>wc (.fn 23 []) [i,(.W9 3)] c (Ax Q d a b)
def qe(a:AV)(L:SH)(Q:R):Prop:=W.alloc [.nils,.nils] L λb c=>W.build [.nils,(.W9 0)] [(0,1,a)] λd=>W.box d c λe f=>W.build [.nilp,(.W9 0),(.W9 0),(.bool false),(.bool false),(.bool false),(.bool false),.nils] [(0,1,e),(2,1,(.W9 20))] λg=>W.box g f λh i=>wc (.fn 22 []) [] i (Ay Q h b)
theorem Cm(t0:AV)(L:SH)(Q:R)(h:qe t0 L Q):ai Tryz.prog 12 [t0] L Q:=
 fs [(13,[2,3,4,5,6,7,8]),(17,[2,3,4,5,6,7,8])] [(12,[2,3,4,5,6,7,8,9]),(6,[2,3,4,5,6,7])] [] [(14,[0,1,0,0,12,28,60,124,255,511,1023]),(15,[0,1,0,0,8,24,56,120,248,508,1023,2047,4095]),(17,[0,1,0,4,12,28,60,127,255,511])] Tryz.func12 h
def G2(Q:R)(b a:AV)(e:SH):Prop:=W.ext 0 a λf=>W.ext 1 a λj=>W.ext 2 a λk=>qn [.nils,.nils,.nils,.nils,.nils,.nils,.nils] 7 f e λg c=>ca 7 g c λh=>W.store 7 b h c λd=>W.load true 7 b d λi=>Q i d
def A6(a:AV)(L:SH)(Q:R):Prop:=W.alloc [.nils,.nils,.nils,.nils,.nils,.nils,.nils] L λb c=>wc (.fn 12 []) [a] c λd e=>wc (.fn 11 []) [d] e (G2 Q b)
theorem G3(t0:AV)(L:SH)(Q:R)(h:A6 t0 L Q):ai Tryz.prog 6 [t0] L Q:=
 fs [] [] [(1,[3])] [] Tryz.func6 h
end
section
set_option maxRecDepth 100000
def aP(l:List UInt8)(at_:Nat):Blk:=⟨2,[[.lst (l.map fq),.W9 (at_:Int)]]⟩
theorem Lg(bt:Nat)(l:List UInt8)(a:Nat)(n:Int)(hl:l.length<2^40)(ha:a≤l.length):
  ai Tryz.prog 23 [.ptr bt 0 0,.W9 n] [(bt,aP l a)] λu K=>∃r a':Nat,u=.W9 (r:Int)∧((r:Int)<n∨r=0)∧K=[(bt,aP l a')]∧a'≤l.length:=by
 unfold aP;refine yl _ _ _ _ ?_;unfold mo;generalize hQ:(λ(u:AV) (K:SH)=>∃r a':Nat,u=AV.W9 (r:Int)∧((r:Int)<n∨r=0)∧K=[(bt,(⟨2,[[.lst (l.map fq),.W9 (a':Int)]]⟩:Blk))]∧a'≤l.length)=Q;have hq:∀(r a':Nat),((r:Int)<n∨r=0)→a'≤l.length→Q (.W9 (r:Int)) [(bt,⟨2,[[.lst (l.map fq),.W9 (a':Int)]]⟩)]:=λr a' h1 h2=>by subst hQ;exact⟨r,a',rfl,h1,rfl,h2⟩
 clear hQ;rcases Vt a l.length with g|g
 ·have d1:decide ((l.length:Int)≤(a:Int))=false:=by simp;omega
  have hx:=az (f:=fq) g;have e1:=aE g W4;have e2:IntKind.i64.wrap (((a+1:Nat):Int)-1)=(a:Int):=by rw[We _ W4];omega
  by_cases hn:n<1
  ·have d2:decide (n<1)=true:=by simpa using hn
   repeat' (first|refine st ?_|refine sb λnb_ hnb_=>?_|refine s2 (λh=>?_) λh=>?_|fail)
   exact hq 0 a (.inr rfl) ha
  ·have d2:decide (n<1)=false:=by simpa using hn
   have hn0:n≠0:=by omega
   repeat' (first|refine st ?_|refine sb λnb_ hnb_=>?_|refine s2 (λh=>?_) λh=>?_|fail)
   have hb:(l[a].toNat:Int)<256:=by have:=l[a].toNat_lt;omega
   have e3:IntKind.i64.wrap (l[a].toNat:Int)=(l[a].toNat:Int):=by rw[We _ W4]
   rw[e3];have h5:(l[a].toNat:Int).tmod n=(((l[a].toNat:Int).tmod n).toNat:Nat):=by have:=Int.tmod_nonneg n (Int.natCast_nonneg l[a].toNat);omega
   rw[h5];exact hq _ (a+1) (.inl (by rw[←h5];exact Int.tmod_lt_of_pos _ W4)) W4
 ·have d1:decide ((l.length:Int)≤(a:Int))=true:=by simp;omega
  repeat' (first|refine st ?_|refine sb λnb_ hnb_=>?_|refine s2 (λh=>?_) λh=>?_|fail)
  exact hq 0 a (.inr rfl) ha
def G4(n:Int):au:=.mk 1 n [] []
def sE(s:bj):au:=.mk 2 0 s []
theorem G5(n:Int):aB Tryz.prog 26 [.W9 n] (.agg (G4 n).row):=by
 refine ai.fz (IY _ _ _ ?_);unfold El
 repeat' (first|refine st ?_|refine sb λnb_ hnb_=>?_|refine s2 (λh=>?_) λh=>?_|fail)
 exact⟨_,[],aI.all (Fz.aggs (.cons (.refl _) (.cons (.refl _) (.cons (.refl _) (.cons .nils .nil))))),rfl,rfl⟩
theorem yn(s:bj):aB Tryz.prog 73 [.str s] (.agg (sE s).row):=by
 refine ai.fz (G1 _ _ _ ?_);unfold A5
 repeat' (first|refine st ?_|refine sb λnb_ hnb_=>?_|refine s2 (λh=>?_) λh=>?_|fail)
 exact⟨_,[],aI.all (Fz.aggs (.cons (.refl _) (.cons (.refl _) (.cons (.refl _) (.cons .nils .nil))))),rfl,rfl⟩
def Mg(op:Int)(a b:au):au:=.mk op 0 [] [a,b]
theorem Eo(op:Int)(a b:au):aB Tryz.prog 72 [.W9 op,.agg a.row,.agg b.row] (.agg (Mg op a b).row):=by
 refine ai.fz (Em _ _ _ _ _ ?_);unfold sC
 repeat' (first|refine st ?_|refine sb λnb_ hnb_=>?_|refine s2 (λh=>?_) λh=>?_|fail)
 exact⟨_,[],aI.all (Fz.aggs (.cons (.refl _) (.cons (.refl _) (.cons (.refl _) (.cons (Fz.sls (l:=[a,b]) (f:=au.enc) (size:=4) (rows:=[a.row,b.row]) (.head _) (by simp[au.enc_row]) W8 rfl) .nil))))),rfl,rfl⟩
def jV:au:=.mk 0 0 [] []
def cz(s:bj)(e:au):ab:=.mk 1 0 s [] [] e [] []
theorem cC(s:bj)(e:au):aB Tryz.prog 25 [.str s,.agg e.row] (.agg (cz s e).row):=by
 refine ai.fz (En _ _ _ _ ?_);unfold sD
 repeat' (first|refine st ?_|refine sb λnb_ hnb_=>?_|refine s2 (λh=>?_) λh=>?_|fail)
 exact⟨_,[],aI.all (Fz.aggs (.cons (.refl _) (.cons (.refl _) (.cons (.refl _) (.cons (.refl _) (.cons .nils (.cons (.refl _) (.cons (.refl _) (.cons (.refl _) (.cons (.refl _) (.cons .nils (.cons .nils .nil)))))))))))),rfl,rfl⟩
def bC:List aH:=[⟨1,0,[120],0,0,[]⟩,⟨1,0,[121],0,1,[]⟩,⟨2,0,[118],0,0,[]⟩,⟨1,0,[113],2,0,[]⟩,⟨3,0,[109],0,0,[]⟩,⟨3,0,[110],0,0,[]⟩,⟨4,0,[114],0,0,[]⟩,⟨5,0,[99],0,0,[109]⟩,⟨6,0,[102],0,0,[]⟩]
theorem yo:aB Tryz.prog 22 [] (.lst (bC.map aH.enc)):=by
 refine ai.fz (Fg _ _ ?_);unfold ym
 repeat' (first|refine st ?_|refine sb λnb_ hnb_=>?_|refine s2 (λh=>?_) λh=>?_|fail)
 exact⟨_,[],aI.all (Fz.sls (l:=bC) (f:=aH.enc) (size:=6) (.head _) rfl W8 rfl),rfl,rfl⟩
theorem wz:(∀nm n,Df 0 nm n=0)∧(∀nm n,Df 1 nm n=0)∧(∀nm n,Df 2 nm n=0)∧Df 3 [113] (0+1)=0∧(∀op,Df op [] (0+1+1)=z3 op)∧z0 1=0∧z0 2=0∧z0 3=0∧z0 6=0∧z0 13=0∧z3 6=0∧z3 13=0∧
  (∀n,zv 1 n=z0 n)∧(∀n,zv 2 n=z0 n)∧(∀n,zv 3 n=z0 n)∧(∀n,zv 14 n=z0 n)∧(∀n,zv 4 n=0)∧(∀n,zv 5 n=0)∧(∀n,zv 6 n=0)∧(∀n,zv 7 n=0)∧(∀n,zv 8 n=0)∧(∀n,zv 9 n=0)∧(∀n,zv 12 n=0)∧(∀n,zv 13 n=0)∧(∀n,zv 15 n=0)∧
  (∀nm,zi nm 0=0)∧zi [113] (0+1)=0∧(∀op n nm l,au.wt (.mk op n nm l)=1+nm.length+Df op nm l.length+au.wts l)∧au.wts []=0∧(∀x l,au.wts (x::l)=x.wt+z0 x.op+au.wts l)∧
  (∀op line nm arg ix e body els,ab.wt (.mk op line nm arg ix e body els)=1+nm.length+arg.length+au.wts ix+e.wt+zv op e.op+zi nm ix.length+ab.wts body+ab.wts els)∧ab.wts []=0∧(∀x l,ab.wts (x::l)=x.wt+ab.wts l)∧
  (∀a b c l,au.op (.mk a b c l)=a)∧(∀n,G4 n=.mk 1 n [] [])∧(∀s,sE s=.mk 2 0 s [])∧(∀op a b,Mg op a b=.mk op 0 [] [a,b])∧jV=.mk 0 0 [] []∧(∀s e,cz s e=.mk 1 0 s [] [] e [] []):=by
 refine⟨?_,?_,?_,?_,?_,?_,?_,?_,?_,?_,?_,?_,?_,?_,?_,?_,?_,?_,?_,?_,?_,?_,?_,?_,?_,?_,?_,?_,?_,?_,?_,?_,?_,?_,?_,?_,?_,?_,?_⟩
 all_goals first
  |rfl
  |(intros;rfl)
  |(intros;simp[Df,z3,zi])
theorem SZ{P:Prop}(h:P:=by simp only[wz,VL,VU];omega):P:=h
theorem Uy{r:Nat}(h:(r:Int)<6∨r=0):z0 (([6,7,8,11,13,17]:List Int).getD r 0)=0∧z3 (([6,7,8,11,13,17]:List Int).getD r 0)=0:=by
 have h:r<6:=by omega
 match r,h with
 |0,_|1,_|2,_|3,_|4,_|5,_=>exact⟨rfl,rfl⟩
structure Vk where
 a:Nat
 thread:Int
 left:Int
 set:Bool
 tx:Bool
 atomic:Bool
 loop:Bool
 o:Option Nat
 ar:List bj
 k:Nat
def Vk.row(bt:Nat)(s:Vk):List AV:=[.ptr bt 0 0,.W9 s.thread,.W9 s.left,.bool s.set,.bool s.tx,.bool s.atomic,.bool s.loop,aq s.o s.k]
theorem eM{l:List bj}{b r:Nat}{rows:List (List AV)}{L:SH}{K:AV→Prop}(h:K (.str (l.getD r [])))(hm:(b,(⟨1,rows⟩:Blk))∈L)(hr:rows=l.map aw)(hl:r<l.length):W.load false 1 (.ptr b r 0) L K:=by subst hr;refine C0 hm (az hl) W6 ?_;simpa[List.getD,hl]using h
theorem Oy{l:List Int}{b r:Nat}{rows:List (List AV)}{L:SH}{K:AV→Prop}(h:K (.W9 (l.getD r 0)))(hm:(b,(⟨1,rows⟩:Blk))∈L)(hr:rows=l.map ao)(hl:r<l.length):W.load false 1 (.ptr b r 0) L K:=by subst hr;refine C0 hm (az hl) W6 ?_;simpa[List.getD,hl]using h
theorem fF{bt:Nat}{t:List UInt8}{a:Nat}{n:Int}{L L':SH}{KL:R}(ht:t.length<2^40)(ha:a≤t.length)(hd:eN bt (aP t a) L L')(hq:∀r a':Nat,((r:Int)<n∨r=0)→a'≤t.length→KL (.W9 (r:Int)) ((bt,aP t a')::L')):W.callM Tryz.prog 23 [.ptr bt 0 0,.W9 n] L KL:=
 kq (Lg bt t a n ht ha) hd (by rintro _ _ ⟨r,a',rfl,h1,rfl,h2⟩;exact hq r a' h1 h2)
theorem Cv{bt:Nat}{t:List UInt8}{a i:Nat}{n:Int}{us:List W.WR}{L L':SH}{KN:AV→SH→List Nat→Prop}(ht:t.length<2^40)(ha:a≤t.length)(hd:eN bt (aP t a) L L')(hq:∀r a':Nat,((r:Int)<n∨r=0)→a'≤t.length→KN (.W9 (r:Int)) ((bt,aP t a')::L') [bt])(hf:∀y∈us,W.free y ⟨i,[],[bt],[],true,[]⟩:=by(simp only[rm,rc,rz,W.free,ax,↓reduceIte,Nat.reduceEqDiff,aa,dT,W1,V3,VY,not_false_eq_true,implies_true,and_true,true_and,and_self,VQ,reduceCtorEq,forall_const,false_implies,Vv,forall_eq,V5,Wp,Vq,or_false,false_or,forall_eq_or_imp,not_or])<;>(repeat' constructor)<;>first|assumption|(exact Ne.symm W5)|(intro e_;subst e_;simp[SH.names]at *;done)):W.dcallM Tryz.prog us i 23 [.ptr bt 0 0,.W9 n] L KN:=
 C4 (Lg bt t a n ht ha) hd hf (by rintro _ _ ⟨r,a',rfl,h1,rfl,h2⟩;exact hq r a' h1 h2)
def mq(bt:Nat)(v1 v2 v3 v4 v5 v6 v7:AV):Blk:=⟨8,[[.ptr bt 0 0,v1,v2,v3,v4,v5,v6,v7]]⟩
def IZ(d:Nat):Prop:=∀(bm bt:Nat) (t:List UInt8) (a:Nat) (v1 v2 v3 v4 v5 v6 v7:AV),t.length<2^40→a≤t.length→
  ai Tryz.prog 71 [.ptr bm 0 0,.W9 (d:Int)] [(bm,mq bt v1 v2 v3 v4 v5 v6 v7),(bt,aP t a)] λu K=>∃(x:au) (a':Nat),u=.agg x.row∧x.wt+z0 x.op≤4^(d+1)∧a'≤t.length∧K=[(bm,mq bt v1 v2 v3 v4 v5 v6 v7),(bt,aP t a')]
section
variable {bm bt:Nat} {t:List UInt8} {a d:Nat} {dd:Int} {v1 v2 v3 v4 v5 v6 v7:AV} {L L1 L2:SH}
theorem cD{KL:R}(hE:IZ d)(hdd:dd=(d:Int))(ht:t.length<2^40)(ha:a≤t.length)(h1:eN bm (mq bt v1 v2 v3 v4 v5 v6 v7) L L1)(h2:eN bt (aP t a) L1 L2)(hq:∀(x:au) (a':Nat),x.wt+z0 x.op≤4^(d+1)→a'≤t.length→KL (.agg x.row) ((bm,mq bt v1 v2 v3 v4 v5 v6 v7)::(bt,aP t a')::L2)):
  W.callM Tryz.prog 71 [.ptr bm 0 0,.W9 dd] L KL:=by
 subst hdd;exact M6 (hE bm bt t a v1 v2 v3 v4 v5 v6 v7 ht ha) h1 h2 (by rintro _ _ ⟨x,a',rfl,h1,h2,rfl⟩;exact hq x a' h1 h2)
theorem G6{us:List W.WR}{i:Nat}{KN:AV→SH→List Nat→Prop}(hE:IZ d)(hdd:dd=(d:Int))(ht:t.length<2^40)(ha:a≤t.length)(h1:eN bm (mq bt v1 v2 v3 v4 v5 v6 v7) L L1)(h2:eN bt (aP t a) L1 L2)(hq:∀(x:au) (a':Nat),x.wt+z0 x.op≤4^(d+1)→a'≤t.length→KN (.agg x.row) ((bm,mq bt v1 v2 v3 v4 v5 v6 v7)::(bt,aP t a')::L2) [bm,bt])
  (hf:∀y∈us,W.free y ⟨i,[],[bm,bt],[],true,[]⟩:=by(simp only[rm,rc,rz,W.free,ax,↓reduceIte,Nat.reduceEqDiff,aa,dT,W1,V3,VY,not_false_eq_true,implies_true,and_true,true_and,and_self,VQ,reduceCtorEq,forall_const,false_implies,Vv,forall_eq,V5,Wp,Vq,or_false,false_or,forall_eq_or_imp,not_or])<;>(repeat' constructor)<;>first|assumption|(exact Ne.symm W5)|(intro e_;subst e_;simp[SH.names]at *;done)):W.dcallM Tryz.prog us i 71 [.ptr bm 0 0,.W9 dd] L KN:=by
 subst hdd;exact LE (hE bm bt t a v1 v2 v3 v4 v5 v6 v7 ht ha) h1 h2 hf (by rintro _ _ ⟨x,a',rfl,h1,h2,rfl⟩;exact hq x a' h1 h2)
end
theorem Oz(r:Nat):(([[97],[98],[120],[121],[118],[120],[121]]:List bj).getD r []).length≤1:=by
 rcases Vt r 7 with h|h
 ·match r,h with
  |0,_|1,_|2,_|3,_|4,_|5,_|6,_=>exact Vo _
 ·rw[List.getD,Vu (by simpa using h)];exact V1 _
theorem Lh:IZ 0:=by
  intro bm bt t a v1 v2 v3 v4 v5 v6 v7 ht ha;refine ai.fz (jP _ _ _ _ ?_);unfold gk;generalize hQ:(λ(v:AV) (L:SH)=>∃v2_1 L2,aI [v] L [v2_1] L2∧∃(x:au) (a':Nat),v2_1=AV.agg x.row∧x.wt+z0 x.op≤4^(0+1)∧a'≤t.length∧L2=[(bm,mq bt v1 v2 v3 v4 v5 v6 v7),(bt,aP t a')])=Q;have hq:∀(v:AV) (x:au) (a':Nat) (L L1 L2:SH),eN bm (mq bt v1 v2 v3 v4 v5 v6 v7) L L1→eN bt (aP t a') L1 L2→Fz L2 v (.agg x.row)→x.wt+z0 x.op≤4→a'≤t.length→Q v L:=λv x a' L L1 L2 h1 h2 h3 h4 h5=>by subst hQ;exact⟨_,_,aI.keep2 h1 h2 h3,x,a',rfl,h4,h5,rfl⟩
  clear hQ;unfold mq
  repeat' (first|refine st ?_|((with_reducible refine aZ 23 ?_);(refine fF ht W5 rp (λr_ a_ hr_ ha_=>?_)))|(refine pf 26 ?_;refine pm (G5 _) ?_)|(refine pf 73 ?_;refine pm (yn _) ?_)|refine eM (l:=[[97],[98],[120],[121],[118],[120],[121]]) ?_ mm rfl (by simp;omega)|refine dE ?_ W4|refine sb λnb_ hnb_=>?_|refine s2 (λh=>?_) λh=>?_|fail)
  all_goals first
   |exact hq _ (G4 _) _ _ _ _ rp rp (.refl _) SZ W5
   |exact hq _ (sE _) _ _ _ _ rp rp (.refl _) (by have:=Oz r_;exact SZ) W5
   |(exfalso;simp at *;omega)
theorem bW:∀d:Nat,d<1000→IZ d:=by
 intro d
 induction d with
 |zero=>exact λ_=>Lh
 |succ d ih=>
  intro hd1000 bm bt t a v1 v2 v3 v4 v5 v6 v7 ht ha;have ih:=ih W4;have hE0:IZ 0:=Lh;have d0:decide (((d+1:Nat):Int)=0)=false:=by simp;omega
  have e1:IntKind.i64.wrap (((d+1:Nat):Int)-1)=(d:Int):=by rw[We _ W4];omega
  have hp:1≤4^d:=Nat.one_le_pow _ _ W8;have hp1:4^(d+1)=4*4^d:=by rw[Nat.pow_succ,Nat.mul_comm]
  have hp2:4^(d+1+1)=16*4^d:=by rw[Nat.pow_succ,Nat.pow_succ];omega
  refine ai.fz (jP _ _ _ _ ?_);unfold gk;generalize hQ:(λ(v:AV) (L:SH)=>∃v2_1 L2,aI [v] L [v2_1] L2∧∃(x:au) (a':Nat),v2_1=AV.agg x.row∧x.wt+z0 x.op≤4^(d+1+1)∧a'≤t.length∧L2=[(bm,mq bt v1 v2 v3 v4 v5 v6 v7),(bt,aP t a')])=Q;have hq:∀(v:AV) (x:au) (a':Nat) (L L1 L2:SH),eN bm (mq bt v1 v2 v3 v4 v5 v6 v7) L L1→eN bt (aP t a') L1 L2→Fz L2 v (.agg x.row)→x.wt+z0 x.op≤16*4^d→a'≤t.length→Q v L:=λv x a' L L1 L2 h1 h2 h3 h4 h5=>by subst hQ;exact⟨_,_,aI.keep2 h1 h2 h3,x,a',rfl,W4,h5,rfl⟩
  clear hQ;unfold mq
  repeat' (first|refine st ?_|((with_reducible refine aZ 23 ?_);(refine fF ht W5 rp (λr_ a_ hr_ ha_=>?_)))|(refine pf 26 ?_;refine pm (G5 _) ?_)|(refine pf 73 ?_;refine pm (yn _) ?_)|(refine pf 72 ?_;refine pm (Eo _ _ _) ?_)|refine eM (l:=[[97],[98],[120],[121],[118],[120],[121]]) ?_ mm rfl (by simp;omega)|refine Oy (l:=[6,7,8,11,13,17]) ?_ mm rfl (by simp;omega)|refine dE ?_ W4|((with_reducible refine ef 23 ?_);refine Cv ht W5 rp (λr_ a_ hr_ ha_=>?_))|((with_reducible refine aZ 71 ?_);(refine cD hE0 W6 ht W5 rp rp (λx_ a_ hx_ ha_=>?_)))|((with_reducible refine ef 71 ?_);refine G6 ih W6 ht W5 rp rp (λx_ a_ hx_ ha_=>?_))|refine sb λnb_ hnb_=>?_|refine s2 (λh=>?_) λh=>?_|fail)
  all_goals first
   |exact hq _ (G4 _) _ _ _ _ rp rp (.refl _) SZ W5
   |exact hq _ (sE _) _ _ _ _ rp rp (.refl _) (by have:=Oz r_;exact SZ) W5
   |exact hq _ (.mk 3 0 [113] [x_]) _ _ _ _ rp rp (Fz.aggs (.cons (.refl _) (.cons (.refl _) (.cons (.refl _) (.cons (Fz.sls (l:=[x_]) (f:=au.enc) (size:=4) (rows:=[x_.row]) (.head _) (by simp[au.enc_row]) W8 rfl) .nil))))) SZ W5
   |exact hq _ (Mg _ _ _) _ _ _ _ rp rp (.refl _) (by have:=Uy hr_;exact SZ) W5
end
end Go.Proofs.YtenbpcngcicamaaGreatDoor.Am
