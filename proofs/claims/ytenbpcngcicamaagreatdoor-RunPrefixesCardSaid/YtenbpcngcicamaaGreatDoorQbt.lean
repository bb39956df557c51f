/- A part of the proof; the statement is proved in the last part. -/
import Derived.Test.YtenbpcngcicamaaGreatDoorQbs
set_option linter.unusedSimpArgs false
set_option linter.unusedVariables false
namespace Go.Proofs.YtenbpcngcicamaaGreatDoor.Am
section
set_option maxRecDepth 100000
set_option maxHeartbeats 4000000
def Uv(p:bL)(bw:Nat)(s:m3)(m:Nat)(u:AV)(K:SH):Prop:=
 ∃(e ln:Int) (s':m3),u=.tup [.W6 e,.W6 ln]∧K=s'.L p bw∧s'.Ok m∧s'.t=s.t∧s'.k=s.k
theorem Ss{p:bL}{bw:Nat}{s:m3}{x:ab}{m:Nat}(h:af Tryz.prog 65 [.ptr bw 0 0,.agg x.row] (s.L p bw) (Sq p bw s m)):
  af Tryz.prog 65 [.ptr bw 0 0,.agg x.row] (s.L p bw) λu K=>∃(e:Int) (s':m3),u=.W6 e∧K=s'.L p bw∧s'.Ok m∧s'.t=s.t∧s'.k=s.k:=
 af.permR (h.mono λv K' ⟨e,s',h1,h2,h3,h4,_,_,h5⟩=>⟨_,h2,e,s',h1,rfl,h3,h4,h5⟩)
set_option maxHeartbeats 2000000 in
theorem St(p:bL)(bw:Nat)(hw:p.wt<2^40):∀(n:Nat) (l:List ab) (s:m3) (m:Nat),ab.wts l≤n→(ht:s.t<p.threads.length)→s.Ok m→m+ab.wts l<2^40→
  af Tryz.prog 41 [.ptr bw 0 0,.lst (l.map ab.enc)] (s.L p bw) (Uv p bw s (m+ab.wts l) ):=by
 intro n
 induction n using Nat.strongRecOn with
 |_ n ih=>
  intro l s0 m hn ht hs0 hm;have hlen:=ab.wts_len l;refine af.fz (yk _ _ _ _ ?_);unfold me;generalize hQ:(λ(v:AV) (L:SH)=>∃v2 L2,aG [v] L [v2] L2∧Uv p bw s0 (m+ab.wts l) v2 L2)=Q;have hqg:∀(e ln:Int) (K:SH) (s':m3),gD K (s'.L p bw)→s'.Ok (m+ab.wts l)→s'.t=s0.t→s'.k=s0.k→Q (.tup [.W6 e,.W6 ln]) K:=λe ln K s' h1 h2 h3 h4=>by subst hQ;exact⟨_,_,aG.pick h1 rfl,e,ln,s',rfl,rfl,h2,h3,h4⟩
  clear hQ;refine cb l.length (λi (s:m3)=>([.ptr bw 0 0,.lst (l.map ab.enc),.W6 i],s.L p bw)) (λi s=>s.Ok (m+ab.wts (l.take i))∧s.t=s0.t∧s.k=s0.k) s0 ⟨by simpa[ab.wts]using hs0,rfl,rfl⟩ (.refl _ _) ?_;rintro i s hi ⟨hs,hst,hsk⟩;dsimp only;unfold kz;generalize hnx:(λ(vs':List AV) (L':SH)=>∃j o',i<j∧j≤l.length∧(m3.Ok o' (m+ab.wts (l.take j))∧o'.t=s0.t∧o'.k=s0.k)∧aG vs' L' [.ptr bw 0 0,.lst (l.map ab.enc),.W6 (j:Int)] (m3.L p bw o'))=nx;rcases Nat.lt_or_ge i l.length with g1|g1
  ·have hd:=bI g1;have hi1:=aD g1 W1;have hx:=FJ g1;have hwi:=ab.wts_succ g1;have hwl:=ab.wts_take l (i+1);have hwe:=(l[i]).wt_eq;have c1:=Ss (Sr p bw s l[i] (m+ab.wts (l.take i)) hw W1 hs W1 W1);have hn:∀(s':m3) (L':SH),gD L' (s'.L p bw)→s'.Ok (m+ab.wts (l.take (i+1)))→s'.t=s0.t→s'.k=s0.k→nx [.ptr bw 0 0,.lst (l.map ab.enc),.W6 ((i+1:Nat):Int)] L':=by intro s' L' q1 q2 q3 q4;subst hnx;exact⟨i+1,s',W1,W1,⟨q2,q3,q4⟩,aG.pick q1 rfl⟩
   clear hnx;generalize hxx:l[i]=x at *
   repeat' (first|refine st ?_|((with_reducible refine aX 65 ?_);(refine AY c1 ?_;rintro _ _ ⟨e1,s1,rfl,rfl,hs1,ht1,hk1⟩))|refine sb λnb_ hnb_=>?_|refine s2 (λh=>?_) λh=>?_|fail)
   have hbk:=λ(q:Nat) (h:q≤m+ab.wts (l.take (i+1))) (s':m3) (h2:s'.Ok q)=>(⟨h2.a0,h2.ak,h2.k6,h2.p0,h2.e0,by have:=h2.pm;omega,by have:=h2.em;omega⟩:s'.Ok (m+ab.wts (l.take (i+1))));have hbl:=λ(s':m3) (h2:s'.Ok (m+ab.wts (l.take (i+1))))=>(⟨h2.a0,h2.ak,h2.k6,h2.p0,h2.e0,by have:=h2.pm;omega,by have:=h2.em;omega⟩:s'.Ok (m+ab.wts l));have key:∀e:Int,(e=0→s1.k<6)→ga Q nx [.ptr bw 0 0,.lst (l.map ab.enc),.W6 (i:Int),.pptr [x.row] 0 0,.W6 e] (s1.L p bw):=by
    intro e he;unfold ga;unfold m3.L m3.row;by_cases h0:e=0
    ·subst h0;have hk6:=he rfl;have hzero:∀(k:Nat) (rows:List (List AV)),k≤rows.length→(rows.take k++[G5])[k]? =some G5:=λk rows h=>by rw[Vt (by rw[VO];omega),VO,Wb h,Nat.sub_self];rfl
     have hz:=hzero s1.k (s1.ar.map ab.enc) (by simpa using hs1.ak)
     repeat' (first|refine Ct ?_ (λe=>by have:=hs1.a0 e;have:=hs1.ak;simp_all)|refine st ?_|refine I1 (r:=G5) rp W3 rp (by simpa using hs1.ak) (λe=>by simp[hs1.a0 e]) W1 W1 W3 (λnb_ hnb_=>?_)|refine sb λnb_ hnb_=>?_|refine s2 (λh=>?_) λh=>?_|fail)
     rename_i bt hbt;have hrows:(List.take s1.k (s1.ar.map ab.enc)++[G5]).set s1.k x.row=(s1.ar.take s1.k++[x]).map ab.enc:=by
      have hl:(List.take s1.k (s1.ar.map ab.enc)).length=s1.k:=by rw[VO,Wq,Wb hs1.ak]
      rw[List.set_append_right _ _ W1,hl,Nat.sub_self,Vo,List.map_take,←ab.enc_row];rfl
     let s2:m3:={s1 with o1:=some nb_,ar:=s1.ar.take s1.k++[x],k:=s1.k+1}
     have hs2:s2.Ok (m+ab.wts (l.take i)+1):=⟨nofun,by simp[s2,Wb hs1.ak],by show s1.k+1≤6;omega,hs1.p0,hs1.e0,hs1.pm,hs1.em⟩;have c2:=ih (ab.wts x.body) W1 x.body s2 (m+ab.wts (l.take i)+1) (Vl _) (by show s1.t<_;omega) hs2 W1;refine Gv (R:=[(bt,?tmp)]) c2 ?hp ?hk
     case hp=>
      unfold m3.L m3.row;dsimp only[ae,am,s2];rw[←hrows];exact Sn _ _ _ _
     rintro _ _ ⟨e2,ln2,s3,rfl,rfl,hs3,ht3,hk3⟩;have key2:∀(tmp:Nat×Blk) (e ln:Int) (s4:m3),s4.Ok (m+ab.wts (l.take (i+1)))→s4.t=s0.t→s4.k=s1.k+1→fY Q nx [.ptr bw 0 0,.lst (l.map ab.enc),.W6 (i:Int),.W6 e,.W6 ln] (s4.L p bw++[tmp]):=by
      intro tmp e ln s4 h4 ht4 hk4;obtain⟨t4,o1,ar4,k4,o2,sp4,o3,se4⟩:=s4;dsimp only at ht4 hk4;subst ht4;subst hk4;rcases o1 with _|b4
      ·exfalso;have:=h4.a0 rfl;have:=h4.ak;simp_all
      unfold fY;unfold m3.L m3.row;dsimp only[ae,am,List.cons_append,List.nil_append];rw[List.append_assoc];have es:IntKind.i64.wrap (((s1.k+1:Nat):Int)-1)=(s1.k:Int):=by rw[IntWalk.i64_in _ W1];omega
      by_cases h0:e=0
      ·subst h0
       repeat' (first|refine st ?_|refine Ah ?_ (WF _) rp rfl|refine sb λnb_ hnb_=>?_|refine s2 (λh=>?_) λh=>?_|fail)
       exact hn ⟨s0.t,some b4,ar4,s1.k,o2,sp4,o3,se4⟩ _ (.one (.here _) (.one (.here _) (.slot (.here _) (.slotl (.here _))))) ⟨nofun,by have:=h4.ak;dsimp only at *;omega,by dsimp only;omega,h4.p0,h4.e0,h4.pm,h4.em⟩ rfl (by dsimp only;omega)
      ·have d0:decide (e≠0)=true:=by simpa using h0
       repeat' (first|refine st ?_|refine Ah ?_ (WF _) rp rfl|refine sb λnb_ hnb_=>?_|refine s2 (λh=>?_) λh=>?_|fail)
       exact hqg e ln _ ⟨s0.t,some b4,ar4,s1.k,o2,sp4,o3,se4⟩ (.one (.here _) (.one (.here _) (.slot (.here _) (.slotl (.here _))))) (hbl _ ⟨nofun,by have:=h4.ak;dsimp only at *;omega,by dsimp only;omega,h4.p0,h4.e0,h4.pm,h4.em⟩) rfl (by dsimp only;omega)
     have ht3':s3.t=s0.t:=by rw[ht3];show s1.t=s0.t;omega
     have hk3':s3.k=s1.k+1:=hk3;have c3:=ih (ab.wts x.els) W1 x.els s3 (m+ab.wts (l.take i)+1+ab.wts x.body) (Vl _) W1 hs3 W1;by_cases h2:e2=0
     ·have d2:decide (e2=0)=true:=by simpa using h2
      unfold fZ
      repeat' (first|refine st ?_|refine sb λnb_ hnb_=>?_|refine s2 (λh=>?_) λh=>?_|fail)
      refine Gv c3 (.refl _) ?_;rintro _ _ ⟨e3,ln3,s4,rfl,rfl,hs4,ht4,hk4⟩;unfold ky
      repeat' (first|with_reducible exact key2 _ _ _ _ (hbk _ W1 _ hs4) W1 W1|refine st ?_|refine sb λnb_ hnb_=>?_|refine s2 (λh=>?_) λh=>?_|fail)
     ·have d2:decide (e2=0)=false:=by simpa using h2
      unfold fZ
      repeat' (first|with_reducible exact key2 _ _ _ _ (hbk _ W1 _ hs3) W1 W1|refine st ?_|refine sb λnb_ hnb_=>?_|refine s2 (λh=>?_) λh=>?_|fail)
    ·have d0:decide (e≠0)=true:=by simpa using h0
     repeat' (first|refine st ?_|refine sb λnb_ hnb_=>?_|refine s2 (λh=>?_) λh=>?_|fail)
     exact hqg e _ _ s1 (.one (.here _) (.slot (.here _) (.slot (.here _) (.slotl .last)))) (hbl _ (hbk _ W1 _ hs1)) W1 W1
   have hk7:=hs1.k6;unfold ab.row at key;have ek:=aD (i:=s1.k) (n:=7) W1 W1;by_cases h6:s1.k<6
   ·have d6:decide ((6:Int)<((s1.k+1:Nat):Int))=false:=by simp;omega
    repeat' (first|refine Ct ?_ (λe=>by have:=hs1.a0 e;have:=hs1.ak;simp_all)|with_reducible refine key _ (λ_=>h6)|refine st ?_|refine sb λnb_ hnb_=>?_|refine s2 (λh=>?_) λh=>?_|fail)
   ·have d6:decide ((6:Int)<((s1.k+1:Nat):Int))=true:=by simp;omega
    repeat' (first|refine Ct ?_ (λe=>by have:=hs1.a0 e;have:=hs1.ak;simp_all)|with_reducible refine key _ (λh=>absurd h W5)|refine st ?_|refine sb λnb_ hnb_=>?_|refine s2 (λh=>?_) λh=>?_|fail)
  ·have hd:=bO g1
   repeat' (first|refine st ?_|refine sb λnb_ hnb_=>?_|refine s2 (λh=>?_) λh=>?_|fail)
   have hil:i=l.length:=by omega
   subst hil;rw[List.take_length]at hs;exact hqg 0 0 _ s (.one (.here _) (.slot (.here _) (.slot (.here _) (.slotl .last)))) hs hst hsk
theorem F3(p:bL)(hw:p.wt<2^40):TE 17 [.agg p.enc]:=by
 have hl1:=p.decls_len;have hl2:=p.threads_len;have hsum:gw (λt:ah=>ab.wts t.body) p.threads≤p.wt:=by have:=I2 (f:=λt:ah=>ab.wts t.body) (g:=ah.wt) (λt=>by unfold ah.wt;omega) p.threads;unfold bL.wt;unfold gw at *;omega
 have c1:=Oy p hw;have c2:=P5 p.decls W1;have c3:=Mn p hw;refine te λQ hq=>Ax _ _ _ ?_
 unfold nN
 repeat' (first|refine st ?_|(refine pf 37 ?_;refine pm (c1) ?_)|(refine pf 38 ?_;refine pm (c2) ?_)|(refine pf 39 ?_;refine pm (c3) ?_)|refine sb λnb_ hnb_=>?_|refine s2 (λh=>?_) λh=>?_|fail)
 all_goals first|exact hq _ _ _|skip
 rename_i h4;have h4:p.threads.length≤4:=by simp at h4;omega
 refine F2 p.threads.length (λi n=>[.pptr [p.enc] 0 0,.W6 n,.W6 i]) 0 W1 rfl (λi n h1 hd hi nx hn=>?_) (λi n h1 hd nx=>?_)
 all_goals unfold mc
 ·have hx:=aw (f:=ah.enc) h1;have hwt:=p.thread_wt h1;have c4:=P4 _ p.threads[i].body (Vl _) (by have:ab.wts p.threads[i].body<p.threads[i].wt:=(by unfold ah.wt;omega);omega)
  repeat' (first|refine st ?_|(refine pf 40 ?_;refine pm (c4) ?_)|refine sb λnb_ hnb_=>?_|refine s2 (λh=>?_) λh=>?_|fail)
  exact hn _
 ·repeat' (first|refine st ?_|refine sb λnb_ hnb_=>?_|refine s2 (λh=>?_) λh=>?_|fail)
  ·exact hq _ _ _
  generalize nb_=bw at *;clear hd h1;refine cb p.threads.length (λi (s:m3)=>([.pptr [p.enc] 0 0,.ptr bw 0 0,.W6 i],s.L p bw)) (λi s=>s.Ok (gw (λt:ah=>ab.wts t.body) (p.threads.take i))∧s.k=0) ⟨0,none,[],0,none,[],none,[]⟩ ⟨⟨λ_=>rfl,Vl _,VX _,λ_=>rfl,λ_=>rfl,VX _,VX _⟩,rfl⟩ ?_ ?_
  ·exact aG.box (K:=[]) (R:=[]) (.refl _) (.cons (.refl _) (.cons (.refl _) (.cons (.refl _) (.cons .nile (.cons .nile (.cons .nile .nil))))))
  ·rintro i s hi ⟨hs1,hk1⟩;dsimp only;unfold mb;generalize hnx:(λ(vs':List AV) (L':SH)=>∃j o',i<j∧j≤p.threads.length∧(m3.Ok o' (gw (λt:ah=>ab.wts t.body) (p.threads.take j))∧o'.k=0)∧aG vs' L' [.pptr [p.enc] 0 0,.ptr bw 0 0,.W6 (j:Int)] (m3.L p bw o'))=nx;rcases Nat.lt_or_ge i p.threads.length with g1|g1
   ·have hd:=bI g1;have hi1:=aD g1 W1;have hx:=aw (f:=ah.enc) g1;have hss:=Kd (f:=λt:ah=>ab.wts t.body) g1;have hst:=D9 (λt:ah=>ab.wts t.body) p.threads (i+1);have c5:=St p bw hw _ p.threads[i].body {s with t:=i} (gw (λt:ah=>ab.wts t.body) (p.threads.take i)) (Vl _) g1 ⟨hs1.a0,hs1.ak,hs1.k6,hs1.p0,hs1.e0,hs1.pm,hs1.em⟩ W1;rw[←hss]at c5;unfold m3.L m3.row at c5 ⊢
    repeat' (first|refine st ?_|((with_reducible refine aX 41 ?_);(refine AY c5 ?_;rintro _ _ ⟨e3,ln3,s3,rfl,rfl,hs3,ht3,hk3⟩))|refine sb λnb_ hnb_=>?_|refine s2 (λh=>?_) λh=>?_|fail)
    ·exact hq _ _ _
    ·subst hnx;exact⟨i+1,s3,W1,W1,⟨hs3,by rw[hk3];exact hk1⟩,.refl _ _⟩
   ·have hd:=bO g1
    repeat' (first|refine st ?_|refine sb λnb_ hnb_=>?_|refine s2 (λh=>?_) λh=>?_|fail)
    exact hq _ _ _
end
section
set_option maxRecDepth 100000
def yl(Q:R)(c:SH)(b d:AV):Prop:=dK 1 b c λe=>wb .add 3 e (.W6 1) λf=>W.nilchk b λg=>W.faddr 1 g λh=>W.store 1 h f c λa=>(true=true)∧(W.nilchk b λi=>aL 0 i [] 3 a λj k=>W.nilchk b λl=>aL 1 l [rm 3 k] 7 a λm s=>wb .sub 3 m (.W6 1) λn=>di [] 9 1 j n a λo t=>dl [] 10 o a λp u=>W.conv .i64 p λq=>wb .rem 3 q d λr=>Q r a)
def mf(a c:AV)(L:SH)(Q:R):Prop:=(true=true)∧(W.nilchk a λf=>aL 1 f [] 3 L λg h=>W.nilchk a λi=>aL 0 i [rm 3 h] 7 L λj r=>W.len j λk=>wb .geq 3 g k λb=>W.dgrd b false (λl=>l c L rz) L λm d s=>W.dgrd b false (λn=>wb .lss 3 m (.W6 1) λo=>n o d rz) d λp e t=>W.pick b (.bool true) p λq=>wk q (Q (.W6 0) e) ((yl Q e a c)))
theorem ym(t0 t1:AV)(L:SH)(Q:R)(h:mf t0 t1 L Q):af Tryz.prog 23 [t0,t1] L Q:=
 fs [] [] [] [(1,[0,1,3,7,0,16,48,112,240,511,1023,2047,4095,8191]),(4,[0,1,3,7,0,16,48,112,240,511,1023,2047,0,8191,16383])] Tryz.func23 h
def Eo(c:AV)(L:SH)(Q:R):Prop:=W.alloc [(.W6 0),(.W6 0),(.str []),.nils] L λa d=>W.build [(.W6 0),(.W6 0),(.str []),.nils] [(0,1,(.W6 1)),(1,1,c)] λe=>W.store 4 a e d λb=>W.load true 4 a b λf=>Q f b
theorem I5(t0:AV)(L:SH)(Q:R)(h:Eo t0 L Q):af Tryz.prog 26 [t0] L Q:=
 fs [] [] [] [] Tryz.func26 h
def A6(c:AV)(L:SH)(Q:R):Prop:=W.alloc [(.W6 0),(.W6 0),(.str []),.nils] L λa d=>W.build [(.W6 0),(.W6 0),(.str []),.nils] [(0,1,(.W6 2)),(2,1,c)] λe=>W.store 4 a e d λb=>W.load true 4 a b λf=>Q f b
theorem G6(t0:AV)(L:SH)(Q:R)(h:A6 t0 L Q):af Tryz.prog 73 [t0] L Q:=
 fs [] [] [] [] Tryz.func73 h
def sD(d e f:AV)(L:SH)(Q:R):Prop:=W.box e L λg h=>W.box f h λi j=>W.alloc [(.W6 0),(.W6 0),(.str []),.nils] j λb k=>W.frz1 g k λl m=>W.frz1 i m λn a=>bY 4 l a λo=>bY 4 n a λp=>W.bslice 4 [(.W6 0),(.W6 0),(.str []),.nils] 2 [(0,o),(1,p)] a λq r=>W.build [(.W6 0),(.W6 0),(.str []),.nils] [(0,1,d),(3,1,q)] λs=>W.store 4 b s r λc=>W.load true 4 b c λt=>Q t c
theorem Ep(t0 t1 t2:AV)(L:SH)(Q:R)(h:sD t0 t1 t2 L Q):af Tryz.prog 72 [t0,t1,t2] L Q:=
 fs [] [] [(0,[4,5])] [] Tryz.func72 h
def sE(d e:AV)(L:SH)(Q:R):Prop:=W.box e L λf g=>W.alloc [(.W6 0),(.W6 0),(.str []),(.str []),.nils,(.W6 0),(.W6 0),(.str []),.nils,.nils,.nils] g λa h=>W.frz1 f h λi b=>bY 4 i b λj=>W.build [(.W6 0),(.W6 0),(.str []),(.str []),.nils,(.W6 0),(.W6 0),(.str []),.nils,.nils,.nils] [(0,1,(.W6 1)),(2,1,d),(5,4,j)] λk=>W.store 11 a k b λc=>W.load true 11 a c λl=>Q l c
theorem Er(t0 t1:AV)(L:SH)(Q:R)(h:sE t0 t1 L Q):af Tryz.prog 25 [t0,t1] L Q:=
 fs [] [] [(0,[3])] [] Tryz.func25 h
def yn(L:SH)(Q:R):Prop:=W.build [(.W6 0),(.W6 0),(.str []),(.W6 0),(.W6 0),(.str [])] [(0,1,(.W6 1)),(2,1,(.str [120]))] λa=>W.build [(.W6 0),(.W6 0),(.str []),(.W6 0),(.W6 0),(.str [])] [(0,1,(.W6 1)),(2,1,(.str [121])),(4,1,(.W6 1))] λb=>W.build [(.W6 0),(.W6 0),(.str []),(.W6 0),(.W6 0),(.str [])] [(0,1,(.W6 2)),(2,1,(.str [118]))] λc=>W.build [(.W6 0),(.W6 0),(.str []),(.W6 0),(.W6 0),(.str [])] [(0,1,(.W6 1)),(2,1,(.str [113])),(3,1,(.W6 2))] λd=>W.build [(.W6 0),(.W6 0),(.str []),(.W6 0),(.W6 0),(.str [])] [(0,1,(.W6 3)),(2,1,(.str [109]))] λe=>W.build [(.W6 0),(.W6 0),(.str []),(.W6 0),(.W6 0),(.str [])] [(0,1,(.W6 3)),(2,1,(.str [110]))] λf=>W.build [(.W6 0),(.W6 0),(.str []),(.W6 0),(.W6 0),(.str [])] [(0,1,(.W6 4)),(2,1,(.str [114]))] λg=>W.build [(.W6 0),(.W6 0),(.str []),(.W6 0),(.W6 0),(.str [])] [(0,1,(.W6 5)),(2,1,(.str [99])),(5,1,(.str [109]))] λh=>W.build [(.W6 0),(.W6 0),(.str []),(.W6 0),(.W6 0),(.str [])] [(0,1,(.W6 6)),(2,1,(.str [102]))] λi=>W.bslice 6 [(.W6 0),(.W6 0),(.str []),(.W6 0),(.W6 0),(.str [])] 9 [(0,a),(1,b),(2,c),(3,d),(4,e),(5,f),(6,g),(7,h),(8,i)] L λj k=>Q j k
theorem Fm(L:SH)(Q:R)(h:yn L Q):af Tryz.prog 22 [] L Q:=
 fs [] [] [] [] Tryz.func22 h
def jB(a b:AV)(L:SH)(Q:R):Prop:=dK 7 a L λc=>wc (.fn 64 []) [c,b] L λd e=>wb .geq 3 d (.W6 0) λf=>Q f e
theorem qU(t0 t1:AV)(L:SH)(Q:R)(h:jB t0 t1 L Q):af Tryz.prog 74 [t0,t1] L Q:=
 fs [] [] [] [] Tryz.func74 h
def ur(Q:R)(a c:AV)(d:SH):Prop:=W.store 4 a c d λb=>W.load true 4 a b λe=>Q e b
def ut(Q:R)(a b:AV)(c:SH):Prop:=wc (.fn 26 []) [b] c (ur Q a)
def uu(Q:R)(a c:AV)(d:SH):Prop:=W.store 4 a c d λb=>W.load true 4 a b λe=>Q e b
def uv(Q:R)(b c d:AV)(a:SH):Prop:=wv 1 b d a λe=>wc (.fn 73 []) [e] a (uu Q c)
def uw(Q:R)(a c:AV)(d:SH):Prop:=W.bslice 4 [(.W6 0),(.W6 0),(.str []),.nils] 1 [(0,c)] d λe f=>W.build [(.W6 0),(.W6 0),(.str []),.nils] [(0,1,(.W6 3)),(2,1,(.str [113])),(3,1,e)] λg=>W.store 4 a g f λb=>W.load true 4 a b λh=>Q h b
def ux(Q:R)(c:SH)(a d:AV)(e:SH)(f:Ns):Prop:=wn [] f [] c.names λh=>ds [] 19 4 a d e λb i=>W.load true 4 a b λg=>Q g b
def uy(Q:R)(b:SH)(c d e f:AV)(a:SH)(g:Ns):Prop:=wn [] g [] b.names λh=>wd [] 18 (.fn 72 []) [c,d,f] a (ux Q a e)
def uz(Q:R)(b:SH)(c d e f:AV)(g h:Fp)(i:AV)(a:SH)(j:Ns):Prop:=wn [] j [] b.names λl=>wb .sub 3 c (.W6 1) λk=>wd [rm 9 g,rm 8 h] 17 (.fn 71 []) [d,k] a (uy Q a e i f)
def uA(Q:R)(f:SH)(b c g h i:AV)(a:SH)(j:Ns):Prop:=wn [] j [] f.names λn=>di [] 8 1 g i a λk d=>dl [] 9 k a λl e=>wb .sub 3 b (.W6 1) λm=>wd [rm 9 e,rm 8 d] 13 (.fn 71 []) [c,m] a (uz Q a b c l h e d)
def uB(Q:R)(d:SH)(b e f:AV):Prop:=W.bslice 1 [(.W6 0)] 6 [(0,(.W6 6)),(1,(.W6 7)),(2,(.W6 8)),(3,(.W6 11)),(4,(.W6 13)),(5,(.W6 17))] d λc a=>(true=true)∧(W.nilchk b λg=>aL 0 g [] 4 a λh j=>W.len c λi=>wd [] 7 (.fn 23 []) [h,i] a (uA Q a e b c f))
def uC(Q:R)(a:SH)(b f d e c:AV):Prop:=wb .lss 3 d (.W6 7) λg=>wk g (dK 0 b a λh=>W.len e λi=>wc (.fn 23 []) [h,i] a (uv Q e c)) (wb .eql 3 d (.W6 7) λj=>wk j (wc (.fn 71 []) [b,(.W6 0)] a (uw Q c)) ((uB Q a b f c)))
def uD(Q:R)(e f g h b:AV)(i:SH):Prop:=wb .lss 3 b (.W6 2) λa=>bD a false e i λj k=>wg a false (wb .eql 3 j (.W6 0)) k λl m=>bD a false l m λc n=>bD c true b n λo p=>wg c true (wb .geq 3 o (.W6 7)) p λq r=>wg a false (W.pick c q (.bool false)) r λs d=>W.pick a (.bool true) s λt=>wk t (dK 0 f d λu=>wc (.fn 23 []) [u,(.W6 4)] d (ut Q g)) ((uC Q d f e b h g))
def ge(a c:AV)(L:SH)(Q:R):Prop:=W.alloc [(.W6 0),(.W6 0),(.str []),.nils] L λd e=>W.bslice 1 [(.str [])] 7 [(0,(.str [97])),(1,(.str [98])),(2,(.str [120])),(3,(.str [121])),(4,(.str [118])),(5,(.str [120])),(6,(.str [121]))] e λf b=>dK 0 a b λg=>wc (.fn 23 []) [g,(.W6 10)] b (uD Q c a d f)
theorem jC(t0 t1:AV)(L:SH)(Q:R)(h:ge t0 t1 L Q):af Tryz.prog 71 [t0,t1] L Q:=
 fs [] [] [] [(10,[0,0,2,6,14,0,32,126,255,511,0,0,2048,7422,0,0,32768,130302,262143,524287])] Tryz.func71 h
def iI(Q:R)(b d:AV)(a:SH):Prop:=(true=true)∧(W.nilchk b λe=>aL 7 e [] 4 a λc f=>W.nilchk b λg=>aL 7 g [rm 4 f] 8 a λh o=>W.len h λi=>wb .sub 3 i (.W6 1) λj=>W.calm [] ⟨11,(dq c),[],[],false,[]⟩ (W.slice 1 c none (some j) none a λk=>wn (dq c) [] [] [] λp=>W.nilchk b λl=>W.faddr 7 l λm=>ds [] 14 1 m k a λn q=>Q d n))
def qV(Q:R)(a b c:AV)(d:SH):Prop:=wb .add 3 (.W6 1) c λe=>wc (.fn 24 []) [a,b,e] d (iI Q a)
def jD(a c d:AV)(L:SH)(Q:R):Prop:=dK 7 a L λe=>W.bslice 1 [(.str [])] 1 [(0,c)] L λf g=>W.append 1 16 e f g λh i=>W.nilchk a λj=>W.faddr 7 j λk=>W.store 1 k h i λb=>dK 0 a b λl=>wc (.fn 23 []) [l,(.W6 2)] b (qV Q a d)
theorem qW(t0 t1 t2:AV)(L:SH)(Q:R)(h:jD t0 t1 t2 L Q):af Tryz.prog 75 [t0,t1,t2] L Q:=
 fs [] [] [] [(3,[0,0,2,6,14,0,32,96,224,480,992,2046,4095,8191,16383])] Tryz.func75 h
def qX(a:Kn)(b c d e f g:AV)(h:SH):Prop:=W.bslice 11 [(.W6 0),(.W6 0),(.str []),(.str []),.nils,(.W6 0),(.W6 0),(.str []),.nils,.nils,.nils] 1 [(0,g)] h λi j=>W.append 11 176 b i j λk l=>wb .add 3 c (.W6 1) λm=>a [d,e,f,k,m] l
def iJ(Q:R)(j:Vs)(k:SH)(l:Kn):Prop:=Hl 0 1 2 7 8 j λc e f g d=>wb .lss 3 d f λb=>bD b true d k λm n=>wg b true (wb .eql 3 m (.W6 0)) n λo p=>bD b true o p λa q=>bD a false c q λr s=>wg a false (W.nilchk r) s λt u=>wg a false (W.faddr 2 t) u λv h=>wg a false (wl v h) h λw x=>wg a false (wb .gtr 3 w (.W6 0)) x λy z=>wg b true (W.pick a (.bool true) y) z λA i=>W.pick b A (.bool false) λB=>wk B (wc (.fn 45 []) [c,e] i (qX l g d c e f)) (Q g i)
def jE(a b c:AV)(L:SH)(Q:R):Prop:=W.loop (iJ Q) [a,b,c,.nils,(.W6 0)] L
theorem qY(t0 t1 t2:AV)(L:SH)(Q:R)(h:jE t0 t1 t2 L Q):af Tryz.prog 24 [t0,t1,t2] L Q:=
 fs [] [(3,[0,1,2,7,8])] [] [] Tryz.func24 h
def uE(Q:R)(c:SH)(a d:AV)(e:SH)(f:Ns):Prop:=wn [] f [] c.names λh=>ds [] 7 11 a d e λb i=>W.load true 11 a b λg=>Q g b
def uF(Q:R)(b:SH)(c d e:AV)(a:SH)(f:Ns):Prop:=wn [] f [] b.names λg=>wd [] 6 (.fn 25 []) [c,e] a (uE Q a d)
def jF(Q:R)(c:SH)(d e f:AV):Prop:=(true=true)∧(W.calm [] ⟨0,[],[],[],false,[]⟩ (W.bslice 1 [(.str [])] 4 [(0,(.str [120])),(1,(.str [121])),(2,(.str [120])),(3,(.str [118]))] c λb a=>wn [] [] (aa b) [] λg=>di [] 2 1 b e a λh i=>dl [] 3 h a λj k=>wd [rm 3 k,rm 2 i,rm 0 g] 5 (.fn 71 []) [d,(.W6 1)] a (uF Q a j f)))
def uG(Q:R)(c:SH)(a d:AV)(e:SH)(f:Ns):Prop:=wn [] f [] c.names λh=>ds [] 11 11 a d e λb i=>W.load true 11 a b λg=>Q g b
def uH(Q:R)(b:SH)(c d e:AV)(a:SH)(f:Ns):Prop:=wn [] f [] b.names λg=>wd [] 10 (.fn 25 []) [c,e] a (uG Q a d)
def uI(Q:R)(b:SH)(c d e:AV)(f:Fp)(g:AV)(a:SH)(h:Ns):Prop:=wn [] h [] b.names λm=>di [] 6 1 d g a λi j=>dl [] 7 i a λk l=>wd [rm 7 l,rm 6 j,rm 0 f] 9 (.fn 71 []) [c,(.W6 1)] a (uH Q a k e)
def jG(Q:R)(e:SH)(c f:AV):Prop:=(true=true)∧(W.calm [] ⟨0,[],[],[],false,[]⟩ (W.bslice 1 [(.str [])] 2 [(0,(.str [97])),(1,(.str [98]))] e λd a=>wn [] [] (aa d) [] λb=>W.nilchk c λg=>aL 0 g [rm 0 b] 4 a λh i=>wd [rm 0 b] 5 (.fn 23 []) [h,(.W6 2)] a (uI Q a c d f b)))
def uJ(Q:R)(c a d:AV)(e:SH):Prop:=W.build [(.W6 0),(.W6 0),(.str []),(.str []),.nils,(.W6 0),(.W6 0),(.str []),.nils,.nils,.nils] [(0,1,(.W6 1)),(2,1,(.str [113])),(4,1,c),(5,4,d)] λf=>W.store 11 a f e λb=>W.load true 11 a b λg=>Q g b
def uK(Q:R)(a b c:AV)(d:SH):Prop:=W.bslice 4 [(.W6 0),(.W6 0),(.str []),.nils] 1 [(0,c)] d λe f=>wc (.fn 71 []) [a,(.W6 1)] f (uJ Q e b)
def uL(Q:R)(a b e:AV)(f:SH):Prop:=W.faddr 10 a λg=>W.store 1 g e f λc=>bY 11 a c λh=>W.store 11 b h c λd=>W.load true 11 b d λi=>Q i d
def uM(Q:R)(e f c a g:AV)(b:SH):Prop:=wb .eql 3 g (.W6 1) λh=>wk h (wb .sub 3 e (.W6 1) λi=>wc (.fn 24 []) [f,i,(.W6 1)] b (uL Q c a)) (bY 11 c b λj=>W.store 11 a j b λd=>W.load true 11 a d λk=>Q k d)
def uN(Q:R)(a d e f g:AV)(h:SH):Prop:=W.build [(.W6 0),(.W6 0),(.str []),(.str []),.nils,(.W6 0),(.W6 0),(.str []),.nils,.nils,.nils] [(0,1,(.W6 2)),(5,4,e),(9,1,g)] λi=>W.alloc [(.W6 0),(.W6 0),(.str []),(.str []),.nils,(.W6 0),(.W6 0),(.str []),.nils,.nils,.nils] h λb j=>W.store 11 b i j λc=>dK 0 a c λk=>wc (.fn 23 []) [k,(.W6 2)] c (uM Q d a b f)
def qZ(Q:R)(a b c d:AV)(e:SH):Prop:=wb .sub 3 a (.W6 1) λf=>wc (.fn 24 []) [b,f,(.W6 1)] e (uN Q b a d c)
def q6(Q:R)(d e f g a h:AV)(i:SH):Prop:=W.bslice 11 [(.W6 0),(.W6 0),(.str []),(.str []),.nils,(.W6 0),(.W6 0),(.str []),.nils,.nils,.nils] 1 [(0,h)] i λj k=>W.append 11 176 e j k λl m=>W.build [(.W6 0),(.W6 0),(.str []),(.str []),.nils,(.W6 0),(.W6 0),(.str []),.nils,.nils,.nils] [(0,1,(.W6 3)),(5,4,f),(9,1,l)] λn=>qr [(.W6 0),(.W6 0),(.str []),(.str []),.nils,(.W6 0),(.W6 0),(.str []),.nils,.nils,.nils] 11 n m λo p=>W.nilchk d λq=>W.faddr 6 q λr=>W.store 1 r g p λb=>bY 11 o b λs=>W.store 11 a s b λc=>W.load true 11 a c λt=>Q t c
def q7(Q:R)(a b c d e f:AV)(g:SH):Prop:=wc (.fn 25 []) [(.str [98]),f] g (q6 Q a b c d e)
def q8(Q:R)(a b c d e f g:AV)(h:SH):Prop:=wc (.fn 72 []) [(.W6 6),b,g] h (q7 Q a c d e f)
def q9(Q:R)(a b c d e f:AV)(g:SH):Prop:=wc (.fn 26 []) [(.W6 1)] g (q8 Q a f b c d e)
def re(Q:R)(a b c d e:AV)(f:SH):Prop:=wc (.fn 73 []) [(.str [98])] f (q9 Q a e b c d)
def rh(Q:R)(b a c d e:AV)(f:SH):Prop:=wb .sub 3 b (.W6 1) λg=>wc (.fn 24 []) [a,g,(.W6 1)] f (re Q a e c d)
def ri(Q:R)(a b c d e f:AV)(g:SH):Prop:=wc (.fn 72 []) [(.W6 13),c,f] g (rh Q a b d e)
def rj(Q:R)(a b c d e:AV)(f:SH):Prop:=wc (.fn 26 []) [(.W6 2)] f (ri Q a b e c d)
def uO(Q:R)(b:SH)(a c d:AV):Prop:=dK 6 a b λe=>W.nilchk a λf=>W.faddr 6 f λg=>W.store 1 g (.bool true) b λh=>wc (.fn 73 []) [(.str [98])] h (rj Q c a e d)
def rk(Q:R)(c a d:AV)(e:SH):Prop:=W.build [(.W6 0),(.W6 0),(.str []),(.str []),.nils,(.W6 0),(.W6 0),(.str []),.nils,.nils,.nils] [(0,1,(.W6 4)),(2,1,c),(9,1,d)] λf=>W.store 11 a f e λb=>W.load true 11 a b λg=>Q g b
def uP(Q:R)(c:SH)(d e f g:AV):Prop:=W.bslice 1 [(.str [])] 2 [(0,(.str [109])),(1,(.str [110]))] c λh a=>wb .sub 3 f (.W6 8) λi=>wv 1 h i a λb=>wb .sub 3 d (.W6 1) λj=>wc (.fn 75 []) [e,b,j] a (rk Q b g)
def rl(Q:R)(c a d:AV)(e:SH):Prop:=W.build [(.W6 0),(.W6 0),(.str []),(.str []),.nils,(.W6 0),(.W6 0),(.str []),.nils,.nils,.nils] [(0,1,c),(2,1,(.str [114])),(9,1,d)] λf=>W.store 11 a f e λb=>W.load true 11 a b λg=>Q g b
def uQ(Q:R)(a:SH)(b c d e:AV):Prop:=wb .sub 3 d (.W6 10) λf=>wb .add 3 f (.W6 5) λg=>wb .sub 3 b (.W6 1) λh=>wc (.fn 75 []) [c,(.str [114]),h] a (rl Q g e)
def rn(Q:R)(d a e:AV)(f:SH):Prop:=W.build [(.W6 0),(.W6 0),(.str []),(.str []),.nils,(.W6 0),(.W6 0),(.str []),.nils,.nils,.nils] [(0,1,(.W6 7)),(9,1,e)] λg=>qr [(.W6 0),(.W6 0),(.str []),(.str []),.nils,(.W6 0),(.W6 0),(.str []),.nils,.nils,.nils] 11 g f λh i=>W.nilchk d λj=>W.faddr 4 j λk=>W.store 1 k (.bool false) i λb=>bY 11 h b λl=>W.store 11 a l b λc=>W.load true 11 a c λm=>Q m c
def rq(Q:R)(a b c:AV)(d:SH):Prop:=wb .add 3 (.W6 1) c λe=>wc (.fn 24 []) [a,(.W6 0),e] d (rn Q a b)
def uR(Q:R)(c:SH)(a d:AV):Prop:=W.nilchk a λe=>W.faddr 4 e λf=>W.store 1 f (.bool true) c λb=>dK 0 a b λg=>wc (.fn 23 []) [g,(.W6 2)] b (rq Q a d)
def rr(Q:R)(d a e:AV)(f:SH):Prop:=W.build [(.W6 0),(.W6 0),(.str []),(.str []),.nils,(.W6 0),(.W6 0),(.str []),.nils,.nils,.nils] [(0,1,(.W6 8)),(9,1,e)] λg=>qr [(.W6 0),(.W6 0),(.str []),(.str []),.nils,(.W6 0),(.W6 0),(.str []),.nils,.nils,.nils] 11 g f λh i=>W.nilchk d λj=>W.faddr 5 j λk=>W.store 1 k (.bool false) i λb=>bY 11 h b λl=>W.store 11 a l b λc=>W.load true 11 a c λm=>Q m c
def uS(Q:R)(b:SH)(a c d:AV):Prop:=W.nilchk a λe=>W.faddr 5 e λf=>W.store 1 f (.bool true) b λg=>wb .sub 3 c (.W6 1) λh=>wc (.fn 24 []) [a,h,(.W6 2)] g (rr Q a d)
def rt(Q:R)(c a d:AV)(e:SH):Prop:=W.bslice 11 [(.W6 0),(.W6 0),(.str []),(.str []),.nils,(.W6 0),(.W6 0),(.str []),.nils,.nils,.nils] 2 [(0,c),(1,d)] e λf g=>W.build [(.W6 0),(.W6 0),(.str []),(.str []),.nils,(.W6 0),(.W6 0),(.str []),.nils,.nils,.nils] [(0,1,(.W6 4)),(2,1,(.str [109])),(9,1,f)] λh=>W.store 11 a h g λb=>W.load true 11 a b λi=>Q i b
def ru(Q:R)(a b c:AV)(d:SH):Prop:=wc (.fn 25 []) [(.str [97]),c] d (rt Q a b)
def uT(Q:R)(a:SH)(b:AV):Prop:=W.build [(.W6 0),(.W6 0),(.str []),(.str []),.nils,(.W6 0),(.W6 0),(.str []),.nils,.nils,.nils] [(0,1,(.W6 9)),(2,1,(.str [99]))] λc=>wc (.fn 73 []) [(.str [120])] a (ru Q c b)
def rv(Q:R)(a c:AV)(d:SH):Prop:=wb .add 3 (.W6 10) c λe=>W.build [(.W6 0),(.W6 0),(.str []),(.str []),.nils,(.W6 0),(.W6 0),(.str []),.nils,.nils,.nils] [(0,1,e),(2,1,(.str [99]))] λf=>W.bslice 11 [(.W6 0),(.W6 0),(.str []),(.str []),.nils,(.W6 0),(.W6 0),(.str []),.nils,.nils,.nils] 1 [(0,f)] d λg h=>W.build [(.W6 0),(.W6 0),(.str []),(.str []),.nils,(.W6 0),(.W6 0),(.str []),.nils,.nils,.nils] [(0,1,(.W6 4)),(2,1,(.str [109])),(9,1,g)] λi=>W.store 11 a i h λb=>W.load true 11 a b λj=>Q j b
def rx(Q:R)(a c:AV)(d:SH):Prop:=W.build [(.W6 0),(.W6 0),(.str []),(.str []),.nils,(.W6 0),(.W6 0),(.str []),.nils,.nils,.nils] [(0,1,(.W6 14)),(2,1,(.str [102])),(5,4,c)] λe=>W.store 11 a e d λb=>W.load true 11 a b λf=>Q f b
def uU(Q:R)(b:SH)(a c:AV):Prop:=W.nilchk a λd=>W.faddr 3 d λe=>W.store 1 e (.bool true) b λf=>wc (.fn 71 []) [a,(.W6 1)] f (rx Q c)
def uV(Q:R)(c:SH)(a:AV):Prop:=W.build [(.W6 0),(.W6 0),(.str []),(.str []),.nils,(.W6 0),(.W6 0),(.str []),.nils,.nils,.nils] [(0,1,(.W6 15)),(2,1,(.str [97])),(3,1,(.str [102]))] λd=>W.store 11 a d c λb=>W.load true 11 a b λe=>Q e b
def ry(Q:R)(a c:AV)(d:SH):Prop:=W.store 11 a c d λb=>W.load true 11 a b λe=>Q e b
def rB(Q:R)(a b:AV)(c:SH):Prop:=wc (.fn 25 []) [(.str [120]),b] c (ry Q a)
def rC(Q:R)(i:SH)(c j d:AV):Prop:=wb .eql 3 j (.W6 17) λb=>bD b true c i λk l=>wg b true (W.nilchk k) l λm n=>wg b true (W.faddr 4 m) n λo e=>wg b true (wl o e) e λp q=>wg b true (W.un .not p) q λr s=>W.pick b r (.bool false) λa=>bD a true c s λt u=>wg a true (W.nilchk t) u λv w=>wg a true (W.faddr 0 v) w λx f=>wg a true (wl x f) f λy g=>W.grd a true (λz=>wc (.fn 23 []) [y,(.W6 2)] g λA B=>z A B) g λC D=>wg a true (wb .eql 3 C (.W6 1)) D λE h=>W.pick a E (.bool false) λF=>wk F ((uV Q h d)) (wc (.fn 71 []) [c,(.W6 1)] h (rB Q d))
def rD(Q:R)(k:SH)(d e f:AV):Prop:=wb .eql 3 e (.W6 16) λa=>bD a true d k λl m=>wg a true (W.nilchk l) m λn o=>wg a true (W.faddr 4 n) o λp g=>wg a true (wl p g) g λq r=>wg a true (W.un .not q) r λs t=>W.pick a s (.bool false) λb=>bD b true d t λu v=>wg b true (W.nilchk u) v λw x=>wg b true (W.faddr 6 w) x λy h=>wg b true (wl y h) h λz A=>wg b true (W.un .not z) A λB C=>W.pick b B (.bool false) λc=>bD c true d C λD E=>wg c true (W.nilchk D) E λF G=>wg c true (W.faddr 3 F) G λH i=>wg c true (wl H i) i λI J=>wg c true (W.un .not I) J λM j=>W.pick c M (.bool false) λN=>wk N ((uU Q j d f)) ((rC Q j d e f))
def rE(Q:R)(h:SH)(b d i e:AV):Prop:=wb .eql 3 d (.W6 15) λf=>bD f true i h λj k=>W.pick f j (.bool false) λa=>bD a true b k λl g=>W.grd a true (λm=>wc (.fn 74 []) [l,(.str [109])] g λn o=>m n o) g λp q=>wg a true (W.un .not p) q λr c=>W.pick a r (.bool false) λs=>wk s (dK 0 b c λt=>wc (.fn 23 []) [t,(.W6 2)] c (rv Q e)) ((rD Q c b d e))
def rF(Q:R)(k:SH)(c d e f:AV):Prop:=wb .eql 3 d (.W6 14) λg=>bD g true e k λl m=>W.pick g l (.bool false) λa=>bD a true c m λn o=>wg a true (W.nilchk n) o λp q=>wg a true (W.faddr 5 p) q λr h=>wg a true (wl r h) h λs t=>wg a true (W.un .not s) t λu v=>W.pick a u (.bool false) λb=>bD b true c v λw i=>W.grd b true (λx=>wc (.fn 74 []) [w,(.str [109])] i λy z=>x y z) i λA B=>wg b true (W.un .not A) B λC j=>W.pick b C (.bool false) λD=>wk D ((uT Q j f)) ((rE Q j c d e f))
def rG(Q:R)(i:SH)(b j c d e:AV):Prop:=wb .eql 3 c (.W6 13) λf=>bD f true d i λk l=>W.pick f k (.bool false) λa=>bD a true b l λm n=>wg a true (W.nilchk m) n λo p=>wg a true (W.faddr 5 o) p λq g=>wg a true (wl q g) g λr s=>wg a true (W.un .not r) s λt h=>W.pick a t (.bool false) λu=>wk u ((uS Q h b j e)) ((rF Q h b c d e))
def rH(Q:R)(g:SH)(a h b c d:AV):Prop:=wb .eql 3 b (.W6 12) λe=>bD e true c g λi f=>W.pick e i (.bool false) λj=>wk j ((uR Q f a d)) ((rG Q f a h b c d))
def rI(Q:R)(k:SH)(c e a f g:AV):Prop:=wb .eql 3 a (.W6 10) λd=>bD d false a k λl m=>wg d false (wb .eql 3 l (.W6 11)) m λn o=>W.pick d (.bool true) n λh=>bD h true f o λp q=>W.pick h p (.bool false) λb=>bD b true c q λr i=>W.grd b true (λs=>wc (.fn 74 []) [r,(.str [114])] i λt u=>s t u) i λv w=>wg b true (W.un .not v) w λx j=>W.pick b x (.bool false) λy=>wk y ((uQ Q j e c a g)) ((rH Q j c e a f g))
def rJ(Q:R)(n:SH)(c e b f g:AV):Prop:=wb .eql 3 b (.W6 8) λd=>bD d false b n λo p=>wg d false (wb .eql 3 o (.W6 9)) p λq r=>W.pick d (.bool true) q λh=>bD h true f r λs t=>W.pick h s (.bool false) λa=>bD a true c t λu i=>W.grd a true (λv=>W.bslice 1 [(.str [])] 2 [(0,(.str [109])),(1,(.str [110]))] i λw x=>v w x) i λy z=>bD a true b z λA B=>wg a true (wb .sub 3 A (.W6 8)) B λC j=>wg a true (W.idx 1 y C j) j λD k=>wg a true (wl D k) k λE l=>W.grd a true (λF=>wc (.fn 74 []) [u,E] l λG H=>F G H) l λI J=>wg a true (W.un .not I) J λM m=>W.pick a M (.bool false) λN=>wk N ((uP Q m e c b g)) ((rI Q m c e b f g))
def rK(Q:R)(g:SH)(a c d e h:AV):Prop:=wb .eql 3 d (.W6 7) λb=>bD b true a g λi j=>wg b true (wb .gtr 3 i (.W6 0)) j λk f=>W.pick b k (.bool false) λl=>wk l ((uO Q f c a e)) ((rJ Q f c a d h e))
def rL(Q:R)(g:SH)(a b d e h:AV):Prop:=wb .eql 3 d (.W6 6) λc=>bD c true a g λi j=>wg c true (wb .gtr 3 i (.W6 0)) j λk f=>W.pick c k (.bool false) λl=>wk l (wc (.fn 71 []) [b,(.W6 1)] f (qZ Q a b e)) ((rK Q f a b d e h))
def iK(Q:R)(b:SH)(a e c d f:AV):Prop:=wb .eql 3 c (.W6 5) λg=>wk g (wc (.fn 71 []) [a,(.W6 0)] b (uK Q a d)) ((rL Q b e a c d f))
def rM(Q:R)(g c e d:AV)(j:SH):Prop:=wb .gtr 3 g (.W6 0) λa=>bD a true c j λk l=>wg a true (W.nilchk k) l λm n=>wg a true (W.faddr 2 m) n λo h=>wg a true (wl o h) h λp q=>wg a true (wb .gtr 3 p (.W6 0)) q λr s=>W.pick a r (.bool false) λb=>bD b true c s λt u=>wg b true (W.nilchk t) u λv w=>wg b true (W.faddr 4 v) w λx i=>wg b true (wl x i) i λy z=>wg b true (W.un .not y) z λA f=>W.pick b A (.bool false) λB=>wb .lss 3 d (.W6 4) λC=>wk C ((jF Q f c d e)) (wb .eql 3 d (.W6 4) λD=>wk D ((jG Q f c e)) ((iK Q f c g d e B)))
def gf(a d:AV)(L:SH)(Q:R):Prop:=W.alloc [(.W6 0),(.W6 0),(.str []),(.str []),.nils,(.W6 0),(.W6 0),(.str []),.nils,.nils,.nils] L λe b=>dK 2 a b λf=>wb .sub 3 f (.W6 1) λg=>W.nilchk a λh=>W.faddr 2 h λi=>W.store 1 i g b λc=>dK 0 a c λj=>wc (.fn 23 []) [j,(.W6 18)] c (rM Q d a e)
theorem jH(t0 t1:AV)(L:SH)(Q:R)(h:gf t0 t1 L Q):af Tryz.prog 45 [t0,t1] L Q:=
 fs [] [] [(18,[9]),(28,[11]),(33,[12])] [(5,[0,0,3,7,0,16,63,127]),(7,[0,0,2,6,14,30,63,127,0,318,1023,2047])] Tryz.func45 h
def Cd(c:Kn)(d:Vs)(a:SH):Prop:=Nt 2 3 4 5 6 7 8 d λe f b g h i j=>aA 1 b a λk=>bY 4 j a λl=>W.bslice 4 [(.str []),(.W6 0),.nils,.nils] 1 [(0,l)] a λm n=>W.append 4 72 k m n λo p=>W.faddr 1 b λq=>W.store 1 q o p λr=>wb .add 3 i (.W6 1) λs=>c [e,f,b,g,h,s] r
def Ce(h:Kn)(b:SH)(d f i j k l m:AV):Prop:=(true=true)∧(aL 3 d [] 1 b λa e=>di [rm 1 e] 3 1 f (.W6 1) b λn u=>dl [rm 1 e] 4 n b λo v=>W.build [(.W6 0),(.W6 0),(.str []),(.str []),.nils,(.W6 0),(.W6 0),(.str []),.nils,.nils,.nils] [(0,1,(.W6 13)),(2,1,o)] λp=>W.calm [rm 1 e] ⟨6,[],[],[],false,[]⟩ (W.bslice 11 [(.W6 0),(.W6 0),(.str []),(.str []),.nils,(.W6 0),(.W6 0),(.str []),.nils,.nils,.nils] 1 [(0,p)] b λc q=>wn [] [] (aa c) [] λw=>W.calm [] ⟨7,(aa a++aa c),(aa a),[],false,[]⟩ (W.append 11 176 a c q λg r=>wn (aa a++aa c) (aa a) (aa g) [] λx=>W.faddr 3 d λs=>ds [] 9 1 s g r λt y=>h [i,j,k,l,f,m,d] t)))
def Cf(p:Kn)(q:SH)(b c d e g h i j f:AV)(r:SH)(s:Ns):Prop:=wn [] s [] q.names λJ=>W.calm [] ⟨10,(aa b++aa f),(aa b),[],false,[]⟩ (W.append 11 176 b f r λk t=>wn (aa b++aa f) (aa b) (aa k) [] λM=>W.faddr 3 c λu=>ds [] 12 1 u k t λv N=>W.join (Cd p) λl=>wb .eql 3 d (.W6 0) λa=>bD a true e v λw x=>wg a true (W.nilchk w) x λy z=>wg a true (W.faddr 0 y) z λA m=>wg a true (wl A m) m λB n=>W.grd a true (λC=>wc (.fn 23 []) [B,(.W6 3)] n λD E=>C D E) n λF G=>wg a true (wb .eql 3 F (.W6 2)) G λH o=>W.pick a H (.bool false) λI=>wk I ((Ce l o c g h e i j d)) (l [h,e,i,j,g,d,c] o))
def Cg(c:Kn)(d:SH)(a e f g h i j k:AV)(l:Fp)(m:AV)(b:SH)(n:Ns):Prop:=wn [] n [] d.names λp=>wb .add 3 (.W6 1) m λo=>wd [rm 1 l] 9 (.fn 24 []) [a,(.W6 2),o] b (Cf c b e f g a h i j k)
def bW(e:Kn)(f:Vs)(a:SH):Prop:=Nt 2 3 4 5 6 7 8 f λg c h i j k d=>(true=true)∧(aL 3 d [] 1 a λl b=>W.nilchk c λm=>aL 0 m [rm 1 b] 6 a λn o=>wd [rm 1 b] 7 (.fn 23 []) [n,(.W6 3)] a (Cg e a c l d k j g h i b))
def Ch(i:Kn)(b:SH)(d f g j k l m n:AV):Prop:=(true=true)∧(aL 3 d [] 1 b λa e=>di [rm 1 e] 4 1 f g b λo w=>dl [rm 1 e] 5 o b λp x=>W.build [(.W6 0),(.W6 0),(.str []),(.str []),.nils,(.W6 0),(.W6 0),(.str []),.nils,.nils,.nils] [(0,1,(.W6 12)),(2,1,p)] λq=>W.calm [rm 1 e] ⟨7,[],[],[],false,[]⟩ (W.bslice 11 [(.W6 0),(.W6 0),(.str []),(.str []),.nils,(.W6 0),(.W6 0),(.str []),.nils,.nils,.nils] 1 [(0,q)] b λc r=>wn [] [] (aa c) [] λy=>W.calm [] ⟨8,(aa a++aa c),(aa a),[],false,[]⟩ (W.append 11 176 a c r λh s=>wn (aa a++aa c) (aa a) (aa h) [] λz=>W.faddr 3 d λt=>ds [] 10 1 t h s λu A=>wb .add 3 g (.W6 1) λv=>i [j,k,l,m,f,n,d,v] u)))
def ir(j:Kn)(k:Vs)(b:SH)(l:Kn):Prop:=Ry 2 3 4 5 6 7 8 9 k λc d e a f g h i=>wb .lss 3 i a λm=>wk m ((Ch l b h f i c d e a g)) (j [c,d,e,a,f,g,h] b)
def Ci(k:Kn)(l:SH)(b a c e f g:AV):Prop:=W.nilchk b λm=>W.faddr 1 m λn=>W.store 1 n a l λh=>wv 1 c a h λo=>W.bslice 1 [(.str [])] 2 [(0,(.str [97])),(1,(.str [98]))] h λp q=>W.build [(.str []),(.W6 0),.nils,.nils] [(0,1,o),(2,1,p)] λr=>W.alloc [(.str []),(.W6 0),.nils,.nils] q λd s=>W.store 4 d r s λi=>W.join (bW k) λj=>wb .eql 3 a (.W6 0) λt=>wk t (W.loop (ir j) [e,b,f,g,c,a,d,(.W6 1)] i) (j [e,b,f,g,c,a,d] i)
def Cj(Q:R)(c d a e:AV)(f:SH):Prop:=W.bslice 11 [(.W6 0),(.W6 0),(.str []),(.str []),.nils,(.W6 0),(.W6 0),(.str []),.nils,.nils,.nils] 1 [(0,e)] f λg h=>W.build [(.str []),(.W6 0),.nils,.nils] [(0,1,(.str [109,97,105,110])),(2,1,c),(3,1,g)] λi=>W.bslice 4 [(.str []),(.W6 0),.nils,.nils] 1 [(0,i)] h λj k=>W.build [.nils,.nils] [(0,1,d),(1,1,j)] λl=>W.store 2 a l k λb=>W.load true 2 a b λm=>Q m b
def Ck(Q:R)(a b c d:AV)(e:SH):Prop:=wc (.fn 25 []) [(.str [120]),d] e (Cj Q a b c)
def Cl(Q:R)(a b:AV)(c:SH):Prop:=W.bslice 1 [(.str [])] 2 [(0,(.str [97])),(1,(.str [98]))] c λd e=>wc (.fn 26 []) [(.W6 1)] e (Ck Q d b a)
def Cm(Q:R)(a e c:AV)(b:SH):Prop:=W.ext 0 c λf=>W.ext 1 c λj=>wb .neq 59 f (.W6 0) λg=>wk g (wc (.fn 22 []) [] b (Cl Q a)) (bY 2 e b λh=>W.store 2 a h b λd=>W.load true 2 a d λi=>Q i d)
def fp(Q:R)(f:Vs)(a:SH)(g:Kn):Prop:=Ig 2 3 4 5 6 7 f λc h b d i e=>wb .lss 3 e d λj=>wk j ((Ci g a h e i c b d)) (bY 2 b a λk=>wc (.fn 17 []) [k] a (Cm Q c b))
def Ay(Q:R)(a b c d:AV)(e:SH):Prop:=wb .add 3 (.W6 2) d λf=>W.bslice 1 [(.str [])] 4 [(0,(.str [109,97,105,110])),(1,(.str [116,49])),(2,(.str [116,50])),(3,(.str [116,51]))] e λg h=>W.loop (fp Q) [a,b,c,f,g,(.W6 0)] h
def Az(Q:R)(a d e:AV)(f:SH):Prop:=W.build [.nils,.nils] [(0,1,e)] λg=>W.alloc [.nils,.nils] f λb h=>W.store 2 b g h λc=>dK 0 a c λi=>wc (.fn 23 []) [i,(.W6 3)] c (Ay Q d a b)
def qc(a:AV)(L:SH)(Q:R):Prop:=W.alloc [.nils,.nils] L λb c=>W.build [.nils,(.W6 0)] [(0,1,a)] λd=>W.box d c λe f=>W.build [.nilp,(.W6 0),(.W6 0),(.bool false),(.bool false),(.bool false),(.bool false),.nils] [(0,1,e),(2,1,(.W6 20))] λg=>W.box g f λh i=>wc (.fn 22 []) [] i (Az Q h b)
theorem Cn(t0:AV)(L:SH)(Q:R)(h:qc t0 L Q):af Tryz.prog 12 [t0] L Q:=
 fs [(13,[2,3,4,5,6,7,8]),(17,[2,3,4,5,6,7,8])] [(12,[2,3,4,5,6,7,8,9]),(6,[2,3,4,5,6,7])] [] [(14,[0,1,0,0,12,28,60,124,255,511,1023]),(15,[0,1,0,0,8,24,56,120,248,508,1023,2047,4095]),(17,[0,1,0,4,12,28,60,127,255,511])] Tryz.func12 h
def G7(Q:R)(b a:AV)(e:SH):Prop:=W.ext 0 a λf=>W.ext 1 a λj=>W.ext 2 a λk=>qr [.nils,.nils,.nils,.nils,.nils,.nils,.nils] 7 f e λg c=>bY 7 g c λh=>W.store 7 b h c λd=>W.load true 7 b d λi=>Q i d
def A7(a:AV)(L:SH)(Q:R):Prop:=W.alloc [.nils,.nils,.nils,.nils,.nils,.nils,.nils] L λb c=>wc (.fn 12 []) [a] c λd e=>wc (.fn 11 []) [d] e (G7 Q b)
theorem G8(t0:AV)(L:SH)(Q:R)(h:A7 t0 L Q):af Tryz.prog 6 [t0] L Q:=
 fs [] [] [(1,[3])] [] Tryz.func6 h
end
section
set_option maxRecDepth 100000
def aN(l:List UInt8)(at_:Nat):Blk:=⟨2,[[.lst (l.map fk),.W6 (at_:Int)]]⟩
theorem Lr(bt:Nat)(l:List UInt8)(a:Nat)(n:Int)(hl:l.length<2^40)(ha:a≤l.length):
  af Tryz.prog 23 [.ptr bt 0 0,.W6 n] [(bt,aN l a)] λu K=>∃r a':Nat,u=.W6 (r:Int)∧((r:Int)<n∨r=0)∧K=[(bt,aN l a')]∧a'≤l.length:=by
 unfold aN;refine ym _ _ _ _ ?_;unfold mf;generalize hQ:(λ(u:AV) (K:SH)=>∃r a':Nat,u=AV.W6 (r:Int)∧((r:Int)<n∨r=0)∧K=[(bt,(⟨2,[[.lst (l.map fk),.W6 (a':Int)]]⟩:Blk))]∧a'≤l.length)=Q;have hq:∀(r a':Nat),((r:Int)<n∨r=0)→a'≤l.length→Q (.W6 (r:Int)) [(bt,⟨2,[[.lst (l.map fk),.W6 (a':Int)]]⟩)]:=λr a' h1 h2=>by subst hQ;exact⟨r,a',rfl,h1,rfl,h2⟩
 clear hQ;rcases Vp a l.length with g|g
 ·have d1:decide ((l.length:Int)≤(a:Int))=false:=by simp;omega
  have hx:=aw (f:=fk) g;have e1:=aD g W1;have e2:IntKind.i64.wrap (((a+1:Nat):Int)-1)=(a:Int):=by rw[V9 _ W1];omega
  by_cases hn:n<1
  ·have d2:decide (n<1)=true:=by simpa using hn
   repeat' (first|refine st ?_|refine sb λnb_ hnb_=>?_|refine s2 (λh=>?_) λh=>?_|fail)
   exact hq 0 a (.inr rfl) ha
  ·have d2:decide (n<1)=false:=by simpa using hn
   have hn0:n≠0:=by omega
   repeat' (first|refine st ?_|refine sb λnb_ hnb_=>?_|refine s2 (λh=>?_) λh=>?_|fail)
   have hb:(l[a].toNat:Int)<256:=by have:=l[a].toNat_lt;omega
   have e3:IntKind.i64.wrap (l[a].toNat:Int)=(l[a].toNat:Int):=by rw[V9 _ W1]
   rw[e3];have h5:(l[a].toNat:Int).tmod n=(((l[a].toNat:Int).tmod n).toNat:Nat):=by have:=Int.tmod_nonneg n (Int.natCast_nonneg l[a].toNat);omega
   rw[h5];exact hq _ (a+1) (.inl (by rw[←h5];exact Int.tmod_lt_of_pos _ W1)) W1
 ·have d1:decide ((l.length:Int)≤(a:Int))=true:=by simp;omega
  repeat' (first|refine st ?_|refine sb λnb_ hnb_=>?_|refine s2 (λh=>?_) λh=>?_|fail)
  exact hq 0 a (.inr rfl) ha
def G9(n:Int):ao:=.mk 1 n [] []
def sF(s:aZ):ao:=.mk 2 0 s []
theorem Ha(n:Int):az Tryz.prog 26 [.W6 n] (.agg (G9 n).row):=by
 refine af.fz (I5 _ _ _ ?_);unfold Eo
 repeat' (first|refine st ?_|refine sb λnb_ hnb_=>?_|refine s2 (λh=>?_) λh=>?_|fail)
 exact⟨_,[],aG.all (Fz.aggs (.cons (.refl _) (.cons (.refl _) (.cons (.refl _) (.cons .nils .nil))))),rfl,rfl⟩
theorem yo(s:aZ):az Tryz.prog 73 [.str s] (.agg (sF s).row):=by
 refine af.fz (G6 _ _ _ ?_);unfold A6
 repeat' (first|refine st ?_|refine sb λnb_ hnb_=>?_|refine s2 (λh=>?_) λh=>?_|fail)
 exact⟨_,[],aG.all (Fz.aggs (.cons (.refl _) (.cons (.refl _) (.cons (.refl _) (.cons .nils .nil))))),rfl,rfl⟩
def Mp(op:Int)(a b:ao):ao:=.mk op 0 [] [a,b]
theorem Es(op:Int)(a b:ao):az Tryz.prog 72 [.W6 op,.agg a.row,.agg b.row] (.agg (Mp op a b).row):=by
 refine af.fz (Ep _ _ _ _ _ ?_);unfold sD
 repeat' (first|refine st ?_|refine sb λnb_ hnb_=>?_|refine s2 (λh=>?_) λh=>?_|fail)
 exact⟨_,[],aG.all (Fz.aggs (.cons (.refl _) (.cons (.refl _) (.cons (.refl _) (.cons (Fz.sls (l:=[a,b]) (f:=ao.enc) (size:=4) (rows:=[a.row,b.row]) (.head _) (by simp[ao.enc_row]) W5 rfl) .nil))))),rfl,rfl⟩
def jI:ao:=.mk 0 0 [] []
def cy(s:aZ)(e:ao):ab:=.mk 1 0 s [] [] e [] []
theorem cB(s:aZ)(e:ao):az Tryz.prog 25 [.str s,.agg e.row] (.agg (cy s e).row):=by
 refine af.fz (Er _ _ _ _ ?_);unfold sE
 repeat' (first|refine st ?_|refine sb λnb_ hnb_=>?_|refine s2 (λh=>?_) λh=>?_|fail)
 exact⟨_,[],aG.all (Fz.aggs (.cons (.refl _) (.cons (.refl _) (.cons (.refl _) (.cons (.refl _) (.cons .nils (.cons (.refl _) (.cons (.refl _) (.cons (.refl _) (.cons (.refl _) (.cons .nils (.cons .nils .nil)))))))))))),rfl,rfl⟩
def bA:List aF:=[⟨1,0,[120],0,0,[]⟩,⟨1,0,[121],0,1,[]⟩,⟨2,0,[118],0,0,[]⟩,⟨1,0,[113],2,0,[]⟩,⟨3,0,[109],0,0,[]⟩,⟨3,0,[110],0,0,[]⟩,⟨4,0,[114],0,0,[]⟩,⟨5,0,[99],0,0,[109]⟩,⟨6,0,[102],0,0,[]⟩]
theorem yp:az Tryz.prog 22 [] (.lst (bA.map aF.enc)):=by
 refine af.fz (Fm _ _ ?_);unfold yn
 repeat' (first|refine st ?_|refine sb λnb_ hnb_=>?_|refine s2 (λh=>?_) λh=>?_|fail)
 exact⟨_,[],aG.all (Fz.sls (l:=bA) (f:=aF.enc) (size:=6) (.head _) rfl W5 rfl),rfl,rfl⟩
theorem wz:(∀nm n,Dh 0 nm n=0)∧(∀nm n,Dh 1 nm n=0)∧(∀nm n,Dh 2 nm n=0)∧Dh 3 [113] (0+1)=0∧(∀op,Dh op [] (0+1+1)=z3 op)∧z0 1=0∧z0 2=0∧z0 3=0∧z0 6=0∧z0 13=0∧z3 6=0∧z3 13=0∧
  (∀n,zv 1 n=z0 n)∧(∀n,zv 2 n=z0 n)∧(∀n,zv 3 n=z0 n)∧(∀n,zv 14 n=z0 n)∧(∀n,zv 4 n=0)∧(∀n,zv 5 n=0)∧(∀n,zv 6 n=0)∧(∀n,zv 7 n=0)∧(∀n,zv 8 n=0)∧(∀n,zv 9 n=0)∧(∀n,zv 12 n=0)∧(∀n,zv 13 n=0)∧(∀n,zv 15 n=0)∧
  (∀nm,zi nm 0=0)∧zi [113] (0+1)=0∧(∀op n nm l,ao.wt (.mk op n nm l)=1+nm.length+Dh op nm l.length+ao.wts l)∧ao.wts []=0∧(∀x l,ao.wts (x::l)=x.wt+z0 x.op+ao.wts l)∧
  (∀op line nm arg ix e body els,ab.wt (.mk op line nm arg ix e body els)=1+nm.length+arg.length+ao.wts ix+e.wt+zv op e.op+zi nm ix.length+ab.wts body+ab.wts els)∧ab.wts []=0∧(∀x l,ab.wts (x::l)=x.wt+ab.wts l)∧
  (∀a b c l,ao.op (.mk a b c l)=a)∧(∀n,G9 n=.mk 1 n [] [])∧(∀s,sF s=.mk 2 0 s [])∧(∀op a b,Mp op a b=.mk op 0 [] [a,b])∧jI=.mk 0 0 [] []∧(∀s e,cy s e=.mk 1 0 s [] [] e [] []):=by
 refine⟨?_,?_,?_,?_,?_,?_,?_,?_,?_,?_,?_,?_,?_,?_,?_,?_,?_,?_,?_,?_,?_,?_,?_,?_,?_,?_,?_,?_,?_,?_,?_,?_,?_,?_,?_,?_,?_,?_,?_⟩
 all_goals first
  |rfl
  |(intros;rfl)
  |(intros;simp[Dh,z3,zi])
theorem SX{P:Prop}(h:P:=by simp only[wz,VI,VR];omega):P:=h
theorem Uw{r:Nat}(h:(r:Int)<6∨r=0):z0 (([6,7,8,11,13,17]:List Int).getD r 0)=0∧z3 (([6,7,8,11,13,17]:List Int).getD r 0)=0:=by
 have h:r<6:=by omega
 match r,h with
 |0,_|1,_|2,_|3,_|4,_|5,_=>exact⟨rfl,rfl⟩
structure Vh where
 a:Nat
 thread:Int
 left:Int
 set:Bool
 tx:Bool
 atomic:Bool
 loop:Bool
 o:Option Nat
 ar:List aZ
 k:Nat
def Vh.row(bt:Nat)(s:Vh):List AV:=[.ptr bt 0 0,.W6 s.thread,.W6 s.left,.bool s.set,.bool s.tx,.bool s.atomic,.bool s.loop,am s.o s.k]
theorem eI{l:List aZ}{b r:Nat}{rows:List (List AV)}{L:SH}{K:AV→Prop}(h:K (.str (l.getD r [])))(hm:(b,(⟨1,rows⟩:Blk))∈L)(hr:rows=l.map au)(hl:r<l.length):W.load false 1 (.ptr b r 0) L K:=by subst hr;refine C1 hm (aw hl) W3 ?_;simpa[List.getD,hl]using h
theorem OC{l:List Int}{b r:Nat}{rows:List (List AV)}{L:SH}{K:AV→Prop}(h:K (.W6 (l.getD r 0)))(hm:(b,(⟨1,rows⟩:Blk))∈L)(hr:rows=l.map aj)(hl:r<l.length):W.load false 1 (.ptr b r 0) L K:=by subst hr;refine C1 hm (aw hl) W3 ?_;simpa[List.getD,hl]using h
theorem fB{bt:Nat}{t:List UInt8}{a:Nat}{n:Int}{L L':SH}{KL:R}(ht:t.length<2^40)(ha:a≤t.length)(hd:eJ bt (aN t a) L L')(hq:∀r a':Nat,((r:Int)<n∨r=0)→a'≤t.length→KL (.W6 (r:Int)) ((bt,aN t a')::L')):W.callM Tryz.prog 23 [.ptr bt 0 0,.W6 n] L KL:=
 j7 (Lr bt t a n ht ha) hd (by rintro _ _ ⟨r,a',rfl,h1,rfl,h2⟩;exact hq r a' h1 h2)
theorem Cw{bt:Nat}{t:List UInt8}{a i:Nat}{n:Int}{us:List W.WR}{L L':SH}{KN:AV→SH→List Nat→Prop}(ht:t.length<2^40)(ha:a≤t.length)(hd:eJ bt (aN t a) L L')(hq:∀r a':Nat,((r:Int)<n∨r=0)→a'≤t.length→KN (.W6 (r:Int)) ((bt,aN t a')::L') [bt])(hf:∀y∈us,W.free y ⟨i,[],[bt],[],true,[]⟩:=by(simp only[rm,rc,rz,W.free,av,↓reduceIte,Nat.reduceEqDiff,aa,dq,WX,V1,VV,not_false_eq_true,implies_true,and_true,true_and,and_self,VN,reduceCtorEq,forall_const,false_implies,Vr,forall_eq,V2,Wm,Vn,or_false,false_or,forall_eq_or_imp,not_or])<;>(repeat' constructor)<;>first|assumption|(exact Ne.symm W2)|(intro e_;subst e_;simp[SH.names]at *;done)):W.dcallM Tryz.prog us i 23 [.ptr bt 0 0,.W6 n] L KN:=
 C6 (Lr bt t a n ht ha) hd hf (by rintro _ _ ⟨r,a',rfl,h1,rfl,h2⟩;exact hq r a' h1 h2)
def mg(bt:Nat)(v1 v2 v3 v4 v5 v6 v7:AV):Blk:=⟨8,[[.ptr bt 0 0,v1,v2,v3,v4,v5,v6,v7]]⟩
def I6(d:Nat):Prop:=∀(bm bt:Nat) (t:List UInt8) (a:Nat) (v1 v2 v3 v4 v5 v6 v7:AV),t.length<2^40→a≤t.length→
  af Tryz.prog 71 [.ptr bm 0 0,.W6 (d:Int)] [(bm,mg bt v1 v2 v3 v4 v5 v6 v7),(bt,aN t a)] λu K=>∃(x:ao) (a':Nat),u=.agg x.row∧x.wt+z0 x.op≤4^(d+1)∧a'≤t.length∧K=[(bm,mg bt v1 v2 v3 v4 v5 v6 v7),(bt,aN t a')]
section
variable {bm bt:Nat} {t:List UInt8} {a d:Nat} {dd:Int} {v1 v2 v3 v4 v5 v6 v7:AV} {L L1 L2:SH}
theorem cC{KL:R}(hE:I6 d)(hdd:dd=(d:Int))(ht:t.length<2^40)(ha:a≤t.length)(h1:eJ bm (mg bt v1 v2 v3 v4 v5 v6 v7) L L1)(h2:eJ bt (aN t a) L1 L2)(hq:∀(x:ao) (a':Nat),x.wt+z0 x.op≤4^(d+1)→a'≤t.length→KL (.agg x.row) ((bm,mg bt v1 v2 v3 v4 v5 v6 v7)::(bt,aN t a')::L2)):
  W.callM Tryz.prog 71 [.ptr bm 0 0,.W6 dd] L KL:=by
 subst hdd;exact M9 (hE bm bt t a v1 v2 v3 v4 v5 v6 v7 ht ha) h1 h2 (by rintro _ _ ⟨x,a',rfl,h1,h2,rfl⟩;exact hq x a' h1 h2)
theorem Hb{us:List W.WR}{i:Nat}{KN:AV→SH→List Nat→Prop}(hE:I6 d)(hdd:dd=(d:Int))(ht:t.length<2^40)(ha:a≤t.length)(h1:eJ bm (mg bt v1 v2 v3 v4 v5 v6 v7) L L1)(h2:eJ bt (aN t a) L1 L2)(hq:∀(x:ao) (a':Nat),x.wt+z0 x.op≤4^(d+1)→a'≤t.length→KN (.agg x.row) ((bm,mg bt v1 v2 v3 v4 v5 v6 v7)::(bt,aN t a')::L2) [bm,bt])
  (hf:∀y∈us,W.free y ⟨i,[],[bm,bt],[],true,[]⟩:=by(simp only[rm,rc,rz,W.free,av,↓reduceIte,Nat.reduceEqDiff,aa,dq,WX,V1,VV,not_false_eq_true,implies_true,and_true,true_and,and_self,VN,reduceCtorEq,forall_const,false_implies,Vr,forall_eq,V2,Wm,Vn,or_false,false_or,forall_eq_or_imp,not_or])<;>(repeat' constructor)<;>first|assumption|(exact Ne.symm W2)|(intro e_;subst e_;simp[SH.names]at *;done)):W.dcallM Tryz.prog us i 71 [.ptr bm 0 0,.W6 dd] L KN:=by
 subst hdd;exact LO (hE bm bt t a v1 v2 v3 v4 v5 v6 v7 ht ha) h1 h2 hf (by rintro _ _ ⟨x,a',rfl,h1,h2,rfl⟩;exact hq x a' h1 h2)
end
theorem OD(r:Nat):(([[97],[98],[120],[121],[118],[120],[121]]:List aZ).getD r []).length≤1:=by
 rcases Vp r 7 with h|h
 ·match r,h with
  |0,_|1,_|2,_|3,_|4,_|5,_|6,_=>exact Vl _
 ·rw[List.getD,Vq (by simpa using h)];exact VX _
theorem Ls:I6 0:=by
  intro bm bt t a v1 v2 v3 v4 v5 v6 v7 ht ha;refine af.fz (jC _ _ _ _ ?_);unfold ge;generalize hQ:(λ(v:AV) (L:SH)=>∃v2_1 L2,aG [v] L [v2_1] L2∧∃(x:ao) (a':Nat),v2_1=AV.agg x.row∧x.wt+z0 x.op≤4^(0+1)∧a'≤t.length∧L2=[(bm,mg bt v1 v2 v3 v4 v5 v6 v7),(bt,aN t a')])=Q;have hq:∀(v:AV) (x:ao) (a':Nat) (L L1 L2:SH),eJ bm (mg bt v1 v2 v3 v4 v5 v6 v7) L L1→eJ bt (aN t a') L1 L2→Fz L2 v (.agg x.row)→x.wt+z0 x.op≤4→a'≤t.length→Q v L:=λv x a' L L1 L2 h1 h2 h3 h4 h5=>by subst hQ;exact⟨_,_,aG.keep2 h1 h2 h3,x,a',rfl,h4,h5,rfl⟩
  clear hQ;unfold mg
  repeat' (first|refine st ?_|((with_reducible refine aX 23 ?_);(refine fB ht W2 rp (λr_ a_ hr_ ha_=>?_)))|(refine pf 26 ?_;refine pm (Ha _) ?_)|(refine pf 73 ?_;refine pm (yo _) ?_)|refine eI (l:=[[97],[98],[120],[121],[118],[120],[121]]) ?_ mm rfl (by simp;omega)|refine dy ?_ W1|refine sb λnb_ hnb_=>?_|refine s2 (λh=>?_) λh=>?_|fail)
  all_goals first
   |exact hq _ (G9 _) _ _ _ _ rp rp (.refl _) SX W2
   |exact hq _ (sF _) _ _ _ _ rp rp (.refl _) (by have:=OD r_;exact SX) W2
   |(exfalso;simp at *;omega)
theorem bU:∀d:Nat,d<1000→I6 d:=by
 intro d
 induction d with
 |zero=>exact λ_=>Ls
 |succ d ih=>
  intro hd1000 bm bt t a v1 v2 v3 v4 v5 v6 v7 ht ha;have ih:=ih W1;have hE0:I6 0:=Ls;have d0:decide (((d+1:Nat):Int)=0)=false:=by simp;omega
  have e1:IntKind.i64.wrap (((d+1:Nat):Int)-1)=(d:Int):=by rw[V9 _ W1];omega
  have hp:1≤4^d:=Nat.one_le_pow _ _ W5;have hp1:4^(d+1)=4*4^d:=by rw[Nat.pow_succ,Nat.mul_comm]
  have hp2:4^(d+1+1)=16*4^d:=by rw[Nat.pow_succ,Nat.pow_succ];omega
  refine af.fz (jC _ _ _ _ ?_);unfold ge;generalize hQ:(λ(v:AV) (L:SH)=>∃v2_1 L2,aG [v] L [v2_1] L2∧∃(x:ao) (a':Nat),v2_1=AV.agg x.row∧x.wt+z0 x.op≤4^(d+1+1)∧a'≤t.length∧L2=[(bm,mg bt v1 v2 v3 v4 v5 v6 v7),(bt,aN t a')])=Q;have hq:∀(v:AV) (x:ao) (a':Nat) (L L1 L2:SH),eJ bm (mg bt v1 v2 v3 v4 v5 v6 v7) L L1→eJ bt (aN t a') L1 L2→Fz L2 v (.agg x.row)→x.wt+z0 x.op≤16*4^d→a'≤t.length→Q v L:=λv x a' L L1 L2 h1 h2 h3 h4 h5=>by subst hQ;exact⟨_,_,aG.keep2 h1 h2 h3,x,a',rfl,W1,h5,rfl⟩
  clear hQ;unfold mg
  repeat' (first|refine st ?_|((with_reducible refine aX 23 ?_);(refine fB ht W2 rp (λr_ a_ hr_ ha_=>?_)))|(refine pf 26 ?_;refine pm (Ha _) ?_)|(refine pf 73 ?_;refine pm (yo _) ?_)|(refine pf 72 ?_;refine pm (Es _ _ _) ?_)|refine eI (l:=[[97],[98],[120],[121],[118],[120],[121]]) ?_ mm rfl (by simp;omega)|refine OC (l:=[6,7,8,11,13,17]) ?_ mm rfl (by simp;omega)|refine dy ?_ W1|((with_reducible refine dZ 23 ?_);refine Cw ht W2 rp (λr_ a_ hr_ ha_=>?_))|((with_reducible refine aX 71 ?_);(refine cC hE0 W3 ht W2 rp rp (λx_ a_ hx_ ha_=>?_)))|((with_reducible refine dZ 71 ?_);refine Hb ih W3 ht W2 rp rp (λx_ a_ hx_ ha_=>?_))|refine sb λnb_ hnb_=>?_|refine s2 (λh=>?_) λh=>?_|fail)
  all_goals first
   |exact hq _ (G9 _) _ _ _ _ rp rp (.refl _) SX W2
   |exact hq _ (sF _) _ _ _ _ rp rp (.refl _) (by have:=OD r_;exact SX) W2
   |exact hq _ (.mk 3 0 [113] [x_]) _ _ _ _ rp rp (Fz.aggs (.cons (.refl _) (.cons (.refl _) (.cons (.refl _) (.cons (Fz.sls (l:=[x_]) (f:=ao.enc) (size:=4) (rows:=[x_.row]) (.head _) (by simp[ao.enc_row]) W5 rfl) .nil))))) SX W2
   |exact hq _ (Mp _ _ _) _ _ _ _ rp rp (.refl _) (by have:=Uw hr_;exact SX) W2
end
section
set_option maxRecDepth 100000
set_option maxHeartbeats 2000000
def Mq(b:UInt8):cU:=⟨(b.toNat:Int).tmod 4,((b.toNat:Int).tdiv 4).tmod 5-1⟩
theorem Su(b:UInt8):IntKind.i64.wrap (((b.toNat:Int).tdiv 4).tmod 5-1)=((b.toNat:Int).tdiv 4).tmod 5-1:=by
 have h:(b.toNat:Int)<256:=by have:=b.toNat_lt;omega
 have h1:((b.toNat:Int).tdiv 4).tmod 5=((b.toNat:Int) / 4) % 5:=by rw[Int.tdiv_eq_ediv_of_nonneg W1,Int.tmod_eq_emod_of_nonneg W1]
 rw[V9 _ (by rw[h1];omega)]
theorem I7(t:List UInt8)(ht:t.length<2^20):az Tryz.prog 7 [.lst (t.map fk)] (.lst ((t.map Mq).map cU.enc)):=by
 refine af.fz (Cc _ _ _ ?_);unfold p8;generalize hQ:(λ(v:AV) (L:SH)=>∃v2 L2,aG [v] L [v2] L2∧v2=AV.lst ((t.map Mq).map cU.enc)∧L2=[])=Q;have hq:∀v L,Fz L v (.lst ((t.map Mq).map cU.enc))→Q v L:=λv L h=>by subst hQ;exact⟨_,[],aG.all h,rfl,rfl⟩
 clear hQ;refine cb t.length (λk (o:Option Nat)=>([.lst (t.map fk),am o k,.W6 k],ae o 2 (((t.take k).map Mq).map cU.enc))) (λk o=>o=none→k=0) none (λ_=>rfl) (aG.drop (K:=[]) (.refl _) rfl (i9.at_ (.cons (.refl _) (.cons .nile (.cons (.refl _) .nil)))).2) ?_;intro k o hk ho;dsimp only;unfold nL;rcases Nat.lt_or_ge k t.length with g1|g1
 ·have hd:=bI g1;have hx:=aw (f:=fk) g1;have htk:t.take (k+1)=t.take k++[t[k]]:=Vw g1;have ho2:o=none→((t.take k).map Mq).map cU.enc=[]:=λe=>by rw[ho e];rfl
  have hl:((t.take k).map Mq).length=k:=by simp;omega
  generalize t[k]=b at *;have hb:(b.toNat:Int)<256:=by have:=b.toNat_lt;omega
  have w1:IntKind.i64.wrap (b.toNat:Int)=(b.toNat:Int):=V9 _ W1;have w2:=Su b;have fin:∀(nb:Nat) (L:SH),gD L (ae (some nb) 2 (((t.take k).map Mq).map cU.enc++[(Mq b).enc]))→∃(j:Nat) (o':Option Nat),k<j∧j≤t.length∧(o'=none→j=0)∧aG [.lst (t.map fk),.sl nb 0 (k+1),.W6 (IntKind.i64.wrap ((k:Int)+1))] L [.lst (t.map fk),am o' j,.W6 j] (ae o' 2 (((t.take j).map Mq).map cU.enc)):=by intro nb L hL;refine⟨k+1,some nb,W1,W1,nofun,?_⟩;rw[aD g1 W1];exact aG.pickE hL rfl (by rw[htk];simp)
  rw[show(Mq b).enc=[.W6 ((b.toNat:Int).tmod 4),.W6 (((b.toNat:Int).tdiv 4).tmod 5-1)]from rfl]at fin;rw[show fk b=[.int .u8 (b.toNat:Int)]from rfl]at hx;clear hq;generalize hX:((t.take k).map Mq).map cU.enc=X at *;have hXl:X.length=k:=by rw[←hX];simp;omega
  repeat' (first|refine st ?_|refine cx rp rp W1 ho2 W3 W4 (by simp;omega) (by simp;omega) W3 (λnb_ hnb_=>?_)|refine sb λnb_ hnb_=>?_|refine s2 (λh=>?_) λh=>?_|fail)
  have w3:IntKind.i64.wrap ((b.toNat:Int).tdiv 4)=(b.toNat:Int).tdiv 4:=by rw[Int.tdiv_eq_ediv_of_nonneg W1];exact V9 _ W1
  simp only[w1,w3,w2];exact fin nb_ _ rp
 ·have hd:=bO g1;have hk0:k=t.length:=by omega
  subst hk0;rw[V8 (Vl _)];have fin:∀L,(∀q∈ae o 2 ((t.map Mq).map cU.enc),q∈L)→Q (am o t.length) L:=λL hm=>by
   refine hq _ _ ?_;cases o with
   |none=>have:t=[]:=Wo.1 (ho rfl);subst this;exact .emp
   |some b=>exact Fz.sls (hm _ (.head _)) rfl W5 W4
  repeat' (first|refine st ?_|refine sb λnb_ hnb_=>?_|refine s2 (λh=>?_) λh=>?_|fail)
  exact fin _ λq h=>h
end
section
set_option linter.unusedSectionVars false
def F4(T:FuncId→List AV→Option AV)(call:FuncId→List AV→ac→Option (AV×ac))(g:FuncId)(args:List AV)(H:ac):Option (AV×ac):=match T g args with
 |some v=>some (v,H)
 |none=>call g args H
def dE(P:Program)(F:TypeId→Option (List TypeId))(T:FuncId→List AV→Option AV):Nat→Code→List AV→ac→Option (Ex×List AV×ac)
 |0,_,_,_=>none
 |f+1,c,τ,H=>
  match c with
  |.skip|.label _=>some (.normal,τ,H)
  | .region _ ops draw=>match du P F (F4 T (oQ P (dE P F T f))) ops draw τ H with
   |some (τ,H)=>some (.normal,τ,H)
   |none=>none
  | .seq a b=>match dE P F T f a τ H with
   |some (.normal,τ,H)=>dE P F T f b τ H
   |r=>r
  | .cond c a b=>match jR τ c with
   |.bool true=>dE P F T f a τ H
   |.bool false=>dE P F T f b τ H
   |_=>none
  | .block id b=>match dE P F T f b τ H with
   |some (.exit id',τ,H)=>if id'=id then some (.normal,τ,H)else some (.exit id',τ,H)
   |r=>r
  | .loop b=>match dE P F T f b τ H with
   |some (.normal,τ,H)=>dE P F T f (.loop b) τ H
   |r=>r
  |.exit id=>some (.exit id,τ,H)
  |.ret=>some (.ret,τ,H)
  |_=>none
def sG(P:Program)(T:FuncId→List AV→Option AV):Prop:=∀f args v,T f args=some v→gA P f args v
section
variable {P:Program} {F:TypeId→Option (List TypeId)} {T:FuncId→List AV→Option AV} {call:FuncId→List AV→ac→Option (AV×ac)}
theorem I8(hT:sG P T)(hs:dY P call):dY P (F4 T call):=by
 refine⟨λf args H v H' hc=>?_,λf args H v H' hc=>?_,λf args H v H' hc=>?_⟩
 all_goals
  unfold F4 at hc;split at hc
 ·rename_i u hu;cases hc;exact(hT _ _ _ hu).1 _
 ·exact hs.ok _ _ _ _ _ hc
 ·cases hc;exact Vl _
 ·exact hs.next _ _ _ _ _ hc
 ·rename_i u hu;cases hc;exact(hT _ _ _ hu).2
 ·exact hs.body _ _ _ _ _ hc
theorem F5(h:∀f args H v H',Bd H→call f args H=some (v,H')→AQ H H'):∀f args H v H',Bd H→F4 T call f args H=some (v,H')→AQ H H':=λf args H v H' hb hc=>by
 unfold F4 at hc;split at hc
 ·cases hc;exact .refl _
 ·exact h _ _ _ _ _ hb hc
theorem Mr(f:Nat):∀(c:Code) (τ:List AV) (H:ac) (e:Ex) (τ':List AV) (H':ac),Bd H→dE P F T f c τ H=some (e,τ',H')→AQ H H':=by
 induction f with
 |zero=>intro c τ H e τ' H' _ h;cases h
 |succ f ih=>
  intro c τ H e τ' H' hbd h;cases c with
  |skip=>cases h;exact .refl _
  |label l=>cases h;exact .refl _
  |exit id=>cases h;exact .refl _
  |ret=>cases h;exact .refl _
  |region id ops draw=>
   simp only[dE]at h;split at h
   ·rename_i hr;cases h;exact Js (λf args H v H' hb hcall=>F5 (λ_ _ _ _ _ hb hc=>CK ih hb hc) _ _ _ _ _ hb hcall) hbd hr
   ·cases h
  |seq x y=>
   simp only[dE]at h;split at h
   ·rename_i h1;have k1:=ih _ _ _ _ _ _ hbd h1;exact k1.trans (ih _ _ _ _ _ _ (k1.bd hbd) h)
   ·exact ih _ _ _ _ _ _ hbd h
  |cond x c1 c2=>
   simp only[dE]at h;split at h
   ·exact ih _ _ _ _ _ _ hbd h
   ·exact ih _ _ _ _ _ _ hbd h
   ·cases h
  |block id c1=>
   simp only[dE]at h;split at h
   ·rename_i h1;split at h
    ·cases h;exact ih _ _ _ _ _ _ hbd h1
    ·cases h;exact ih _ _ _ _ _ _ hbd h1
   ·exact ih _ _ _ _ _ _ hbd h
  |loop c1=>
   simp only[dE]at h;split at h
   ·rename_i h1;have k1:=ih _ _ _ _ _ _ hbd h1;exact k1.trans (ih _ _ _ _ _ _ (k1.bd hbd) h)
   ·exact ih _ _ _ _ _ _ hbd h
  |_=>simp[dE]at h
theorem Hd(fit:Fit P F)(hT:sG P T)(hgood:∀(g:Nat) (fn:Func) (c:Code),P.funcs[g]? =some fn→fn.body=some c→j6 c)(f:Nat):(∀(c:Code) (τ:List AV) (H:ac) (e:Ex) (τ':List AV) (H':ac),j6 c→dE P F T f c τ H=some (e,τ',H')→cE P c τ H e τ' H')∧
  (∀(c:Code) (τ:List AV) (H:ac) (e:Ex) (τ':List AV) (H':ac),j6 c→dE P F T f (.loop c) τ H=some (e,τ',H')→kK P f c τ H e τ' H'):=by
 induction f with
 |zero=>exact⟨λc τ H e τ' H' _ h=>(by cases h),λc τ H e τ' H' _ h=>(by cases h)⟩
 |succ f ih0=>
  obtain⟨ih,ihl⟩:=ih0;have hs:=I8 hT (vV (P:=P) hgood ih);have hch:∀g args H v H',Bd H→F4 T (oQ P (dE P F T f)) g args H=some (v,H')→AQ H H':=F5 (λ_ _ _ _ _ hb hc=>CK (Mr f) hb hc);have hloop:∀(c:Code) (τ:List AV) (H:ac) (e:Ex) (τ':List AV) (H':ac),j6 c→dE P F T (f+1) (.loop c) τ H=some (e,τ',H')→kK P (f+1) c τ H e τ' H':=by
   intro c1 τ H e τ' H' dr h;simp only[dE]at h;split at h
   ·rename_i τ1 H1 h1;obtain⟨n1,k1⟩:=ih c1 τ H .normal τ1 H1 dr h1;obtain⟨n2,k2⟩:=ihl c1 τ1 H1 e τ' H' dr h;refine⟨VD n1 n2,λw σ a hW hτ Q hQ=>?_⟩;rw[rounds_succ];refine k1 w σ a hW hτ _ λa' w' haf=>?_
    obtain⟨σ1,t1,r1,e1,m1⟩:=haf;exact k2 w' σ1 a' r1 t1 Q λa2 w2 haf2=>hQ a2 w2 (haf2.trans e1 m1 n1)
   ·rename_i hne;obtain⟨n1,k1⟩:=ih c1 τ H e τ' H' dr h;refine⟨n1,λw σ a hW hτ Q hQ=>?_⟩;rw[rounds_succ];refine k1 w σ a hW hτ _ λa' w' haf=>?_
    cases e with
    |normal=>exact absurd h (hne _ _)
    |exit id=>exact hQ _ _ haf
    |ret=>exact hQ _ _ haf
  refine⟨?_,hloop⟩;intro c τ H e τ' H' dr h;cases c with
  |skip=>cases h;exact⟨Vl _,λw σ a hW hτ Q hQ=>wp_skip (hQ _ _ (.refl hW hτ))⟩
  |label l=>cases h;exact⟨Vl _,λw σ a hW hτ Q hQ=>wp_label (hQ _ _ (.refl hW hτ))⟩
  |exit id=>cases h;exact⟨Vl _,λw σ a hW hτ Q hQ=>wp_exit (hQ _ _ (.refl hW hτ))⟩
  |ret=>cases h;exact⟨Vl _,λw σ a hW hτ Q hQ=>wp_ret (hQ _ _ (.refl hW hτ))⟩
  |region id ops draw=>
   simp only[dE]at h;split at h
   ·rename_i τ1 H1 hr;cases h;cases draw with
    |false=>exact fN fit hs hr
    |true=>obtain⟨h1,h2⟩:=CP fit hs hch (dr rfl).1 (dr rfl).2 hr;exact⟨h1,λw σ a hW hτ Q hQ=>h2 id w σ a hW hτ Q hQ⟩
   ·cases h
  |seq x y=>
   simp only[dE]at h;split at h
   ·rename_i τ1 H1 h1;obtain⟨n1,k1⟩:=ih x τ H .normal τ1 H1 dr.1 h1;obtain⟨n2,k2⟩:=ih y τ1 H1 e τ' H' dr.2 h;refine⟨VD n1 n2,λw σ a hW hτ Q hQ=>wp_seq (k1 w σ a hW hτ _ λa' w' haf=>?_)⟩;obtain⟨σ1,t1,r1,e1,m1⟩:=haf;exact k2 w' σ1 a' r1 t1 Q λa2 w2 haf2=>hQ a2 w2 (haf2.trans e1 m1 n1)
   ·rename_i hne;obtain⟨n1,k1⟩:=ih x τ H e τ' H' dr.1 h;refine⟨n1,λw σ a hW hτ Q hQ=>wp_seq (k1 w σ a hW hτ _ λa' w' haf=>?_)⟩;cases e with
    |normal=>exact absurd h (hne _ _)
    |exit id=>exact hQ _ _ haf
    |ret=>exact hQ _ _ haf
  |cond x c1 c2=>
   simp only[dE]at h;split at h
   ·rename_i hb;obtain⟨n1,k1⟩:=ih c1 τ H e τ' H' dr.1 h;refine⟨n1,λw σ a hW hτ Q hQ=>wp_cond_true ?_ (k1 w σ a hW hτ Q hQ)⟩;have:=hτ.eval hW.glob x;rw[hb]at this;generalize a.eval x=u at this;cases this;rfl
   ·rename_i hb;obtain⟨n1,k1⟩:=ih c2 τ H e τ' H' dr.2 h;refine⟨n1,λw σ a hW hτ Q hQ=>wp_cond_false ?_ (k1 w σ a hW hτ Q hQ)⟩;have:=hτ.eval hW.glob x;rw[hb]at this;generalize a.eval x=u at this;cases this;rfl
   ·cases h
  |block id c1=>
   simp only[dE]at h;split at h
   ·rename_i id' τ1 H1 h1;obtain⟨n1,k1⟩:=ih c1 τ H _ τ1 H1 dr h1;split at h
    ·rename_i hid;cases h;exact⟨n1,λw σ a hW hτ Q hQ=>wp_block (k1 w σ a hW hτ _ λa' w' haf=>by simp only[HI,Exit.inBlock,hid,if_true];exact hQ _ _ haf)⟩
    ·rename_i hid;cases h;exact⟨n1,λw σ a hW hτ Q hQ=>wp_block (k1 w σ a hW hτ _ λa' w' haf=>by simp only[HI,Exit.inBlock,hid,if_false];exact hQ _ _ haf)⟩
   ·rename_i hne;obtain⟨n1,k1⟩:=ih c1 τ H e τ' H' dr h;refine⟨n1,λw σ a hW hτ Q hQ=>wp_block (k1 w σ a hW hτ _ λa' w' haf=>?_)⟩;cases e with
    |normal=>exact hQ _ _ haf
    |exit id=>exact absurd h (hne _ _ _)
    |ret=>exact hQ _ _ haf
  |loop c1=>obtain⟨n1,k1⟩:=hloop c1 τ H e τ' H' dr h;exact⟨n1,λw σ a hW hτ Q hQ=>wp_loop_rounds (f+1) (k1 w σ a hW hτ Q hQ)⟩
  |_=>simp[dE]at h
theorem I9(fit:Fit P F)(hT:sG P T)(hgood:∀(g:Nat) (fn:Func) (c:Code),P.funcs[g]? =some fn→fn.body=some c→j6 c)(f:Nat)(c:Code)(τ:List AV)(H:ac)(e:Ex)(τ':List AV)(H':ac)(dr:j6 c)(h:dE P F T f c τ H=some (e,τ',H')):cE P c τ H e τ' H':=
 (Hd fit hT hgood f).1 c τ H e τ' H' dr h
end
theorem gA.of_pure{f:FuncId}{args:List AV}{v:AV}(h:az Tryz.prog f args v)(hv:aW v)(ha:∀(i:Nat) (a:AV),args[i]? =some a→aW a):gA Tryz.prog f args v:=by
 obtain⟨fn,c,hf,hb⟩:=h.1;refine .of_v hf hb hv ha λw σ vs hW hvs=>?_
 obtain⟨u,H',L',h1,_,h3,_⟩:=h.2 ac.empty (λb _=>cO b) ⟨.nil,λp h=>by simp at h⟩;subst h3;refine(h1 w σ vs hW hvs).mono λe w' ⟨v',σ',k1,k2,k3,k4,k5⟩=>⟨v',σ',H',k1,k2,k4⟩
end
def He{α:Type}(f:α→α→Bool):List α→List α→Bool
 |[],[]=>true
 |a::l,b::m=>f a b&&He f l m
 |_,_=>false
theorem m6{α:Type}{f:α→α→Bool}(h:∀a b,f a b=true→a=b):∀{l m:List α},He f l m=true→l=m
 |[],[],_=>rfl
 | a::l,b::m,e=>by rw[He,VP]at e;rw[h _ _ e.1,m6 h e.2]
 |[],_::_,e=>by cases e
 |_::_,[],e=>by cases e
def Kg:Nat→AV→AV→Bool
 |0,_,_=>false
 | n+1,a,b=>match a,b with
  |.int k x,.int k' y=>decide (k=k')&&decide (x=y)
  |.bool x,.bool y=>x==y
  |.str x,.str y=>He (λ(p q:UInt8)=>decide (p=q)) x y
  |.nils,.nils=>true
  |.emp,.emp=>true
  |.nilp,.nilp=>true
  |.lst r,.lst s=>He (He (Kg n)) r s
  |.agg r,.agg s=>He (Kg n) r s
  |.tup r,.tup s=>He (Kg n) r s
  |_,_=>false
theorem Lt:∀{n:Nat} {a b:AV},Kg n a b=true→a=b:=by
 intro n
 induction n with
 |zero=>intro a b h;cases h
 |succ n ih=>
  intro a b h;unfold Kg at h;split at h
  ·simp only[VP,decide_eq_true_eq]at h;rw[h.1,h.2]
  ·rw[beq_iff_eq]at h;rw[h]
  ·rw[m6 (λp q h=>of_decide_eq_true h) h]
  ·rfl
  ·rfl
  ·rfl
  ·rw[m6 (λp q h=>m6 (λa b h=>ih h) h) h]
  ·rw[m6 (λa b h=>ih h) h]
  ·rw[m6 (λa b h=>ih h) h]
  ·cases h
def Et:Nat→AV→Bool
 |0,_=>false
 | n+1,a=>match a with
  |.int ..|.bool _|.str _|.nils|.emp|.nilp=>true
  |.lst r=>r.all λl=>l.all (Et n)
  |.agg r=>r.all (Et n)
  |.tup r=>r.all (Et n)
  |_=>false
theorem Ja:∀{n:Nat} {a:AV},Et n a=true→aW a:=by
 intro n
 induction n with
 |zero=>intro a h;cases h
 |succ n ih=>
  intro a h;unfold Et at h;split at h
  ·exact .int _ _
  ·exact .bool _
  ·exact .str _
  ·exact .nils
  ·exact .emp
  ·exact .nilp
  ·refine .lst _ λi r j a h1 h2=>?_
   rw[VB]at h;have:=h _ (V0 h1);rw[VB]at this;exact ih (this _ (V0 h2))
  ·refine .agg _ λi a h1=>?_
   rw[VB]at h;exact ih (h _ (V0 h1))
  ·refine .tup _ λi a h1=>?_
   rw[VB]at h;exact ih (h _ (V0 h1))
  ·cases h
def Ms(n:Nat):List (FuncId×List AV×AV)→(FuncId→List AV→Option AV)→FuncId→List AV→Option AV
 |[],T,f,args=>T f args
 |e::L,T,f,args=>if(Nat.beq f e.1&&He (Kg n) args e.2.1)=true then some e.2.2 else Ms n L T f args
theorem Cx{n:Nat}{T:FuncId→List AV→Option AV}(hT:sG Tryz.prog T):∀{L:List (FuncId×List AV×AV)},(∀e∈L,gA Tryz.prog e.1 e.2.1 e.2.2)→sG Tryz.prog (Ms n L T)
 |[],_=>hT
 | e::L,h=>λf args v hv=>by
  unfold Ms at hv;split at hv
  ·rename_i hc;rw[VP]at hc;cases hv;have h1:f=e.1:=Nat.eq_of_beq_eq_true hc.1;have h2:=m6 (λa b h=>Lt h) hc.2;rw[h1,h2];exact h e W4
  ·exact Cx hT (λe he=>h e (by simp[he])) f args v hv
noncomputable def QO (T:FuncId→List AV→Option AV) (n d:Nat) (f:FuncId) (args:List AV):Option AV:=match oQ Tryz.prog (dE Tryz.prog Fl T n) f args ac.empty with
 |some (v,H)=>frz H d v
 |none=>none
def Vj(d:Nat)(v:AV):Option AV→Bool
 |some u=>Kg d u v
 |none=>false
theorem fI{f:FuncId}{n d:Nat}{args:List AV}{v:AV}{T:FuncId→List AV→Option AV}(hT:sG Tryz.prog T)(hp:(Et d v&&args.all (Et d))=true)(hrun:Vj d v (QO T n d f args)=true):gA Tryz.prog f args v:=by
 rw[VP,VB]at hp;have hd:=(Qp CZ).2;have hs:=vV (P:=Tryz.prog) hd (λc τ H e τ' H' dr hx=>I9 fit hT hd n c τ H e τ' H' dr hx);unfold QO at hrun;split at hrun
 ·rename_i u H' hc;have hz:frz H' d u=some v:=by
   cases hf:frz H' d u with
   |none=>rw[hf]at hrun;cases hrun
   |some x=>rw[hf]at hrun;rw[Lt hrun]
  have hV:KG Tryz.prog f args v:=λw σ vs hW hvs=>(hs.ok _ _ _ _ _ hc w σ vs hW hvs).mono λe w' ⟨v',σ',he,k1,k2,k3,k4⟩=>
   ⟨v',σ',ac.empty,he,wi k2 d u v v' hz k1,k3.trans (ef.sub λb x hb=>by rw[cO]at hb;cases hb)⟩
  obtain⟨fn,c,hf,hb⟩:=hs.body _ _ _ _ _ hc;exact .of_v hf hb (Ja hp.1) (λi a h=>Ja (hp.2 a (V0 h))) hV
 ·cases hrun
theorem az.of_ok{f:FuncId}{args:List AV}{v:AV}(h:gA Tryz.prog f args v):az Tryz.prog f args v:=
 ⟨h.2,λH hb hS=>⟨v,H,[],h.1 H,.refl hb hS,rfl,rfl⟩⟩
section
set_option maxRecDepth 100000
theorem Kh(s:aZ):az Tryz.prog 60 [.str s] (.bool (eb s)):=by
 rcases Vp 12 s.length with h|h
 ·have hl:(s.length:Int)<1→False:=by omega
  refine ip _ _ _ ?_;unfold fV;have d1:decide ((s.length:Int)<1)=false:=decide_eq_false W1;have d2:decide ((s.length:Int) > 12)=true:=decide_eq_true W1;have e:eb s=false:=by unfold eb;rw[show decide ((s.length:Int)≤12)=false from decide_eq_false W1];simp
  rw[e]
  repeat' (first|refine st ?_|refine sb λnb_ hnb_=>?_|refine s2 (λh=>?_) λh=>?_|fail)
  all_goals exact⟨rfl,rfl⟩
 ·exact L6 s W1
end
end Go.Proofs.YtenbpcngcicamaaGreatDoor.Am
