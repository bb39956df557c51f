/- A part of the proof; the statement is proved in the last part. -/
import Derived.Test.YtdnpdghlggbklaaGreatDoorQes
set_option linter.unusedSimpArgs false
set_option linter.unusedVariables false
namespace Go.Proofs.YtdnpdghlggbklaaGreatDoor.Am
section
set_option maxRecDepth 100000
set_option maxHeartbeats 4000000
def UL(p:bP)(bw:Nat)(s:m7)(m:Nat)(u:AV)(K:SH):Prop:=
 ∃(e ln:Int) (s':m7),u=.tup [.Xm e,.Xm ln]∧K=s'.L p bw∧s'.Ok m∧s'.t=s.t∧s'.k=s.k
theorem SD{p:bP}{bw:Nat}{s:m7}{x:ab}{m:Nat}(h:af Tryz.prog 91 [.ptr bw 0 0,.agg x.row] (s.L p bw) (SB p bw s m)):
  af Tryz.prog 91 [.ptr bw 0 0,.agg x.row] (s.L p bw) λu K=>∃(e:Int) (s':m7),u=.Xm e∧K=s'.L p bw∧s'.Ok m∧s'.t=s.t∧s'.k=s.k:=
 af.permR (h.mono λv K' ⟨e,s',h1,h2,h3,h4,_,_,h5⟩=>⟨_,h2,e,s',h1,rfl,h3,h4,h5⟩)
set_option maxHeartbeats 2000000 in
theorem SE(p:bP)(bw:Nat)(hw:p.wt<2^40):∀(n:Nat) (l:List ab) (s:m7) (m:Nat),ab.wts l≤n→(ht:s.t<p.threads.length)→s.Ok m→m+ab.wts l<2^40→
  af Tryz.prog 58 [.ptr bw 0 0,.lst (l.map ab.enc)] (s.L p bw) (UL p bw s (m+ab.wts l) ):=by
 intro n
 induction n using Nat.strongRecOn with
 |_ n ih=>
  intro l s0 m hn ht hs0 hm;have hlen:=ab.wts_len l;refine af.fz (yu _ _ _ _ ?_);unfold mi;generalize hQ:(λ(v:AV) (L:SH)=>∃v2 L2,aJ [v] L [v2] L2∧UL p bw s0 (m+ab.wts l) v2 L2)=Q;have hqg:∀(e ln:Int) (K:SH) (s':m7),gN K (s'.L p bw)→s'.Ok (m+ab.wts l)→s'.t=s0.t→s'.k=s0.k→Q (.tup [.Xm e,.Xm ln]) K:=λe ln K s' h1 h2 h3 h4=>by subst hQ;exact⟨_,_,aJ.pick h1 rfl,e,ln,s',rfl,rfl,h2,h3,h4⟩
  clear hQ;refine cg l.length (λi (s:m7)=>([.ptr bw 0 0,.lst (l.map ab.enc),.Xm i],s.L p bw)) (λi s=>s.Ok (m+ab.wts (l.take i))∧s.t=s0.t∧s.k=s0.k) s0 ⟨by simpa[ab.wts]using hs0,rfl,rfl⟩ (.refl _ _) ?_;rintro i s hi ⟨hs,hst,hsk⟩;dsimp only;unfold kI;generalize hnx:(λ(vs':List AV) (L':SH)=>∃j o',i<j∧j≤l.length∧(m7.Ok o' (m+ab.wts (l.take j))∧o'.t=s0.t∧o'.k=s0.k)∧aJ vs' L' [.ptr bw 0 0,.lst (l.map ab.enc),.Xm (j:Int)] (m7.L p bw o'))=nx;rcases Nat.lt_or_ge i l.length with g1|g1
  ·have hd:=bF g1;have hi1:=aE g1 Xh;have hx:=FK g1;have hwi:=ab.wts_succ g1;have hwl:=ab.wts_take l (i+1);have hwe:=(l[i]).wt_eq;have c1:=SD (SC p bw s l[i] (m+ab.wts (l.take i)) hw Xh hs Xh Xh);have hn:∀(s':m7) (L':SH),gN L' (s'.L p bw)→s'.Ok (m+ab.wts (l.take (i+1)))→s'.t=s0.t→s'.k=s0.k→nx [.ptr bw 0 0,.lst (l.map ab.enc),.Xm ((i+1:Nat):Int)] L':=by intro s' L' q1 q2 q3 q4;subst hnx;exact⟨i+1,s',Xh,Xh,⟨q2,q3,q4⟩,aJ.pick q1 rfl⟩
   clear hnx;generalize hxx:l[i]=x at *
   repeat' (first|refine st ?_|((with_reducible refine aX 91 ?_);(refine A5 c1 ?_;rintro _ _ ⟨e1,s1,rfl,rfl,hs1,ht1,hk1⟩))|refine sb λnb_ hnb_=>?_|refine s2 (λh=>?_) λh=>?_|fail)
   have hbk:=λ(q:Nat) (h:q≤m+ab.wts (l.take (i+1))) (s':m7) (h2:s'.Ok q)=>(⟨h2.a0,h2.ak,h2.k6,h2.p0,h2.e0,by have:=h2.pm;omega,by have:=h2.em;omega⟩:s'.Ok (m+ab.wts (l.take (i+1))));have hbl:=λ(s':m7) (h2:s'.Ok (m+ab.wts (l.take (i+1))))=>(⟨h2.a0,h2.ak,h2.k6,h2.p0,h2.e0,by have:=h2.pm;omega,by have:=h2.em;omega⟩:s'.Ok (m+ab.wts l));have key:∀e:Int,(e=0→s1.k<6)→gm Q nx [.ptr bw 0 0,.lst (l.map ab.enc),.Xm (i:Int),.pptr [x.row] 0 0,.Xm e] (s1.L p bw):=by
    intro e he;unfold gm;unfold m7.L m7.row;by_cases h0:e=0
    ·subst h0;have hk6:=he rfl;have hzero:∀(k:Nat) (rows:List (List AV)),k≤rows.length→(rows.take k++[G8])[k]? =some G8:=λk rows h=>by rw[VK (by rw[V5];omega),V5,Wq h,Nat.sub_self];rfl
     have hz:=hzero s1.k (s1.ar.map ab.enc) (by simpa using hs1.ak)
     repeat' (first|refine Cy ?_ (λe=>by have:=hs1.a0 e;have:=hs1.ak;simp_all)|refine st ?_|refine I2 (r:=G8) rp Xj rp (by simpa using hs1.ak) (λe=>by simp[hs1.a0 e]) Xh Xh Xj (λnb_ hnb_=>?_)|refine sb λnb_ hnb_=>?_|refine s2 (λh=>?_) λh=>?_|fail)
     rename_i bt hbt;have hrows:(List.take s1.k (s1.ar.map ab.enc)++[G8]).set s1.k x.row=(s1.ar.take s1.k++[x]).map ab.enc:=by
      have hl:(List.take s1.k (s1.ar.map ab.enc)).length=s1.k:=by rw[V5,WH,Wq hs1.ak]
      rw[List.set_append_right _ _ Xh,hl,Nat.sub_self,VF,List.map_take,←ab.enc_row];rfl
     let s2:m7:={s1 with o1:=some nb_,ar:=s1.ar.take s1.k++[x],k:=s1.k+1}
     have hs2:s2.Ok (m+ab.wts (l.take i)+1):=⟨nofun,by simp[s2,Wq hs1.ak],by show s1.k+1≤6;omega,hs1.p0,hs1.e0,hs1.pm,hs1.em⟩;have c2:=ih (ab.wts x.body) Xh x.body s2 (m+ab.wts (l.take i)+1) (VC _) (by show s1.t<_;omega) hs2 Xh;refine Gx (R:=[(bt,?tmp)]) c2 ?hp ?hk
     case hp=>
      unfold m7.L m7.row;dsimp only[ae,am,s2];rw[←hrows];exact Sy _ _ _ _
     rintro _ _ ⟨e2,ln2,s3,rfl,rfl,hs3,ht3,hk3⟩;have key2:∀(tmp:Nat×Blk) (e ln:Int) (s4:m7),s4.Ok (m+ab.wts (l.take (i+1)))→s4.t=s0.t→s4.k=s1.k+1→gk Q nx [.ptr bw 0 0,.lst (l.map ab.enc),.Xm (i:Int),.Xm e,.Xm ln] (s4.L p bw++[tmp]):=by
      intro tmp e ln s4 h4 ht4 hk4;obtain⟨t4,o1,ar4,k4,o2,sp4,o3,se4⟩:=s4;dsimp only at ht4 hk4;subst ht4;subst hk4;rcases o1 with _|b4
      ·exfalso;have:=h4.a0 rfl;have:=h4.ak;simp_all
      unfold gk;unfold m7.L m7.row;dsimp only[ae,am,List.cons_append,List.nil_append];rw[List.append_assoc];have es:IntKind.i64.wrap (((s1.k+1:Nat):Int)-1)=(s1.k:Int):=by rw[IntWalk.i64_in _ Xh];omega
      by_cases h0:e=0
      ·subst h0
       repeat' (first|refine st ?_|refine Ao ?_ (WZ _) rp rfl|refine sb λnb_ hnb_=>?_|refine s2 (λh=>?_) λh=>?_|fail)
       exact hn ⟨s0.t,some b4,ar4,s1.k,o2,sp4,o3,se4⟩ _ (.one (.here _) (.one (.here _) (.slot (.here _) (.slotl (.here _))))) ⟨nofun,by have:=h4.ak;dsimp only at *;omega,by dsimp only;omega,h4.p0,h4.e0,h4.pm,h4.em⟩ rfl (by dsimp only;omega)
      ·have d0:decide (e≠0)=true:=by simpa using h0
       repeat' (first|refine st ?_|refine Ao ?_ (WZ _) rp rfl|refine sb λnb_ hnb_=>?_|refine s2 (λh=>?_) λh=>?_|fail)
       exact hqg e ln _ ⟨s0.t,some b4,ar4,s1.k,o2,sp4,o3,se4⟩ (.one (.here _) (.one (.here _) (.slot (.here _) (.slotl (.here _))))) (hbl _ ⟨nofun,by have:=h4.ak;dsimp only at *;omega,by dsimp only;omega,h4.p0,h4.e0,h4.pm,h4.em⟩) rfl (by dsimp only;omega)
     have ht3':s3.t=s0.t:=by rw[ht3];show s1.t=s0.t;omega
     have hk3':s3.k=s1.k+1:=hk3;have c3:=ih (ab.wts x.els) Xh x.els s3 (m+ab.wts (l.take i)+1+ab.wts x.body) (VC _) Xh hs3 Xh;by_cases h2:e2=0
     ·have d2:decide (e2=0)=true:=by simpa using h2
      unfold gl
      repeat' (first|refine st ?_|refine sb λnb_ hnb_=>?_|refine s2 (λh=>?_) λh=>?_|fail)
      refine Gx c3 (.refl _) ?_;rintro _ _ ⟨e3,ln3,s4,rfl,rfl,hs4,ht4,hk4⟩;unfold kH
      repeat' (first|with_reducible exact key2 _ _ _ _ (hbk _ Xh _ hs4) Xh Xh|refine st ?_|refine sb λnb_ hnb_=>?_|refine s2 (λh=>?_) λh=>?_|fail)
     ·have d2:decide (e2=0)=false:=by simpa using h2
      unfold gl
      repeat' (first|with_reducible exact key2 _ _ _ _ (hbk _ Xh _ hs3) Xh Xh|refine st ?_|refine sb λnb_ hnb_=>?_|refine s2 (λh=>?_) λh=>?_|fail)
    ·have d0:decide (e≠0)=true:=by simpa using h0
     repeat' (first|refine st ?_|refine sb λnb_ hnb_=>?_|refine s2 (λh=>?_) λh=>?_|fail)
     exact hqg e _ _ s1 (.one (.here _) (.slot (.here _) (.slot (.here _) (.slotl .last)))) (hbl _ (hbk _ Xh _ hs1)) Xh Xh
   have hk7:=hs1.k6;unfold ab.row at key;have ek:=aE (i:=s1.k) (n:=7) Xh Xh;by_cases h6:s1.k<6
   ·have d6:decide ((6:Int)<((s1.k+1:Nat):Int))=false:=by simp;omega
    repeat' (first|refine Cy ?_ (λe=>by have:=hs1.a0 e;have:=hs1.ak;simp_all)|with_reducible refine key _ (λ_=>h6)|refine st ?_|refine sb λnb_ hnb_=>?_|refine s2 (λh=>?_) λh=>?_|fail)
   ·have d6:decide ((6:Int)<((s1.k+1:Nat):Int))=true:=by simp;omega
    repeat' (first|refine Cy ?_ (λe=>by have:=hs1.a0 e;have:=hs1.ak;simp_all)|with_reducible refine key _ (λh=>absurd h Xl)|refine st ?_|refine sb λnb_ hnb_=>?_|refine s2 (λh=>?_) λh=>?_|fail)
  ·have hd:=bI g1
   repeat' (first|refine st ?_|refine sb λnb_ hnb_=>?_|refine s2 (λh=>?_) λh=>?_|fail)
   have hil:i=l.length:=by omega
   subst hil;rw[List.take_length]at hs;exact hqg 0 0 _ s (.one (.here _) (.slot (.here _) (.slot (.here _) (.slotl .last)))) hs hst hsk
theorem F4(p:bP)(hw:p.wt<2^40):TE 28 [.agg p.enc]:=by
 have hl1:=p.decls_len;have hl2:=p.threads_len;have hsum:gG (λt:ah=>ab.wts t.body) p.threads≤p.wt:=by have:=I3 (f:=λt:ah=>ab.wts t.body) (g:=ah.wt) (λt=>by unfold ah.wt;omega) p.threads;unfold bP.wt;unfold gG at *;omega
 have c1:=OB p hw;have c2:=Qa p.decls Xh;have c3:=Ml p hw;refine te λQ hq=>AD _ _ _ ?_
 unfold nR
 repeat' (first|refine st ?_|(refine pf 54 ?_;refine pm (c1) ?_)|(refine pf 55 ?_;refine pm (c2) ?_)|(refine pf 56 ?_;refine pm (c3) ?_)|refine sb λnb_ hnb_=>?_|refine s2 (λh=>?_) λh=>?_|fail)
 all_goals first|exact hq _ _ _|skip
 rename_i h4;have h4:p.threads.length≤4:=by simp at h4;omega
 refine F3 p.threads.length (λi n=>[.pptr [p.enc] 0 0,.Xm n,.Xm i]) 0 Xh rfl (λi n h1 hd hi nx hn=>?_) (λi n h1 hd nx=>?_)
 all_goals unfold mg
 ·have hx:=aw (f:=ah.enc) h1;have hwt:=p.thread_wt h1;have c4:=P9 _ p.threads[i].body (VC _) (by have:ab.wts p.threads[i].body<p.threads[i].wt:=(by unfold ah.wt;omega);omega)
  repeat' (first|refine st ?_|(refine pf 57 ?_;refine pm (c4) ?_)|refine sb λnb_ hnb_=>?_|refine s2 (λh=>?_) λh=>?_|fail)
  exact hn _
 ·repeat' (first|refine st ?_|refine sb λnb_ hnb_=>?_|refine s2 (λh=>?_) λh=>?_|fail)
  ·exact hq _ _ _
  generalize nb_=bw at *;clear hd h1;refine cg p.threads.length (λi (s:m7)=>([.pptr [p.enc] 0 0,.ptr bw 0 0,.Xm i],s.L p bw)) (λi s=>s.Ok (gG (λt:ah=>ab.wts t.body) (p.threads.take i))∧s.k=0) ⟨0,none,[],0,none,[],none,[]⟩ ⟨⟨λ_=>rfl,VC _,We _,λ_=>rfl,λ_=>rfl,We _,We _⟩,rfl⟩ ?_ ?_
  ·exact aJ.box (K:=[]) (R:=[]) (.refl _) (.cons (.refl _) (.cons (.refl _) (.cons (.refl _) (.cons .nile (.cons .nile (.cons .nile .nil))))))
  ·rintro i s hi ⟨hs1,hk1⟩;dsimp only;unfold mf;generalize hnx:(λ(vs':List AV) (L':SH)=>∃j o',i<j∧j≤p.threads.length∧(m7.Ok o' (gG (λt:ah=>ab.wts t.body) (p.threads.take j))∧o'.k=0)∧aJ vs' L' [.pptr [p.enc] 0 0,.ptr bw 0 0,.Xm (j:Int)] (m7.L p bw o'))=nx;rcases Nat.lt_or_ge i p.threads.length with g1|g1
   ·have hd:=bF g1;have hi1:=aE g1 Xh;have hx:=aw (f:=ah.enc) g1;have hss:=Kd (f:=λt:ah=>ab.wts t.body) g1;have hst:=Ec (λt:ah=>ab.wts t.body) p.threads (i+1);have c5:=SE p bw hw _ p.threads[i].body {s with t:=i} (gG (λt:ah=>ab.wts t.body) (p.threads.take i)) (VC _) g1 ⟨hs1.a0,hs1.ak,hs1.k6,hs1.p0,hs1.e0,hs1.pm,hs1.em⟩ Xh;rw[←hss]at c5;unfold m7.L m7.row at c5 ⊢
    repeat' (first|refine st ?_|((with_reducible refine aX 58 ?_);(refine A5 c5 ?_;rintro _ _ ⟨e3,ln3,s3,rfl,rfl,hs3,ht3,hk3⟩))|refine sb λnb_ hnb_=>?_|refine s2 (λh=>?_) λh=>?_|fail)
    ·exact hq _ _ _
    ·subst hnx;exact⟨i+1,s3,Xh,Xh,⟨hs3,by rw[hk3];exact hk1⟩,.refl _ _⟩
   ·have hd:=bI g1
    repeat' (first|refine st ?_|refine sb λnb_ hnb_=>?_|refine s2 (λh=>?_) λh=>?_|fail)
    exact hq _ _ _
end
section
set_option maxRecDepth 100000
def yv(Q:R)(c:SH)(b d:AV):Prop:=dO 1 b c λe=>wb .add 3 e (.Xm 1) λf=>W.nilchk b λg=>W.faddr 1 g λh=>W.store 1 h f c λa=>(true=true)∧(W.nilchk b λi=>aM 0 i [] 3 a λj k=>W.nilchk b λl=>aM 1 l [rm 3 k] 7 a λm s=>wb .sub 3 m (.Xm 1) λn=>di [] 9 1 j n a λo t=>dl [] 10 o a λp u=>W.conv .i64 p λq=>wb .rem 3 q d λr=>Q r a)
def mj(a c:AV)(L:SH)(Q:R):Prop:=(true=true)∧(W.nilchk a λf=>aM 1 f [] 3 L λg h=>W.nilchk a λi=>aM 0 i [rm 3 h] 7 L λj r=>W.len j λk=>wb .geq 3 g k λb=>W.dgrd b false (λl=>l c L rz) L λm d s=>W.dgrd b false (λn=>wb .lss 3 m (.Xm 1) λo=>n o d rz) d λp e t=>W.pick b (.bool true) p λq=>wk q (Q (.Xm 0) e) ((yv Q e a c)))
theorem yw(t0 t1:AV)(L:SH)(Q:R)(h:mj t0 t1 L Q):af Tryz.prog 34 [t0,t1] L Q:=
 fs [] [] [] [(1,[0,1,3,7,0,16,48,112,240,511,1023,2047,4095,8191]),(4,[0,1,3,7,0,16,48,112,240,511,1023,2047,0,8191,16383])] Tryz.func34 h
def Es(c:AV)(L:SH)(Q:R):Prop:=W.alloc [(.Xm 0),(.Xm 0),(.str []),.nils] L λa d=>W.build [(.Xm 0),(.Xm 0),(.str []),.nils] [(0,1,(.Xm 1)),(1,1,c)] λe=>W.store 4 a e d λb=>W.load true 4 a b λf=>Q f b
theorem I6(t0:AV)(L:SH)(Q:R)(h:Es t0 L Q):af Tryz.prog 37 [t0] L Q:=
 fs [] [] [] [] Tryz.func37 h
def Bb(c:AV)(L:SH)(Q:R):Prop:=W.alloc [(.Xm 0),(.Xm 0),(.str []),.nils] L λa d=>W.build [(.Xm 0),(.Xm 0),(.str []),.nils] [(0,1,(.Xm 2)),(2,1,c)] λe=>W.store 4 a e d λb=>W.load true 4 a b λf=>Q f b
theorem G9(t0:AV)(L:SH)(Q:R)(h:Bb t0 L Q):af Tryz.prog 99 [t0] L Q:=
 fs [] [] [] [] Tryz.func99 h
def sL(d e f:AV)(L:SH)(Q:R):Prop:=W.box e L λg h=>W.box f h λi j=>W.alloc [(.Xm 0),(.Xm 0),(.str []),.nils] j λb k=>W.frz1 g k λl m=>W.frz1 i m λn a=>bZ 4 l a λo=>bZ 4 n a λp=>W.bslice 4 [(.Xm 0),(.Xm 0),(.str []),.nils] 2 [(0,o),(1,p)] a λq r=>W.build [(.Xm 0),(.Xm 0),(.str []),.nils] [(0,1,d),(3,1,q)] λs=>W.store 4 b s r λc=>W.load true 4 b c λt=>Q t c
theorem Et(t0 t1 t2:AV)(L:SH)(Q:R)(h:sL t0 t1 t2 L Q):af Tryz.prog 98 [t0,t1,t2] L Q:=
 fs [] [] [(0,[4,5])] [] Tryz.func98 h
def sM(d e:AV)(L:SH)(Q:R):Prop:=W.box e L λf g=>W.alloc [(.Xm 0),(.Xm 0),(.str []),(.str []),.nils,(.Xm 0),(.Xm 0),(.str []),.nils,.nils,.nils] g λa h=>W.frz1 f h λi b=>bZ 4 i b λj=>W.build [(.Xm 0),(.Xm 0),(.str []),(.str []),.nils,(.Xm 0),(.Xm 0),(.str []),.nils,.nils,.nils] [(0,1,(.Xm 1)),(2,1,d),(5,4,j)] λk=>W.store 11 a k b λc=>W.load true 11 a c λl=>Q l c
theorem Eu(t0 t1:AV)(L:SH)(Q:R)(h:sM t0 t1 L Q):af Tryz.prog 36 [t0,t1] L Q:=
 fs [] [] [(0,[3])] [] Tryz.func36 h
def yx(L:SH)(Q:R):Prop:=W.build [(.Xm 0),(.Xm 0),(.str []),(.Xm 0),(.Xm 0),(.str [])] [(0,1,(.Xm 1)),(2,1,(.str [120]))] λa=>W.build [(.Xm 0),(.Xm 0),(.str []),(.Xm 0),(.Xm 0),(.str [])] [(0,1,(.Xm 1)),(2,1,(.str [121])),(4,1,(.Xm 1))] λb=>W.build [(.Xm 0),(.Xm 0),(.str []),(.Xm 0),(.Xm 0),(.str [])] [(0,1,(.Xm 2)),(2,1,(.str [118]))] λc=>W.build [(.Xm 0),(.Xm 0),(.str []),(.Xm 0),(.Xm 0),(.str [])] [(0,1,(.Xm 1)),(2,1,(.str [113])),(3,1,(.Xm 2))] λd=>W.build [(.Xm 0),(.Xm 0),(.str []),(.Xm 0),(.Xm 0),(.str [])] [(0,1,(.Xm 3)),(2,1,(.str [109]))] λe=>W.build [(.Xm 0),(.Xm 0),(.str []),(.Xm 0),(.Xm 0),(.str [])] [(0,1,(.Xm 3)),(2,1,(.str [110]))] λf=>W.build [(.Xm 0),(.Xm 0),(.str []),(.Xm 0),(.Xm 0),(.str [])] [(0,1,(.Xm 4)),(2,1,(.str [114]))] λg=>W.build [(.Xm 0),(.Xm 0),(.str []),(.Xm 0),(.Xm 0),(.str [])] [(0,1,(.Xm 5)),(2,1,(.str [99])),(5,1,(.str [109]))] λh=>W.build [(.Xm 0),(.Xm 0),(.str []),(.Xm 0),(.Xm 0),(.str [])] [(0,1,(.Xm 6)),(2,1,(.str [102]))] λi=>W.bslice 6 [(.Xm 0),(.Xm 0),(.str []),(.Xm 0),(.Xm 0),(.str [])] 9 [(0,a),(1,b),(2,c),(3,d),(4,e),(5,f),(6,g),(7,h),(8,i)] L λj k=>Q j k
theorem Fn(L:SH)(Q:R)(h:yx L Q):af Tryz.prog 33 [] L Q:=
 fs [] [] [] [] Tryz.func33 h
def jK(a b:AV)(L:SH)(Q:R):Prop:=dO 7 a L λc=>wc (.fn 90 []) [c,b] L λd e=>wb .geq 3 d (.Xm 0) λf=>Q f e
theorem q8(t0 t1:AV)(L:SH)(Q:R)(h:jK t0 t1 L Q):af Tryz.prog 100 [t0,t1] L Q:=
 fs [] [] [] [] Tryz.func100 h
def uC(Q:R)(a c:AV)(d:SH):Prop:=W.store 4 a c d λb=>W.load true 4 a b λe=>Q e b
def uD(Q:R)(a b:AV)(c:SH):Prop:=wc (.fn 37 []) [b] c (uC Q a)
def uE(Q:R)(a c:AV)(d:SH):Prop:=W.store 4 a c d λb=>W.load true 4 a b λe=>Q e b
def uF(Q:R)(b c d:AV)(a:SH):Prop:=wJ 1 b d a λe=>wc (.fn 99 []) [e] a (uE Q c)
def uG(Q:R)(a c:AV)(d:SH):Prop:=W.bslice 4 [(.Xm 0),(.Xm 0),(.str []),.nils] 1 [(0,c)] d λe f=>W.build [(.Xm 0),(.Xm 0),(.str []),.nils] [(0,1,(.Xm 3)),(2,1,(.str [113])),(3,1,e)] λg=>W.store 4 a g f λb=>W.load true 4 a b λh=>Q h b
def uH(Q:R)(c:SH)(a d:AV)(e:SH)(f:Ns):Prop:=wn [] f [] c.names λh=>ds [] 19 4 a d e λb i=>W.load true 4 a b λg=>Q g b
def uI(Q:R)(b:SH)(c d e f:AV)(a:SH)(g:Ns):Prop:=wn [] g [] b.names λh=>wd [] 18 (.fn 98 []) [c,d,f] a (uH Q a e)
def uJ(Q:R)(b:SH)(c d e f:AV)(g h:Fp)(i:AV)(a:SH)(j:Ns):Prop:=wn [] j [] b.names λl=>wb .sub 3 c (.Xm 1) λk=>wd [rm 9 g,rm 8 h] 17 (.fn 97 []) [d,k] a (uI Q a e i f)
def uK(Q:R)(f:SH)(b c g h i:AV)(a:SH)(j:Ns):Prop:=wn [] j [] f.names λn=>di [] 8 1 g i a λk d=>dl [] 9 k a λl e=>wb .sub 3 b (.Xm 1) λm=>wd [rm 9 e,rm 8 d] 13 (.fn 97 []) [c,m] a (uJ Q a b c l h e d)
def uL(Q:R)(d:SH)(b e f:AV):Prop:=W.bslice 1 [(.Xm 0)] 6 [(0,(.Xm 6)),(1,(.Xm 7)),(2,(.Xm 8)),(3,(.Xm 11)),(4,(.Xm 13)),(5,(.Xm 17))] d λc a=>(true=true)∧(W.nilchk b λg=>aM 0 g [] 4 a λh j=>W.len c λi=>wd [] 7 (.fn 34 []) [h,i] a (uK Q a e b c f))
def uM(Q:R)(a:SH)(b f d e c:AV):Prop:=wb .lss 3 d (.Xm 7) λg=>wk g (dO 0 b a λh=>W.len e λi=>wc (.fn 34 []) [h,i] a (uF Q e c)) (wb .eql 3 d (.Xm 7) λj=>wk j (wc (.fn 97 []) [b,(.Xm 0)] a (uG Q c)) ((uL Q a b f c)))
def uN(Q:R)(e f g h b:AV)(i:SH):Prop:=wb .lss 3 b (.Xm 2) λa=>bB a false e i λj k=>wg a false (wb .eql 3 j (.Xm 0)) k λl m=>bB a false l m λc n=>bB c true b n λo p=>wg c true (wb .geq 3 o (.Xm 7)) p λq r=>wg a false (W.pick c q (.bool false)) r λs d=>W.pick a (.bool true) s λt=>wk t (dO 0 f d λu=>wc (.fn 34 []) [u,(.Xm 4)] d (uD Q g)) ((uM Q d f e b h g))
def gq(a c:AV)(L:SH)(Q:R):Prop:=W.alloc [(.Xm 0),(.Xm 0),(.str []),.nils] L λd e=>W.bslice 1 [(.str [])] 7 [(0,(.str [97])),(1,(.str [98])),(2,(.str [120])),(3,(.str [121])),(4,(.str [118])),(5,(.str [120])),(6,(.str [121]))] e λf b=>dO 0 a b λg=>wc (.fn 34 []) [g,(.Xm 10)] b (uN Q c a d f)
theorem jL(t0 t1:AV)(L:SH)(Q:R)(h:gq t0 t1 L Q):af Tryz.prog 97 [t0,t1] L Q:=
 fs [] [] [] [(10,[0,0,2,6,14,0,32,126,255,511,0,0,2048,7422,0,0,32768,130302,262143,524287])] Tryz.func97 h
def iQ(Q:R)(b d:AV)(a:SH):Prop:=(true=true)∧(W.nilchk b λe=>aM 7 e [] 4 a λc f=>W.nilchk b λg=>aM 7 g [rm 4 f] 8 a λh o=>W.len h λi=>wb .sub 3 i (.Xm 1) λj=>W.calm [] ⟨11,(dS c),[],[],false,[]⟩ (W.slice 1 c none (some j) none a λk=>wn (dS c) [] [] [] λp=>W.nilchk b λl=>W.faddr 7 l λm=>ds [] 14 1 m k a λn q=>Q d n))
def q9(Q:R)(a b c:AV)(d:SH):Prop:=wb .add 3 (.Xm 1) c λe=>wc (.fn 35 []) [a,b,e] d (iQ Q a)
def jM(a c d:AV)(L:SH)(Q:R):Prop:=dO 7 a L λe=>W.bslice 1 [(.str [])] 1 [(0,c)] L λf g=>W.append 1 16 e f g λh i=>W.nilchk a λj=>W.faddr 7 j λk=>W.store 1 k h i λb=>dO 0 a b λl=>wc (.fn 34 []) [l,(.Xm 2)] b (q9 Q a d)
theorem re(t0 t1 t2:AV)(L:SH)(Q:R)(h:jM t0 t1 t2 L Q):af Tryz.prog 101 [t0,t1,t2] L Q:=
 fs [] [] [] [(3,[0,0,2,6,14,0,32,96,224,480,992,2046,4095,8191,16383])] Tryz.func101 h
def rh(a:Kn)(b c d e f g:AV)(h:SH):Prop:=W.bslice 11 [(.Xm 0),(.Xm 0),(.str []),(.str []),.nils,(.Xm 0),(.Xm 0),(.str []),.nils,.nils,.nils] 1 [(0,g)] h λi j=>W.append 11 176 b i j λk l=>wb .add 3 c (.Xm 1) λm=>a [d,e,f,k,m] l
def iR(Q:R)(j:Vs)(k:SH)(l:Kn):Prop:=GC 0 1 2 7 8 j λc e f g d=>wb .lss 3 d f λb=>bB b true d k λm n=>wg b true (wb .eql 3 m (.Xm 0)) n λo p=>bB b true o p λa q=>bB a false c q λr s=>wg a false (W.nilchk r) s λt u=>wg a false (W.faddr 2 t) u λv h=>wg a false (wl v h) h λw x=>wg a false (wb .gtr 3 w (.Xm 0)) x λy z=>wg b true (W.pick a (.bool true) y) z λA i=>W.pick b A (.bool false) λB=>wk B (wc (.fn 62 []) [c,e] i (rh l g d c e f)) (Q g i)
def jN(a b c:AV)(L:SH)(Q:R):Prop:=W.loop (iR Q) [a,b,c,.nils,(.Xm 0)] L
theorem ri(t0 t1 t2:AV)(L:SH)(Q:R)(h:jN t0 t1 t2 L Q):af Tryz.prog 35 [t0,t1,t2] L Q:=
 fs [] [(3,[0,1,2,7,8])] [] [] Tryz.func35 h
def uO(Q:R)(c:SH)(a d:AV)(e:SH)(f:Ns):Prop:=wn [] f [] c.names λh=>ds [] 7 11 a d e λb i=>W.load true 11 a b λg=>Q g b
def uP(Q:R)(b:SH)(c d e:AV)(a:SH)(f:Ns):Prop:=wn [] f [] b.names λg=>wd [] 6 (.fn 36 []) [c,e] a (uO Q a d)
def jO(Q:R)(c:SH)(d e f:AV):Prop:=(true=true)∧(W.calm [] ⟨0,[],[],[],false,[]⟩ (W.bslice 1 [(.str [])] 4 [(0,(.str [120])),(1,(.str [121])),(2,(.str [120])),(3,(.str [118]))] c λb a=>wn [] [] (aa b) [] λg=>di [] 2 1 b e a λh i=>dl [] 3 h a λj k=>wd [rm 3 k,rm 2 i,rm 0 g] 5 (.fn 97 []) [d,(.Xm 1)] a (uP Q a j f)))
def uQ(Q:R)(c:SH)(a d:AV)(e:SH)(f:Ns):Prop:=wn [] f [] c.names λh=>ds [] 11 11 a d e λb i=>W.load true 11 a b λg=>Q g b
def uR(Q:R)(b:SH)(c d e:AV)(a:SH)(f:Ns):Prop:=wn [] f [] b.names λg=>wd [] 10 (.fn 36 []) [c,e] a (uQ Q a d)
def uS(Q:R)(b:SH)(c d e:AV)(f:Fp)(g:AV)(a:SH)(h:Ns):Prop:=wn [] h [] b.names λm=>di [] 6 1 d g a λi j=>dl [] 7 i a λk l=>wd [rm 7 l,rm 6 j,rm 0 f] 9 (.fn 97 []) [c,(.Xm 1)] a (uR Q a k e)
def jP(Q:R)(e:SH)(c f:AV):Prop:=(true=true)∧(W.calm [] ⟨0,[],[],[],false,[]⟩ (W.bslice 1 [(.str [])] 2 [(0,(.str [97])),(1,(.str [98]))] e λd a=>wn [] [] (aa d) [] λb=>W.nilchk c λg=>aM 0 g [rm 0 b] 4 a λh i=>wd [rm 0 b] 5 (.fn 34 []) [h,(.Xm 2)] a (uS Q a c d f b)))
def uT(Q:R)(c a d:AV)(e:SH):Prop:=W.build [(.Xm 0),(.Xm 0),(.str []),(.str []),.nils,(.Xm 0),(.Xm 0),(.str []),.nils,.nils,.nils] [(0,1,(.Xm 1)),(2,1,(.str [113])),(4,1,c),(5,4,d)] λf=>W.store 11 a f e λb=>W.load true 11 a b λg=>Q g b
def uU(Q:R)(a b c:AV)(d:SH):Prop:=W.bslice 4 [(.Xm 0),(.Xm 0),(.str []),.nils] 1 [(0,c)] d λe f=>wc (.fn 97 []) [a,(.Xm 1)] f (uT Q e b)
def uV(Q:R)(a b e:AV)(f:SH):Prop:=W.faddr 10 a λg=>W.store 1 g e f λc=>bZ 11 a c λh=>W.store 11 b h c λd=>W.load true 11 b d λi=>Q i d
def uW(Q:R)(e f c a g:AV)(b:SH):Prop:=wb .eql 3 g (.Xm 1) λh=>wk h (wb .sub 3 e (.Xm 1) λi=>wc (.fn 35 []) [f,i,(.Xm 1)] b (uV Q c a)) (bZ 11 c b λj=>W.store 11 a j b λd=>W.load true 11 a d λk=>Q k d)
def uX(Q:R)(a d e f g:AV)(h:SH):Prop:=W.build [(.Xm 0),(.Xm 0),(.str []),(.str []),.nils,(.Xm 0),(.Xm 0),(.str []),.nils,.nils,.nils] [(0,1,(.Xm 2)),(5,4,e),(9,1,g)] λi=>W.alloc [(.Xm 0),(.Xm 0),(.str []),(.str []),.nils,(.Xm 0),(.Xm 0),(.str []),.nils,.nils,.nils] h λb j=>W.store 11 b i j λc=>dO 0 a c λk=>wc (.fn 34 []) [k,(.Xm 2)] c (uW Q d a b f)
def rj(Q:R)(a b c d:AV)(e:SH):Prop:=wb .sub 3 a (.Xm 1) λf=>wc (.fn 35 []) [b,f,(.Xm 1)] e (uX Q b a d c)
def rk(Q:R)(d e f g a h:AV)(i:SH):Prop:=W.bslice 11 [(.Xm 0),(.Xm 0),(.str []),(.str []),.nils,(.Xm 0),(.Xm 0),(.str []),.nils,.nils,.nils] 1 [(0,h)] i λj k=>W.append 11 176 e j k λl m=>W.build [(.Xm 0),(.Xm 0),(.str []),(.str []),.nils,(.Xm 0),(.Xm 0),(.str []),.nils,.nils,.nils] [(0,1,(.Xm 3)),(5,4,f),(9,1,l)] λn=>qv [(.Xm 0),(.Xm 0),(.str []),(.str []),.nils,(.Xm 0),(.Xm 0),(.str []),.nils,.nils,.nils] 11 n m λo p=>W.nilchk d λq=>W.faddr 6 q λr=>W.store 1 r g p λb=>bZ 11 o b λs=>W.store 11 a s b λc=>W.load true 11 a c λt=>Q t c
def rl(Q:R)(a b c d e f:AV)(g:SH):Prop:=wc (.fn 36 []) [(.str [98]),f] g (rk Q a b c d e)
def rn(Q:R)(a b c d e f g:AV)(h:SH):Prop:=wc (.fn 98 []) [(.Xm 6),b,g] h (rl Q a c d e f)
def rq(Q:R)(a b c d e f:AV)(g:SH):Prop:=wc (.fn 37 []) [(.Xm 1)] g (rn Q a f b c d e)
def rr(Q:R)(a b c d e:AV)(f:SH):Prop:=wc (.fn 99 []) [(.str [98])] f (rq Q a e b c d)
def rt(Q:R)(b a c d e:AV)(f:SH):Prop:=wb .sub 3 b (.Xm 1) λg=>wc (.fn 35 []) [a,g,(.Xm 1)] f (rr Q a e c d)
def ru(Q:R)(a b c d e f:AV)(g:SH):Prop:=wc (.fn 98 []) [(.Xm 13),c,f] g (rt Q a b d e)
def rv(Q:R)(a b c d e:AV)(f:SH):Prop:=wc (.fn 37 []) [(.Xm 2)] f (ru Q a b e c d)
def uY(Q:R)(b:SH)(a c d:AV):Prop:=dO 6 a b λe=>W.nilchk a λf=>W.faddr 6 f λg=>W.store 1 g (.bool true) b λh=>wc (.fn 99 []) [(.str [98])] h (rv Q c a e d)
def rx(Q:R)(c a d:AV)(e:SH):Prop:=W.build [(.Xm 0),(.Xm 0),(.str []),(.str []),.nils,(.Xm 0),(.Xm 0),(.str []),.nils,.nils,.nils] [(0,1,(.Xm 4)),(2,1,c),(9,1,d)] λf=>W.store 11 a f e λb=>W.load true 11 a b λg=>Q g b
def uZ(Q:R)(c:SH)(d e f g:AV):Prop:=W.bslice 1 [(.str [])] 2 [(0,(.str [109])),(1,(.str [110]))] c λh a=>wb .sub 3 f (.Xm 8) λi=>wJ 1 h i a λb=>wb .sub 3 d (.Xm 1) λj=>wc (.fn 101 []) [e,b,j] a (rx Q b g)
def ry(Q:R)(c a d:AV)(e:SH):Prop:=W.build [(.Xm 0),(.Xm 0),(.str []),(.str []),.nils,(.Xm 0),(.Xm 0),(.str []),.nils,.nils,.nils] [(0,1,c),(2,1,(.str [114])),(9,1,d)] λf=>W.store 11 a f e λb=>W.load true 11 a b λg=>Q g b
def u0(Q:R)(a:SH)(b c d e:AV):Prop:=wb .sub 3 d (.Xm 10) λf=>wb .add 3 f (.Xm 5) λg=>wb .sub 3 b (.Xm 1) λh=>wc (.fn 101 []) [c,(.str [114]),h] a (ry Q g e)
def rB(Q:R)(d a e:AV)(f:SH):Prop:=W.build [(.Xm 0),(.Xm 0),(.str []),(.str []),.nils,(.Xm 0),(.Xm 0),(.str []),.nils,.nils,.nils] [(0,1,(.Xm 7)),(9,1,e)] λg=>qv [(.Xm 0),(.Xm 0),(.str []),(.str []),.nils,(.Xm 0),(.Xm 0),(.str []),.nils,.nils,.nils] 11 g f λh i=>W.nilchk d λj=>W.faddr 4 j λk=>W.store 1 k (.bool false) i λb=>bZ 11 h b λl=>W.store 11 a l b λc=>W.load true 11 a c λm=>Q m c
def rC(Q:R)(a b c:AV)(d:SH):Prop:=wb .add 3 (.Xm 1) c λe=>wc (.fn 35 []) [a,(.Xm 0),e] d (rB Q a b)
def u1(Q:R)(c:SH)(a d:AV):Prop:=W.nilchk a λe=>W.faddr 4 e λf=>W.store 1 f (.bool true) c λb=>dO 0 a b λg=>wc (.fn 34 []) [g,(.Xm 2)] b (rC Q a d)
def rD(Q:R)(d a e:AV)(f:SH):Prop:=W.build [(.Xm 0),(.Xm 0),(.str []),(.str []),.nils,(.Xm 0),(.Xm 0),(.str []),.nils,.nils,.nils] [(0,1,(.Xm 8)),(9,1,e)] λg=>qv [(.Xm 0),(.Xm 0),(.str []),(.str []),.nils,(.Xm 0),(.Xm 0),(.str []),.nils,.nils,.nils] 11 g f λh i=>W.nilchk d λj=>W.faddr 5 j λk=>W.store 1 k (.bool false) i λb=>bZ 11 h b λl=>W.store 11 a l b λc=>W.load true 11 a c λm=>Q m c
def u2(Q:R)(b:SH)(a c d:AV):Prop:=W.nilchk a λe=>W.faddr 5 e λf=>W.store 1 f (.bool true) b λg=>wb .sub 3 c (.Xm 1) λh=>wc (.fn 35 []) [a,h,(.Xm 2)] g (rD Q a d)
def rE(Q:R)(c a d:AV)(e:SH):Prop:=W.bslice 11 [(.Xm 0),(.Xm 0),(.str []),(.str []),.nils,(.Xm 0),(.Xm 0),(.str []),.nils,.nils,.nils] 2 [(0,c),(1,d)] e λf g=>W.build [(.Xm 0),(.Xm 0),(.str []),(.str []),.nils,(.Xm 0),(.Xm 0),(.str []),.nils,.nils,.nils] [(0,1,(.Xm 4)),(2,1,(.str [109])),(9,1,f)] λh=>W.store 11 a h g λb=>W.load true 11 a b λi=>Q i b
def rF(Q:R)(a b c:AV)(d:SH):Prop:=wc (.fn 36 []) [(.str [97]),c] d (rE Q a b)
def u3(Q:R)(a:SH)(b:AV):Prop:=W.build [(.Xm 0),(.Xm 0),(.str []),(.str []),.nils,(.Xm 0),(.Xm 0),(.str []),.nils,.nils,.nils] [(0,1,(.Xm 9)),(2,1,(.str [99]))] λc=>wc (.fn 99 []) [(.str [120])] a (rF Q c b)
def rG(Q:R)(a c:AV)(d:SH):Prop:=wb .add 3 (.Xm 10) c λe=>W.build [(.Xm 0),(.Xm 0),(.str []),(.str []),.nils,(.Xm 0),(.Xm 0),(.str []),.nils,.nils,.nils] [(0,1,e),(2,1,(.str [99]))] λf=>W.bslice 11 [(.Xm 0),(.Xm 0),(.str []),(.str []),.nils,(.Xm 0),(.Xm 0),(.str []),.nils,.nils,.nils] 1 [(0,f)] d λg h=>W.build [(.Xm 0),(.Xm 0),(.str []),(.str []),.nils,(.Xm 0),(.Xm 0),(.str []),.nils,.nils,.nils] [(0,1,(.Xm 4)),(2,1,(.str [109])),(9,1,g)] λi=>W.store 11 a i h λb=>W.load true 11 a b λj=>Q j b
def rH(Q:R)(a c:AV)(d:SH):Prop:=W.build [(.Xm 0),(.Xm 0),(.str []),(.str []),.nils,(.Xm 0),(.Xm 0),(.str []),.nils,.nils,.nils] [(0,1,(.Xm 14)),(2,1,(.str [102])),(5,4,c)] λe=>W.store 11 a e d λb=>W.load true 11 a b λf=>Q f b
def u4(Q:R)(b:SH)(a c:AV):Prop:=W.nilchk a λd=>W.faddr 3 d λe=>W.store 1 e (.bool true) b λf=>wc (.fn 97 []) [a,(.Xm 1)] f (rH Q c)
def u5(Q:R)(c:SH)(a:AV):Prop:=W.build [(.Xm 0),(.Xm 0),(.str []),(.str []),.nils,(.Xm 0),(.Xm 0),(.str []),.nils,.nils,.nils] [(0,1,(.Xm 15)),(2,1,(.str [97])),(3,1,(.str [102]))] λd=>W.store 11 a d c λb=>W.load true 11 a b λe=>Q e b
def rI(Q:R)(a c:AV)(d:SH):Prop:=W.store 11 a c d λb=>W.load true 11 a b λe=>Q e b
def rJ(Q:R)(a b:AV)(c:SH):Prop:=wc (.fn 36 []) [(.str [120]),b] c (rI Q a)
def rK(Q:R)(i:SH)(c j d:AV):Prop:=wb .eql 3 j (.Xm 17) λb=>bB b true c i λk l=>wg b true (W.nilchk k) l λm n=>wg b true (W.faddr 4 m) n λo e=>wg b true (wl o e) e λp q=>wg b true (W.un .not p) q λr s=>W.pick b r (.bool false) λa=>bB a true c s λt u=>wg a true (W.nilchk t) u λv w=>wg a true (W.faddr 0 v) w λx f=>wg a true (wl x f) f λy g=>W.grd a true (λz=>wc (.fn 34 []) [y,(.Xm 2)] g λA B=>z A B) g λC D=>wg a true (wb .eql 3 C (.Xm 1)) D λE h=>W.pick a E (.bool false) λF=>wk F ((u5 Q h d)) (wc (.fn 97 []) [c,(.Xm 1)] h (rJ Q d))
def rL(Q:R)(k:SH)(d e f:AV):Prop:=wb .eql 3 e (.Xm 16) λa=>bB a true d k λl m=>wg a true (W.nilchk l) m λn o=>wg a true (W.faddr 4 n) o λp g=>wg a true (wl p g) g λq r=>wg a true (W.un .not q) r λs t=>W.pick a s (.bool false) λb=>bB b true d t λu v=>wg b true (W.nilchk u) v λw x=>wg b true (W.faddr 6 w) x λy h=>wg b true (wl y h) h λz A=>wg b true (W.un .not z) A λB C=>W.pick b B (.bool false) λc=>bB c true d C λD E=>wg c true (W.nilchk D) E λF G=>wg c true (W.faddr 3 F) G λH i=>wg c true (wl H i) i λI J=>wg c true (W.un .not I) J λM j=>W.pick c M (.bool false) λN=>wk N ((u4 Q j d f)) ((rK Q j d e f))
def rM(Q:R)(h:SH)(b d i e:AV):Prop:=wb .eql 3 d (.Xm 15) λf=>bB f true i h λj k=>W.pick f j (.bool false) λa=>bB a true b k λl g=>W.grd a true (λm=>wc (.fn 100 []) [l,(.str [109])] g λn o=>m n o) g λp q=>wg a true (W.un .not p) q λr c=>W.pick a r (.bool false) λs=>wk s (dO 0 b c λt=>wc (.fn 34 []) [t,(.Xm 2)] c (rG Q e)) ((rL Q c b d e))
def rN(Q:R)(k:SH)(c d e f:AV):Prop:=wb .eql 3 d (.Xm 14) λg=>bB g true e k λl m=>W.pick g l (.bool false) λa=>bB a true c m λn o=>wg a true (W.nilchk n) o λp q=>wg a true (W.faddr 5 p) q λr h=>wg a true (wl r h) h λs t=>wg a true (W.un .not s) t λu v=>W.pick a u (.bool false) λb=>bB b true c v λw i=>W.grd b true (λx=>wc (.fn 100 []) [w,(.str [109])] i λy z=>x y z) i λA B=>wg b true (W.un .not A) B λC j=>W.pick b C (.bool false) λD=>wk D ((u3 Q j f)) ((rM Q j c d e f))
def rO(Q:R)(i:SH)(b j c d e:AV):Prop:=wb .eql 3 c (.Xm 13) λf=>bB f true d i λk l=>W.pick f k (.bool false) λa=>bB a true b l λm n=>wg a true (W.nilchk m) n λo p=>wg a true (W.faddr 5 o) p λq g=>wg a true (wl q g) g λr s=>wg a true (W.un .not r) s λt h=>W.pick a t (.bool false) λu=>wk u ((u2 Q h b j e)) ((rN Q h b c d e))
def rP(Q:R)(g:SH)(a h b c d:AV):Prop:=wb .eql 3 b (.Xm 12) λe=>bB e true c g λi f=>W.pick e i (.bool false) λj=>wk j ((u1 Q f a d)) ((rO Q f a h b c d))
def rQ(Q:R)(k:SH)(c e a f g:AV):Prop:=wb .eql 3 a (.Xm 10) λd=>bB d false a k λl m=>wg d false (wb .eql 3 l (.Xm 11)) m λn o=>W.pick d (.bool true) n λh=>bB h true f o λp q=>W.pick h p (.bool false) λb=>bB b true c q λr i=>W.grd b true (λs=>wc (.fn 100 []) [r,(.str [114])] i λt u=>s t u) i λv w=>wg b true (W.un .not v) w λx j=>W.pick b x (.bool false) λy=>wk y ((u0 Q j e c a g)) ((rP Q j c e a f g))
def rR(Q:R)(n:SH)(c e b f g:AV):Prop:=wb .eql 3 b (.Xm 8) λd=>bB d false b n λo p=>wg d false (wb .eql 3 o (.Xm 9)) p λq r=>W.pick d (.bool true) q λh=>bB h true f r λs t=>W.pick h s (.bool false) λa=>bB a true c t λu i=>W.grd a true (λv=>W.bslice 1 [(.str [])] 2 [(0,(.str [109])),(1,(.str [110]))] i λw x=>v w x) i λy z=>bB a true b z λA B=>wg a true (wb .sub 3 A (.Xm 8)) B λC j=>wg a true (W.idx 1 y C j) j λD k=>wg a true (wl D k) k λE l=>W.grd a true (λF=>wc (.fn 100 []) [u,E] l λG H=>F G H) l λI J=>wg a true (W.un .not I) J λM m=>W.pick a M (.bool false) λN=>wk N ((uZ Q m e c b g)) ((rQ Q m c e b f g))
def rS(Q:R)(g:SH)(a c d e h:AV):Prop:=wb .eql 3 d (.Xm 7) λb=>bB b true a g λi j=>wg b true (wb .gtr 3 i (.Xm 0)) j λk f=>W.pick b k (.bool false) λl=>wk l ((uY Q f c a e)) ((rR Q f c a d h e))
def rT(Q:R)(g:SH)(a b d e h:AV):Prop:=wb .eql 3 d (.Xm 6) λc=>bB c true a g λi j=>wg c true (wb .gtr 3 i (.Xm 0)) j λk f=>W.pick c k (.bool false) λl=>wk l (wc (.fn 97 []) [b,(.Xm 1)] f (rj Q a b e)) ((rS Q f a b d e h))
def iS(Q:R)(b:SH)(a e c d f:AV):Prop:=wb .eql 3 c (.Xm 5) λg=>wk g (wc (.fn 97 []) [a,(.Xm 0)] b (uU Q a d)) ((rT Q b e a c d f))
def rU(Q:R)(g c e d:AV)(j:SH):Prop:=wb .gtr 3 g (.Xm 0) λa=>bB a true c j λk l=>wg a true (W.nilchk k) l λm n=>wg a true (W.faddr 2 m) n λo h=>wg a true (wl o h) h λp q=>wg a true (wb .gtr 3 p (.Xm 0)) q λr s=>W.pick a r (.bool false) λb=>bB b true c s λt u=>wg b true (W.nilchk t) u λv w=>wg b true (W.faddr 4 v) w λx i=>wg b true (wl x i) i λy z=>wg b true (W.un .not y) z λA f=>W.pick b A (.bool false) λB=>wb .lss 3 d (.Xm 4) λC=>wk C ((jO Q f c d e)) (wb .eql 3 d (.Xm 4) λD=>wk D ((jP Q f c e)) ((iS Q f c g d e B)))
def gr(a d:AV)(L:SH)(Q:R):Prop:=W.alloc [(.Xm 0),(.Xm 0),(.str []),(.str []),.nils,(.Xm 0),(.Xm 0),(.str []),.nils,.nils,.nils] L λe b=>dO 2 a b λf=>wb .sub 3 f (.Xm 1) λg=>W.nilchk a λh=>W.faddr 2 h λi=>W.store 1 i g b λc=>dO 0 a c λj=>wc (.fn 34 []) [j,(.Xm 18)] c (rU Q d a e)
theorem jQ(t0 t1:AV)(L:SH)(Q:R)(h:gr t0 t1 L Q):af Tryz.prog 62 [t0,t1] L Q:=
 fs [] [] [(18,[9]),(28,[11]),(33,[12])] [(5,[0,0,3,7,0,16,63,127]),(7,[0,0,2,6,14,30,63,127,0,318,1023,2047])] Tryz.func62 h
def Ci(c:Kn)(d:Vs)(a:SH):Prop:=Nv 2 3 4 5 6 7 8 d λe f b g h i j=>aA 1 b a λk=>bZ 4 j a λl=>W.bslice 4 [(.str []),(.Xm 0),.nils,.nils] 1 [(0,l)] a λm n=>W.append 4 72 k m n λo p=>W.faddr 1 b λq=>W.store 1 q o p λr=>wb .add 3 i (.Xm 1) λs=>c [e,f,b,g,h,s] r
def Cj(h:Kn)(b:SH)(d f i j k l m:AV):Prop:=(true=true)∧(aM 3 d [] 1 b λa e=>di [rm 1 e] 3 1 f (.Xm 1) b λn u=>dl [rm 1 e] 4 n b λo v=>W.build [(.Xm 0),(.Xm 0),(.str []),(.str []),.nils,(.Xm 0),(.Xm 0),(.str []),.nils,.nils,.nils] [(0,1,(.Xm 13)),(2,1,o)] λp=>W.calm [rm 1 e] ⟨6,[],[],[],false,[]⟩ (W.bslice 11 [(.Xm 0),(.Xm 0),(.str []),(.str []),.nils,(.Xm 0),(.Xm 0),(.str []),.nils,.nils,.nils] 1 [(0,p)] b λc q=>wn [] [] (aa c) [] λw=>W.calm [] ⟨7,(aa a++aa c),(aa a),[],false,[]⟩ (W.append 11 176 a c q λg r=>wn (aa a++aa c) (aa a) (aa g) [] λx=>W.faddr 3 d λs=>ds [] 9 1 s g r λt y=>h [i,j,k,l,f,m,d] t)))
def Ck(p:Kn)(q:SH)(b c d e g h i j f:AV)(r:SH)(s:Ns):Prop:=wn [] s [] q.names λJ=>W.calm [] ⟨10,(aa b++aa f),(aa b),[],false,[]⟩ (W.append 11 176 b f r λk t=>wn (aa b++aa f) (aa b) (aa k) [] λM=>W.faddr 3 c λu=>ds [] 12 1 u k t λv N=>W.join (Ci p) λl=>wb .eql 3 d (.Xm 0) λa=>bB a true e v λw x=>wg a true (W.nilchk w) x λy z=>wg a true (W.faddr 0 y) z λA m=>wg a true (wl A m) m λB n=>W.grd a true (λC=>wc (.fn 34 []) [B,(.Xm 3)] n λD E=>C D E) n λF G=>wg a true (wb .eql 3 F (.Xm 2)) G λH o=>W.pick a H (.bool false) λI=>wk I ((Cj l o c g h e i j d)) (l [h,e,i,j,g,d,c] o))
def Cl(c:Kn)(d:SH)(a e f g h i j k:AV)(l:Fp)(m:AV)(b:SH)(n:Ns):Prop:=wn [] n [] d.names λp=>wb .add 3 (.Xm 1) m λo=>wd [rm 1 l] 9 (.fn 35 []) [a,(.Xm 2),o] b (Ck c b e f g a h i j k)
def bY(e:Kn)(f:Vs)(a:SH):Prop:=Nv 2 3 4 5 6 7 8 f λg c h i j k d=>(true=true)∧(aM 3 d [] 1 a λl b=>W.nilchk c λm=>aM 0 m [rm 1 b] 6 a λn o=>wd [rm 1 b] 7 (.fn 34 []) [n,(.Xm 3)] a (Cl e a c l d k j g h i b))
def Cm(i:Kn)(b:SH)(d f g j k l m n:AV):Prop:=(true=true)∧(aM 3 d [] 1 b λa e=>di [rm 1 e] 4 1 f g b λo w=>dl [rm 1 e] 5 o b λp x=>W.build [(.Xm 0),(.Xm 0),(.str []),(.str []),.nils,(.Xm 0),(.Xm 0),(.str []),.nils,.nils,.nils] [(0,1,(.Xm 12)),(2,1,p)] λq=>W.calm [rm 1 e] ⟨7,[],[],[],false,[]⟩ (W.bslice 11 [(.Xm 0),(.Xm 0),(.str []),(.str []),.nils,(.Xm 0),(.Xm 0),(.str []),.nils,.nils,.nils] 1 [(0,q)] b λc r=>wn [] [] (aa c) [] λy=>W.calm [] ⟨8,(aa a++aa c),(aa a),[],false,[]⟩ (W.append 11 176 a c r λh s=>wn (aa a++aa c) (aa a) (aa h) [] λz=>W.faddr 3 d λt=>ds [] 10 1 t h s λu A=>wb .add 3 g (.Xm 1) λv=>i [j,k,l,m,f,n,d,v] u)))
def iD(j:Kn)(k:Vs)(b:SH)(l:Kn):Prop:=RI 2 3 4 5 6 7 8 9 k λc d e a f g h i=>wb .lss 3 i a λm=>wk m ((Cm l b h f i c d e a g)) (j [c,d,e,a,f,g,h] b)
def Cn(k:Kn)(l:SH)(b a c e f g:AV):Prop:=W.nilchk b λm=>W.faddr 1 m λn=>W.store 1 n a l λh=>wJ 1 c a h λo=>W.bslice 1 [(.str [])] 2 [(0,(.str [97])),(1,(.str [98]))] h λp q=>W.build [(.str []),(.Xm 0),.nils,.nils] [(0,1,o),(2,1,p)] λr=>W.alloc [(.str []),(.Xm 0),.nils,.nils] q λd s=>W.store 4 d r s λi=>W.join (bY k) λj=>wb .eql 3 a (.Xm 0) λt=>wk t (W.loop (iD j) [e,b,f,g,c,a,d,(.Xm 1)] i) (j [e,b,f,g,c,a,d] i)
def Co(Q:R)(c d a e:AV)(f:SH):Prop:=W.bslice 11 [(.Xm 0),(.Xm 0),(.str []),(.str []),.nils,(.Xm 0),(.Xm 0),(.str []),.nils,.nils,.nils] 1 [(0,e)] f λg h=>W.build [(.str []),(.Xm 0),.nils,.nils] [(0,1,(.str [109,97,105,110])),(2,1,c),(3,1,g)] λi=>W.bslice 4 [(.str []),(.Xm 0),.nils,.nils] 1 [(0,i)] h λj k=>W.build [.nils,.nils] [(0,1,d),(1,1,j)] λl=>W.store 2 a l k λb=>W.load true 2 a b λm=>Q m b
def Cp(Q:R)(a b c d:AV)(e:SH):Prop:=wc (.fn 36 []) [(.str [120]),d] e (Co Q a b c)
def Cq(Q:R)(a b:AV)(c:SH):Prop:=W.bslice 1 [(.str [])] 2 [(0,(.str [97])),(1,(.str [98]))] c λd e=>wc (.fn 37 []) [(.Xm 1)] e (Cp Q d b a)
def Cr(Q:R)(a e c:AV)(b:SH):Prop:=W.ext 0 c λf=>W.ext 1 c λj=>wb .neq 74 f (.Xm 0) λg=>wk g (wc (.fn 33 []) [] b (Cq Q a)) (bZ 2 e b λh=>W.store 2 a h b λd=>W.load true 2 a d λi=>Q i d)
def fB(Q:R)(f:Vs)(a:SH)(g:Kn):Prop:=Ih 2 3 4 5 6 7 f λc h b d i e=>wb .lss 3 e d λj=>wk j ((Cn g a h e i c b d)) (bZ 2 b a λk=>wc (.fn 28 []) [k] a (Cr Q c b))
def AE(Q:R)(a b c d:AV)(e:SH):Prop:=wb .add 3 (.Xm 2) d λf=>W.bslice 1 [(.str [])] 4 [(0,(.str [109,97,105,110])),(1,(.str [116,49])),(2,(.str [116,50])),(3,(.str [116,51]))] e λg h=>W.loop (fB Q) [a,b,c,f,g,(.Xm 0)] h
def AF(Q:R)(a d e:AV)(f:SH):Prop:=W.build [.nils,.nils] [(0,1,e)] λg=>W.alloc [.nils,.nils] f λb h=>W.store 2 b g h λc=>dO 0 a c λi=>wc (.fn 34 []) [i,(.Xm 3)] c (AE Q d a b)
def ql(a:AV)(L:SH)(Q:R):Prop:=W.alloc [.nils,.nils] L λb c=>W.build [.nils,(.Xm 0)] [(0,1,a)] λd=>W.box d c λe f=>W.build [.nilp,(.Xm 0),(.Xm 0),(.bool false),(.bool false),(.bool false),(.bool false),.nils] [(0,1,e),(2,1,(.Xm 20))] λg=>W.box g f λh i=>wc (.fn 33 []) [] i (AF Q h b)
theorem Cs(t0:AV)(L:SH)(Q:R)(h:ql t0 L Q):af Tryz.prog 20 [t0] L Q:=
 fs [(13,[2,3,4,5,6,7,8]),(17,[2,3,4,5,6,7,8])] [(12,[2,3,4,5,6,7,8,9]),(6,[2,3,4,5,6,7])] [] [(14,[0,1,0,0,12,28,60,124,255,511,1023]),(15,[0,1,0,0,8,24,56,120,248,508,1023,2047,4095]),(17,[0,1,0,4,12,28,60,127,255,511])] Tryz.func20 h
def Ha(Q:R)(b a:AV)(e:SH):Prop:=W.ext 0 a λf=>W.ext 1 a λj=>W.ext 2 a λk=>qv [.nils,.nils,.nils,.nils,.nils,.nils,.nils] 7 f e λg c=>bZ 7 g c λh=>W.store 7 b h c λd=>W.load true 7 b d λi=>Q i d
def Bc(a:AV)(L:SH)(Q:R):Prop:=W.alloc [.nils,.nils,.nils,.nils,.nils,.nils,.nils] L λb c=>wc (.fn 20 []) [a] c λd e=>wc (.fn 19 []) [d] e (Ha Q b)
theorem Hb(t0:AV)(L:SH)(Q:R)(h:Bc t0 L Q):af Tryz.prog 7 [t0] L Q:=
 fs [] [] [(1,[3])] [] Tryz.func7 h
end
section
set_option maxRecDepth 100000
def aN(l:List UInt8)(at_:Nat):Blk:=⟨2,[[.lst (l.map fx),.Xm (at_:Int)]]⟩
theorem Lm(bt:Nat)(l:List UInt8)(a:Nat)(n:Int)(hl:l.length<2^40)(ha:a≤l.length):
  af Tryz.prog 34 [.ptr bt 0 0,.Xm n] [(bt,aN l a)] λu K=>∃r a':Nat,u=.Xm (r:Int)∧((r:Int)<n∨r=0)∧K=[(bt,aN l a')]∧a'≤l.length:=by
 unfold aN;refine yw _ _ _ _ ?_;unfold mj;generalize hQ:(λ(u:AV) (K:SH)=>∃r a':Nat,u=AV.Xm (r:Int)∧((r:Int)<n∨r=0)∧K=[(bt,(⟨2,[[.lst (l.map fx),.Xm (a':Int)]]⟩:Blk))]∧a'≤l.length)=Q;have hq:∀(r a':Nat),((r:Int)<n∨r=0)→a'≤l.length→Q (.Xm (r:Int)) [(bt,⟨2,[[.lst (l.map fx),.Xm (a':Int)]]⟩)]:=λr a' h1 h2=>by subst hQ;exact⟨r,a',rfl,h1,rfl,h2⟩
 clear hQ;rcases VG a l.length with g|g
 ·have d1:decide ((l.length:Int)≤(a:Int))=false:=by simp;omega
  have hx:=aw (f:=fx) g;have e1:=aE g Xh;have e2:IntKind.i64.wrap (((a+1:Nat):Int)-1)=(a:Int):=by rw[Wr _ Xh];omega
  by_cases hn:n<1
  ·have d2:decide (n<1)=true:=by simpa using hn
   repeat' (first|refine st ?_|refine sb λnb_ hnb_=>?_|refine s2 (λh=>?_) λh=>?_|fail)
   exact hq 0 a (.inr rfl) ha
  ·have d2:decide (n<1)=false:=by simpa using hn
   have hn0:n≠0:=by omega
   repeat' (first|refine st ?_|refine sb λnb_ hnb_=>?_|refine s2 (λh=>?_) λh=>?_|fail)
   have hb:(l[a].toNat:Int)<256:=by have:=l[a].toNat_lt;omega
   have e3:IntKind.i64.wrap (l[a].toNat:Int)=(l[a].toNat:Int):=by rw[Wr _ Xh]
   rw[e3];have h5:(l[a].toNat:Int).tmod n=(((l[a].toNat:Int).tmod n).toNat:Nat):=by have:=Int.tmod_nonneg n (Int.natCast_nonneg l[a].toNat);omega
   rw[h5];exact hq _ (a+1) (.inl (by rw[←h5];exact Int.tmod_lt_of_pos _ Xh)) Xh
 ·have d1:decide ((l.length:Int)≤(a:Int))=true:=by simp;omega
  repeat' (first|refine st ?_|refine sb λnb_ hnb_=>?_|refine s2 (λh=>?_) λh=>?_|fail)
  exact hq 0 a (.inr rfl) ha
def Hd(n:Int):ao:=.mk 1 n [] []
def sN(s:aZ):ao:=.mk 2 0 s []
theorem He(n:Int):az Tryz.prog 37 [.Xm n] (.agg (Hd n).row):=by
 refine af.fz (I6 _ _ _ ?_);unfold Es
 repeat' (first|refine st ?_|refine sb λnb_ hnb_=>?_|refine s2 (λh=>?_) λh=>?_|fail)
 exact⟨_,[],aJ.all (Fz.aggs (.cons (.refl _) (.cons (.refl _) (.cons (.refl _) (.cons .nils .nil))))),rfl,rfl⟩
theorem yy(s:aZ):az Tryz.prog 99 [.str s] (.agg (sN s).row):=by
 refine af.fz (G9 _ _ _ ?_);unfold Bb
 repeat' (first|refine st ?_|refine sb λnb_ hnb_=>?_|refine s2 (λh=>?_) λh=>?_|fail)
 exact⟨_,[],aJ.all (Fz.aggs (.cons (.refl _) (.cons (.refl _) (.cons (.refl _) (.cons .nils .nil))))),rfl,rfl⟩
def Mn(op:Int)(a b:ao):ao:=.mk op 0 [] [a,b]
theorem Ev(op:Int)(a b:ao):az Tryz.prog 98 [.Xm op,.agg a.row,.agg b.row] (.agg (Mn op a b).row):=by
 refine af.fz (Et _ _ _ _ _ ?_);unfold sL
 repeat' (first|refine st ?_|refine sb λnb_ hnb_=>?_|refine s2 (λh=>?_) λh=>?_|fail)
 exact⟨_,[],aJ.all (Fz.aggs (.cons (.refl _) (.cons (.refl _) (.cons (.refl _) (.cons (Fz.sls (l:=[a,b]) (f:=ao.enc) (size:=4) (rows:=[a.row,b.row]) (.head _) (by simp[ao.enc_row]) Xl rfl) .nil))))),rfl,rfl⟩
def jR:ao:=.mk 0 0 [] []
def cB(s:aZ)(e:ao):ab:=.mk 1 0 s [] [] e [] []
theorem cD(s:aZ)(e:ao):az Tryz.prog 36 [.str s,.agg e.row] (.agg (cB s e).row):=by
 refine af.fz (Eu _ _ _ _ ?_);unfold sM
 repeat' (first|refine st ?_|refine sb λnb_ hnb_=>?_|refine s2 (λh=>?_) λh=>?_|fail)
 exact⟨_,[],aJ.all (Fz.aggs (.cons (.refl _) (.cons (.refl _) (.cons (.refl _) (.cons (.refl _) (.cons .nils (.cons (.refl _) (.cons (.refl _) (.cons (.refl _) (.cons (.refl _) (.cons .nils (.cons .nils .nil)))))))))))),rfl,rfl⟩
def bA:List aI:=[⟨1,0,[120],0,0,[]⟩,⟨1,0,[121],0,1,[]⟩,⟨2,0,[118],0,0,[]⟩,⟨1,0,[113],2,0,[]⟩,⟨3,0,[109],0,0,[]⟩,⟨3,0,[110],0,0,[]⟩,⟨4,0,[114],0,0,[]⟩,⟨5,0,[99],0,0,[109]⟩,⟨6,0,[102],0,0,[]⟩]
theorem yz:az Tryz.prog 33 [] (.lst (bA.map aI.enc)):=by
 refine af.fz (Fn _ _ ?_);unfold yx
 repeat' (first|refine st ?_|refine sb λnb_ hnb_=>?_|refine s2 (λh=>?_) λh=>?_|fail)
 exact⟨_,[],aJ.all (Fz.sls (l:=bA) (f:=aI.enc) (size:=6) (.head _) rfl Xl rfl),rfl,rfl⟩
theorem wz:(∀nm n,Dl 0 nm n=0)∧(∀nm n,Dl 1 nm n=0)∧(∀nm n,Dl 2 nm n=0)∧Dl 3 [113] (0+1)=0∧(∀op,Dl op [] (0+1+1)=z3 op)∧z0 1=0∧z0 2=0∧z0 3=0∧z0 6=0∧z0 13=0∧z3 6=0∧z3 13=0∧
  (∀n,zv 1 n=z0 n)∧(∀n,zv 2 n=z0 n)∧(∀n,zv 3 n=z0 n)∧(∀n,zv 14 n=z0 n)∧(∀n,zv 4 n=0)∧(∀n,zv 5 n=0)∧(∀n,zv 6 n=0)∧(∀n,zv 7 n=0)∧(∀n,zv 8 n=0)∧(∀n,zv 9 n=0)∧(∀n,zv 12 n=0)∧(∀n,zv 13 n=0)∧(∀n,zv 15 n=0)∧
  (∀nm,zi nm 0=0)∧zi [113] (0+1)=0∧(∀op n nm l,ao.wt (.mk op n nm l)=1+nm.length+Dl op nm l.length+ao.wts l)∧ao.wts []=0∧(∀x l,ao.wts (x::l)=x.wt+z0 x.op+ao.wts l)∧
  (∀op line nm arg ix e body els,ab.wt (.mk op line nm arg ix e body els)=1+nm.length+arg.length+ao.wts ix+e.wt+zv op e.op+zi nm ix.length+ab.wts body+ab.wts els)∧ab.wts []=0∧(∀x l,ab.wts (x::l)=x.wt+ab.wts l)∧
  (∀a b c l,ao.op (.mk a b c l)=a)∧(∀n,Hd n=.mk 1 n [] [])∧(∀s,sN s=.mk 2 0 s [])∧(∀op a b,Mn op a b=.mk op 0 [] [a,b])∧jR=.mk 0 0 [] []∧(∀s e,cB s e=.mk 1 0 s [] [] e [] []):=by
 refine⟨?_,?_,?_,?_,?_,?_,?_,?_,?_,?_,?_,?_,?_,?_,?_,?_,?_,?_,?_,?_,?_,?_,?_,?_,?_,?_,?_,?_,?_,?_,?_,?_,?_,?_,?_,?_,?_,?_,?_⟩
 all_goals first
  |rfl
  |(intros;rfl)
  |(intros;simp[Dl,z3,zi])
theorem Ta{P:Prop}(h:P:=by simp only[wz,VZ,V7];omega):P:=h
theorem UM{r:Nat}(h:(r:Int)<6∨r=0):z0 (([6,7,8,11,13,17]:List Int).getD r 0)=0∧z3 (([6,7,8,11,13,17]:List Int).getD r 0)=0:=by
 have h:r<6:=by omega
 match r,h with
 |0,_|1,_|2,_|3,_|4,_|5,_=>exact⟨rfl,rfl⟩
structure Vy where
 a:Nat
 thread:Int
 left:Int
 set:Bool
 tx:Bool
 atomic:Bool
 loop:Bool
 o:Option Nat
 ar:List aZ
 k:Nat
def Vy.row(bt:Nat)(s:Vy):List AV:=[.ptr bt 0 0,.Xm s.thread,.Xm s.left,.bool s.set,.bool s.tx,.bool s.atomic,.bool s.loop,am s.o s.k]
theorem eP{l:List aZ}{b r:Nat}{rows:List (List AV)}{L:SH}{K:AV→Prop}(h:K (.str (l.getD r [])))(hm:(b,(⟨1,rows⟩:Blk))∈L)(hr:rows=l.map au)(hl:r<l.length):W.load false 1 (.ptr b r 0) L K:=by subst hr;refine C6 hm (aw hl) Xj ?_;simpa[List.getD,hl]using h
theorem OF{l:List Int}{b r:Nat}{rows:List (List AV)}{L:SH}{K:AV→Prop}(h:K (.Xm (l.getD r 0)))(hm:(b,(⟨1,rows⟩:Blk))∈L)(hr:rows=l.map aj)(hl:r<l.length):W.load false 1 (.ptr b r 0) L K:=by subst hr;refine C6 hm (aw hl) Xj ?_;simpa[List.getD,hl]using h
theorem fI{bt:Nat}{t:List UInt8}{a:Nat}{n:Int}{L L':SH}{KL:R}(ht:t.length<2^40)(ha:a≤t.length)(hd:eQ bt (aN t a) L L')(hq:∀r a':Nat,((r:Int)<n∨r=0)→a'≤t.length→KL (.Xm (r:Int)) ((bt,aN t a')::L')):W.callM Tryz.prog 34 [.ptr bt 0 0,.Xm n] L KL:=
 km (Lm bt t a n ht ha) hd (by rintro _ _ ⟨r,a',rfl,h1,rfl,h2⟩;exact hq r a' h1 h2)
theorem CB{bt:Nat}{t:List UInt8}{a i:Nat}{n:Int}{us:List W.WR}{L L':SH}{KN:AV→SH→List Nat→Prop}(ht:t.length<2^40)(ha:a≤t.length)(hd:eQ bt (aN t a) L L')(hq:∀r a':Nat,((r:Int)<n∨r=0)→a'≤t.length→KN (.Xm (r:Int)) ((bt,aN t a')::L') [bt])(hf:∀y∈us,W.free y ⟨i,[],[bt],[],true,[]⟩:=by(simp only[rm,rc,rz,W.free,av,↓reduceIte,Nat.reduceEqDiff,aa,dS,Xe,Wg,V9,not_false_eq_true,implies_true,and_true,true_and,and_self,V4,reduceCtorEq,forall_const,false_implies,VI,forall_eq,Wi,WC,VE,or_false,false_or,forall_eq_or_imp,not_or])<;>(repeat' constructor)<;>first|assumption|(exact Ne.symm Xi)|(intro e_;subst e_;simp[SH.names]at *;done)):W.dcallM Tryz.prog us i 34 [.ptr bt 0 0,.Xm n] L KN:=
 Da (Lm bt t a n ht ha) hd hf (by rintro _ _ ⟨r,a',rfl,h1,rfl,h2⟩;exact hq r a' h1 h2)
def ml(bt:Nat)(v1 v2 v3 v4 v5 v6 v7:AV):Blk:=⟨8,[[.ptr bt 0 0,v1,v2,v3,v4,v5,v6,v7]]⟩
def I7(d:Nat):Prop:=∀(bm bt:Nat) (t:List UInt8) (a:Nat) (v1 v2 v3 v4 v5 v6 v7:AV),t.length<2^40→a≤t.length→
  af Tryz.prog 97 [.ptr bm 0 0,.Xm (d:Int)] [(bm,ml bt v1 v2 v3 v4 v5 v6 v7),(bt,aN t a)] λu K=>∃(x:ao) (a':Nat),u=.agg x.row∧x.wt+z0 x.op≤4^(d+1)∧a'≤t.length∧K=[(bm,ml bt v1 v2 v3 v4 v5 v6 v7),(bt,aN t a')]
section
variable {bm bt:Nat} {t:List UInt8} {a d:Nat} {dd:Int} {v1 v2 v3 v4 v5 v6 v7:AV} {L L1 L2:SH}
theorem cE{KL:R}(hE:I7 d)(hdd:dd=(d:Int))(ht:t.length<2^40)(ha:a≤t.length)(h1:eQ bm (ml bt v1 v2 v3 v4 v5 v6 v7) L L1)(h2:eQ bt (aN t a) L1 L2)(hq:∀(x:ao) (a':Nat),x.wt+z0 x.op≤4^(d+1)→a'≤t.length→KL (.agg x.row) ((bm,ml bt v1 v2 v3 v4 v5 v6 v7)::(bt,aN t a')::L2)):
  W.callM Tryz.prog 97 [.ptr bm 0 0,.Xm dd] L KL:=by
 subst hdd;exact Nb (hE bm bt t a v1 v2 v3 v4 v5 v6 v7 ht ha) h1 h2 (by rintro _ _ ⟨x,a',rfl,h1,h2,rfl⟩;exact hq x a' h1 h2)
theorem Hf{us:List W.WR}{i:Nat}{KN:AV→SH→List Nat→Prop}(hE:I7 d)(hdd:dd=(d:Int))(ht:t.length<2^40)(ha:a≤t.length)(h1:eQ bm (ml bt v1 v2 v3 v4 v5 v6 v7) L L1)(h2:eQ bt (aN t a) L1 L2)(hq:∀(x:ao) (a':Nat),x.wt+z0 x.op≤4^(d+1)→a'≤t.length→KN (.agg x.row) ((bm,ml bt v1 v2 v3 v4 v5 v6 v7)::(bt,aN t a')::L2) [bm,bt])
  (hf:∀y∈us,W.free y ⟨i,[],[bm,bt],[],true,[]⟩:=by(simp only[rm,rc,rz,W.free,av,↓reduceIte,Nat.reduceEqDiff,aa,dS,Xe,Wg,V9,not_false_eq_true,implies_true,and_true,true_and,and_self,V4,reduceCtorEq,forall_const,false_implies,VI,forall_eq,Wi,WC,VE,or_false,false_or,forall_eq_or_imp,not_or])<;>(repeat' constructor)<;>first|assumption|(exact Ne.symm Xi)|(intro e_;subst e_;simp[SH.names]at *;done)):W.dcallM Tryz.prog us i 97 [.ptr bm 0 0,.Xm dd] L KN:=by
 subst hdd;exact LK (hE bm bt t a v1 v2 v3 v4 v5 v6 v7 ht ha) h1 h2 hf (by rintro _ _ ⟨x,a',rfl,h1,h2,rfl⟩;exact hq x a' h1 h2)
end
theorem OG(r:Nat):(([[97],[98],[120],[121],[118],[120],[121]]:List aZ).getD r []).length≤1:=by
 rcases VG r 7 with h|h
 ·match r,h with
  |0,_|1,_|2,_|3,_|4,_|5,_|6,_=>exact VC _
 ·rw[List.getD,VH (by simpa using h)];exact We _
theorem Ln:I7 0:=by
  intro bm bt t a v1 v2 v3 v4 v5 v6 v7 ht ha;refine af.fz (jL _ _ _ _ ?_);unfold gq;generalize hQ:(λ(v:AV) (L:SH)=>∃v2_1 L2,aJ [v] L [v2_1] L2∧∃(x:ao) (a':Nat),v2_1=AV.agg x.row∧x.wt+z0 x.op≤4^(0+1)∧a'≤t.length∧L2=[(bm,ml bt v1 v2 v3 v4 v5 v6 v7),(bt,aN t a')])=Q;have hq:∀(v:AV) (x:ao) (a':Nat) (L L1 L2:SH),eQ bm (ml bt v1 v2 v3 v4 v5 v6 v7) L L1→eQ bt (aN t a') L1 L2→Fz L2 v (.agg x.row)→x.wt+z0 x.op≤4→a'≤t.length→Q v L:=λv x a' L L1 L2 h1 h2 h3 h4 h5=>by subst hQ;exact⟨_,_,aJ.keep2 h1 h2 h3,x,a',rfl,h4,h5,rfl⟩
  clear hQ;unfold ml
  repeat' (first|refine st ?_|((with_reducible refine aX 34 ?_);(refine fI ht Xi rp (λr_ a_ hr_ ha_=>?_)))|(refine pf 37 ?_;refine pm (He _) ?_)|(refine pf 99 ?_;refine pm (yy _) ?_)|refine eP (l:=[[97],[98],[120],[121],[118],[120],[121]]) ?_ mm rfl (by simp;omega)|refine dC ?_ Xh|refine sb λnb_ hnb_=>?_|refine s2 (λh=>?_) λh=>?_|fail)
  all_goals first
   |exact hq _ (Hd _) _ _ _ _ rp rp (.refl _) Ta Xi
   |exact hq _ (sN _) _ _ _ _ rp rp (.refl _) (by have:=OG r_;exact Ta) Xi
   |(exfalso;simp at *;omega)
theorem bV:∀d:Nat,d<1000→I7 d:=by
 intro d
 induction d with
 |zero=>exact λ_=>Ln
 |succ d ih=>
  intro hd1000 bm bt t a v1 v2 v3 v4 v5 v6 v7 ht ha;have ih:=ih Xh;have hE0:I7 0:=Ln;have d0:decide (((d+1:Nat):Int)=0)=false:=by simp;omega
  have e1:IntKind.i64.wrap (((d+1:Nat):Int)-1)=(d:Int):=by rw[Wr _ Xh];omega
  have hp:1≤4^d:=Nat.one_le_pow _ _ Xl;have hp1:4^(d+1)=4*4^d:=by rw[Nat.pow_succ,Nat.mul_comm]
  have hp2:4^(d+1+1)=16*4^d:=by rw[Nat.pow_succ,Nat.pow_succ];omega
  refine af.fz (jL _ _ _ _ ?_);unfold gq;generalize hQ:(λ(v:AV) (L:SH)=>∃v2_1 L2,aJ [v] L [v2_1] L2∧∃(x:ao) (a':Nat),v2_1=AV.agg x.row∧x.wt+z0 x.op≤4^(d+1+1)∧a'≤t.length∧L2=[(bm,ml bt v1 v2 v3 v4 v5 v6 v7),(bt,aN t a')])=Q;have hq:∀(v:AV) (x:ao) (a':Nat) (L L1 L2:SH),eQ bm (ml bt v1 v2 v3 v4 v5 v6 v7) L L1→eQ bt (aN t a') L1 L2→Fz L2 v (.agg x.row)→x.wt+z0 x.op≤16*4^d→a'≤t.length→Q v L:=λv x a' L L1 L2 h1 h2 h3 h4 h5=>by subst hQ;exact⟨_,_,aJ.keep2 h1 h2 h3,x,a',rfl,Xh,h5,rfl⟩
  clear hQ;unfold ml
  repeat' (first|refine st ?_|((with_reducible refine aX 34 ?_);(refine fI ht Xi rp (λr_ a_ hr_ ha_=>?_)))|(refine pf 37 ?_;refine pm (He _) ?_)|(refine pf 99 ?_;refine pm (yy _) ?_)|(refine pf 98 ?_;refine pm (Ev _ _ _) ?_)|refine eP (l:=[[97],[98],[120],[121],[118],[120],[121]]) ?_ mm rfl (by simp;omega)|refine OF (l:=[6,7,8,11,13,17]) ?_ mm rfl (by simp;omega)|refine dC ?_ Xh|((with_reducible refine ef 34 ?_);refine CB ht Xi rp (λr_ a_ hr_ ha_=>?_))|((with_reducible refine aX 97 ?_);(refine cE hE0 Xj ht Xi rp rp (λx_ a_ hx_ ha_=>?_)))|((with_reducible refine ef 97 ?_);refine Hf ih Xj ht Xi rp rp (λx_ a_ hx_ ha_=>?_))|refine sb λnb_ hnb_=>?_|refine s2 (λh=>?_) λh=>?_|fail)
  all_goals first
   |exact hq _ (Hd _) _ _ _ _ rp rp (.refl _) Ta Xi
   |exact hq _ (sN _) _ _ _ _ rp rp (.refl _) (by have:=OG r_;exact Ta) Xi
   |exact hq _ (.mk 3 0 [113] [x_]) _ _ _ _ rp rp (Fz.aggs (.cons (.refl _) (.cons (.refl _) (.cons (.refl _) (.cons (Fz.sls (l:=[x_]) (f:=ao.enc) (size:=4) (rows:=[x_.row]) (.head _) (by simp[ao.enc_row]) Xl rfl) .nil))))) Ta Xi
   |exact hq _ (Mn _ _ _) _ _ _ _ rp rp (.refl _) (by have:=UM hr_;exact Ta) Xi
end
end Go.Proofs.YtdnpdghlggbklaaGreatDoor.Am
