/- A part of the proof; the statement is proved in the last part. -/
import Derived.Test.YtdnpdghlggbklaaGreatDoorQtv
set_option linter.unusedSimpArgs false
set_option linter.unusedVariables false
namespace Go.Proofs.YtdnpdghlggbklaaGreatDoor.Am
section
set_option maxRecDepth 100000
set_option maxHeartbeats 4000000
def Xd(p:bZ)(bw:Nat)(s:oq)(m:Nat)(u:AV)(K:SH):Prop:=
 ∃(e ln:Int) (s':oq),u=.tup [.ZO e,.ZO ln]∧K=s'.L p bw∧s'.Ok m∧s'.t=s.t∧s'.k=s.k
theorem U4{p:bZ}{bw:Nat}{s:oq}{x:ab}{m:Nat}(h:af Tryz.prog 91 [.ptr bw 0 0,.agg x.row] (s.L p bw) (U2 p bw s m)):
  af Tryz.prog 91 [.ptr bw 0 0,.agg x.row] (s.L p bw) λu K=>∃(e:Int) (s':oq),u=.ZO e∧K=s'.L p bw∧s'.Ok m∧s'.t=s.t∧s'.k=s.k:=
 af.permR (h.mono λv K' ⟨e,s',h1,h2,h3,h4,_,_,h5⟩=>⟨_,h2,e,s',h1,rfl,h3,h4,h5⟩)
set_option maxHeartbeats 2000000 in
theorem U5(p:bZ)(bw:Nat)(hw:p.wt<2^40):∀(n:Nat) (l:List ab) (s:oq) (m:Nat),ab.wts l≤n→(ht:s.t<p.threads.length)→s.Ok m→m+ab.wts l<2^40→
  af Tryz.prog 58 [.ptr bw 0 0,.lst (l.map ab.enc)] (s.L p bw) (Xd p bw s (m+ab.wts l) ):=by
 intro n
 induction n using Nat.strongRecOn with
 |_ n ih=>
  intro l s0 m hn ht hs0 hm;have hlen:=ab.wts_len l;refine af.fz (zO _ _ _ _ ?_);unfold mV;generalize hQ:(λ(v:AV) (L:SH)=>∃v2 L2,aG [v] L [v2] L2∧Xd p bw s0 (m+ab.wts l) v2 L2)=Q;have hqg:∀(e ln:Int) (K:SH) (s':oq),gJ K (s'.L p bw)→s'.Ok (m+ab.wts l)→s'.t=s0.t→s'.k=s0.k→Q (.tup [.ZO e,.ZO ln]) K:=λe ln K s' h1 h2 h3 h4=>by subst hQ;exact⟨_,_,aG.pick h1 rfl,e,ln,s',rfl,rfl,h2,h3,h4⟩
  clear hQ;refine bW l.length (λi (s:oq)=>([.ptr bw 0 0,.lst (l.map ab.enc),.ZO i],s.L p bw)) (λi s=>s.Ok (m+ab.wts (l.take i))∧s.t=s0.t∧s.k=s0.k) s0 ⟨by simpa[ab.wts]using hs0,rfl,rfl⟩ (.refl _ _) ?_;rintro i s hi ⟨hs,hst,hsk⟩;dsimp only;unfold lh;generalize hnx:(λ(vs':List AV) (L':SH)=>∃j o',i<j∧j≤l.length∧(oq.Ok o' (m+ab.wts (l.take j))∧o'.t=s0.t∧o'.k=s0.k)∧aG vs' L' [.ptr bw 0 0,.lst (l.map ab.enc),.ZO (j:Int)] (oq.L p bw o'))=nx;rcases Nat.lt_or_ge i l.length with g1|g1
  ·have hd:=bE g1;have hi1:=aA g1 ZJ;have hx:=Hp g1;have hwi:=ab.wts_succ g1;have hwl:=ab.wts_take l (i+1);have hwe:=(l[i]).wt_eq;have c1:=U4 (U3 p bw s l[i] (m+ab.wts (l.take i)) hw ZJ hs ZJ ZJ);have hn:∀(s':oq) (L':SH),gJ L' (s'.L p bw)→s'.Ok (m+ab.wts (l.take (i+1)))→s'.t=s0.t→s'.k=s0.k→nx [.ptr bw 0 0,.lst (l.map ab.enc),.ZO ((i+1:Nat):Int)] L':=by intro s' L' q1 q2 q3 q4;subst hnx;exact⟨i+1,s',ZJ,ZJ,⟨q2,q3,q4⟩,aG.pick q1 rfl⟩
   clear hnx;generalize hxx:l[i]=x at *
   repeat' (first|refine st ?_|((with_reducible refine bz 91 ?_);(refine Cm c1 ?_;rintro _ _ ⟨e1,s1,rfl,rfl,hs1,ht1,hk1⟩))|refine sb λnb_ hnb_=>?_|refine s2 (λh=>?_) λh=>?_|fail)
   have hbk:=λ(q:Nat) (h:q≤m+ab.wts (l.take (i+1))) (s':oq) (h2:s'.Ok q)=>(⟨h2.a0,h2.ak,h2.k6,h2.p0,h2.e0,by have:=h2.pm;omega,by have:=h2.em;omega⟩:s'.Ok (m+ab.wts (l.take (i+1))));have hbl:=λ(s':oq) (h2:s'.Ok (m+ab.wts (l.take (i+1))))=>(⟨h2.a0,h2.ak,h2.k6,h2.p0,h2.e0,by have:=h2.pm;omega,by have:=h2.em;omega⟩:s'.Ok (m+ab.wts l));have key:∀e:Int,(e=0→s1.k<6)→gE Q nx [.ptr bw 0 0,.lst (l.map ab.enc),.ZO (i:Int),.pptr [x.row] 0 0,.ZO e] (s1.L p bw):=by
    intro e he;unfold gE;unfold oq.L oq.row;by_cases h0:e=0
    ·subst h0;have hk6:=he rfl;have hzero:∀(k:Nat) (rows:List (List AV)),k≤rows.length→(rows.take k++[IU])[k]? =some IU:=λk rows h=>by rw[Yh (by rw[Yx];omega),Yx,YX h,Nat.sub_self];rfl
     have hz:=hzero s1.k (s1.ar.map ab.enc) (by simpa using hs1.ak)
     repeat' (first|refine DV ?_ (λe=>by have:=hs1.a0 e;have:=hs1.ak;simp_all)|refine st ?_|refine KT (r:=IU) rp ZL rp (by simpa using hs1.ak) (λe=>by simp[hs1.a0 e]) ZJ ZJ ZL (λnb_ hnb_=>?_)|refine sb λnb_ hnb_=>?_|refine s2 (λh=>?_) λh=>?_|fail)
     rename_i bt hbt;have hrows:(List.take s1.k (s1.ar.map ab.enc)++[IU]).set s1.k x.row=(s1.ar.take s1.k++[x]).map ab.enc:=by
      have hl:(List.take s1.k (s1.ar.map ab.enc)).length=s1.k:=by rw[Yx,Y9,YX hs1.ak]
      rw[List.set_append_right _ _ ZJ,hl,Nat.sub_self,Yc,List.map_take,←ab.enc_row];rfl
     let s2:oq:={s1 with o1:=some nb_,ar:=s1.ar.take s1.k++[x],k:=s1.k+1}
     have hs2:s2.Ok (m+ab.wts (l.take i)+1):=⟨nofun,by simp[s2,YX hs1.ak],by show s1.k+1≤6;omega,hs1.p0,hs1.e0,hs1.pm,hs1.em⟩;have c2:=ih (ab.wts x.body) ZJ x.body s2 (m+ab.wts (l.take i)+1) (X7 _) (by show s1.t<_;omega) hs2 ZJ;refine If (R:=[(bt,?tmp)]) c2 ?hp ?hk
     case hp=>
      unfold oq.L oq.row;dsimp only[ae,ao,s2];rw[←hrows];exact UZ _ _ _ _
     rintro _ _ ⟨e2,ln2,s3,rfl,rfl,hs3,ht3,hk3⟩;have key2:∀(tmp:Nat×Blk) (e ln:Int) (s4:oq),s4.Ok (m+ab.wts (l.take (i+1)))→s4.t=s0.t→s4.k=s1.k+1→gC Q nx [.ptr bw 0 0,.lst (l.map ab.enc),.ZO (i:Int),.ZO e,.ZO ln] (s4.L p bw++[tmp]):=by
      intro tmp e ln s4 h4 ht4 hk4;obtain⟨t4,o1,ar4,k4,o2,sp4,o3,se4⟩:=s4;dsimp only at ht4 hk4;subst ht4;subst hk4;rcases o1 with _|b4
      ·exfalso;have:=h4.a0 rfl;have:=h4.ak;simp_all
      unfold gC;unfold oq.L oq.row;dsimp only[ae,ao,List.cons_append,List.nil_append];rw[List.append_assoc];have es:IntKind.i64.wrap (((s1.k+1:Nat):Int)-1)=(s1.k:Int):=by rw[IntWalk.i64_in _ ZJ];omega
      by_cases h0:e=0
      ·subst h0
       repeat' (first|refine st ?_|refine BH ?_ (Zu _) rp rfl|refine sb λnb_ hnb_=>?_|refine s2 (λh=>?_) λh=>?_|fail)
       exact hn ⟨s0.t,some b4,ar4,s1.k,o2,sp4,o3,se4⟩ _ (.one (.here _) (.one (.here _) (.slot (.here _) (.slotl (.here _))))) ⟨nofun,by have:=h4.ak;dsimp only at *;omega,by dsimp only;omega,h4.p0,h4.e0,h4.pm,h4.em⟩ rfl (by dsimp only;omega)
      ·have d0:decide (e≠0)=true:=by simpa using h0
       repeat' (first|refine st ?_|refine BH ?_ (Zu _) rp rfl|refine sb λnb_ hnb_=>?_|refine s2 (λh=>?_) λh=>?_|fail)
       exact hqg e ln _ ⟨s0.t,some b4,ar4,s1.k,o2,sp4,o3,se4⟩ (.one (.here _) (.one (.here _) (.slot (.here _) (.slotl (.here _))))) (hbl _ ⟨nofun,by have:=h4.ak;dsimp only at *;omega,by dsimp only;omega,h4.p0,h4.e0,h4.pm,h4.em⟩) rfl (by dsimp only;omega)
     have ht3':s3.t=s0.t:=by rw[ht3];show s1.t=s0.t;omega
     have hk3':s3.k=s1.k+1:=hk3;have c3:=ih (ab.wts x.els) ZJ x.els s3 (m+ab.wts (l.take i)+1+ab.wts x.body) (X7 _) ZJ hs3 ZJ;by_cases h2:e2=0
     ·have d2:decide (e2=0)=true:=by simpa using h2
      unfold gD
      repeat' (first|refine st ?_|refine sb λnb_ hnb_=>?_|refine s2 (λh=>?_) λh=>?_|fail)
      refine If c3 (.refl _) ?_;rintro _ _ ⟨e3,ln3,s4,rfl,rfl,hs4,ht4,hk4⟩;unfold lg
      repeat' (first|with_reducible exact key2 _ _ _ _ (hbk _ ZJ _ hs4) ZJ ZJ|refine st ?_|refine sb λnb_ hnb_=>?_|refine s2 (λh=>?_) λh=>?_|fail)
     ·have d2:decide (e2=0)=false:=by simpa using h2
      unfold gD
      repeat' (first|with_reducible exact key2 _ _ _ _ (hbk _ ZJ _ hs3) ZJ ZJ|refine st ?_|refine sb λnb_ hnb_=>?_|refine s2 (λh=>?_) λh=>?_|fail)
    ·have d0:decide (e≠0)=true:=by simpa using h0
     repeat' (first|refine st ?_|refine sb λnb_ hnb_=>?_|refine s2 (λh=>?_) λh=>?_|fail)
     exact hqg e _ _ s1 (.one (.here _) (.slot (.here _) (.slot (.here _) (.slotl .last)))) (hbl _ (hbk _ ZJ _ hs1)) ZJ ZJ
   have hk7:=hs1.k6;unfold ab.row at key;have ek:=aA (i:=s1.k) (n:=7) ZJ ZJ;by_cases h6:s1.k<6
   ·have d6:decide ((6:Int)<((s1.k+1:Nat):Int))=false:=by simp;omega
    repeat' (first|refine DV ?_ (λe=>by have:=hs1.a0 e;have:=hs1.ak;simp_all)|with_reducible refine key _ (λ_=>h6)|refine st ?_|refine sb λnb_ hnb_=>?_|refine s2 (λh=>?_) λh=>?_|fail)
   ·have d6:decide ((6:Int)<((s1.k+1:Nat):Int))=true:=by simp;omega
    repeat' (first|refine DV ?_ (λe=>by have:=hs1.a0 e;have:=hs1.ak;simp_all)|with_reducible refine key _ (λh=>absurd h ZN)|refine st ?_|refine sb λnb_ hnb_=>?_|refine s2 (λh=>?_) λh=>?_|fail)
  ·have hd:=bI g1
   repeat' (first|refine st ?_|refine sb λnb_ hnb_=>?_|refine s2 (λh=>?_) λh=>?_|fail)
   have hil:i=l.length:=by omega
   subst hil;rw[List.take_length]at hs;exact hqg 0 0 _ s (.one (.here _) (.slot (.here _) (.slot (.here _) (.slotl .last)))) hs hst hsk
theorem HI(p:bZ)(hw:p.wt<2^40):TE 28 [.agg p.enc]:=by
 have hl1:=p.decls_len;have hl2:=p.threads_len;have hsum:gV (λt:ah=>ab.wts t.body) p.threads≤p.wt:=by have:=KU (f:=λt:ah=>ab.wts t.body) (g:=ah.wt) (λt=>by unfold ah.wt;omega) p.threads;unfold bZ.wt;unfold gV at *;omega
 have c1:=QL p hw;have c2:=Sz p.decls ZJ;have c3:=Om p hw;refine te λQ hq=>BW _ _ _ ?_
 unfold pg
 repeat' (first|refine st ?_|(refine pf 54 ?_;refine pm (c1) ?_)|(refine pf 55 ?_;refine pm (c2) ?_)|(refine pf 56 ?_;refine pm (c3) ?_)|refine sb λnb_ hnb_=>?_|refine s2 (λh=>?_) λh=>?_|fail)
 all_goals first|exact hq _ _ _|skip
 rename_i h4;have h4:p.threads.length≤4:=by simp at h4;omega
 refine HH p.threads.length (λi n=>[.pptr [p.enc] 0 0,.ZO n,.ZO i]) 0 ZJ rfl (λi n h1 hd hi nx hn=>?_) (λi n h1 hd nx=>?_)
 all_goals unfold mT
 ·have hx:=ay (f:=ah.enc) h1;have hwt:=p.thread_wt h1;have c4:=Sy _ p.threads[i].body (X7 _) (by have:ab.wts p.threads[i].body<p.threads[i].wt:=(by unfold ah.wt;omega);omega)
  repeat' (first|refine st ?_|(refine pf 57 ?_;refine pm (c4) ?_)|refine sb λnb_ hnb_=>?_|refine s2 (λh=>?_) λh=>?_|fail)
  exact hn _
 ·repeat' (first|refine st ?_|refine sb λnb_ hnb_=>?_|refine s2 (λh=>?_) λh=>?_|fail)
  ·exact hq _ _ _
  generalize nb_=bw at *;clear hd h1;refine bW p.threads.length (λi (s:oq)=>([.pptr [p.enc] 0 0,.ptr bw 0 0,.ZO i],s.L p bw)) (λi s=>s.Ok (gV (λt:ah=>ab.wts t.body) (p.threads.take i))∧s.k=0) ⟨0,none,[],0,none,[],none,[]⟩ ⟨⟨λ_=>rfl,X7 _,YK _,λ_=>rfl,λ_=>rfl,YK _,YK _⟩,rfl⟩ ?_ ?_
  ·exact aG.box (K:=[]) (R:=[]) (.refl _) (.cons (.refl _) (.cons (.refl _) (.cons (.refl _) (.cons .nile (.cons .nile (.cons .nile .nil))))))
  ·rintro i s hi ⟨hs1,hk1⟩;dsimp only;unfold mS;generalize hnx:(λ(vs':List AV) (L':SH)=>∃j o',i<j∧j≤p.threads.length∧(oq.Ok o' (gV (λt:ah=>ab.wts t.body) (p.threads.take j))∧o'.k=0)∧aG vs' L' [.pptr [p.enc] 0 0,.ptr bw 0 0,.ZO (j:Int)] (oq.L p bw o'))=nx;rcases Nat.lt_or_ge i p.threads.length with g1|g1
   ·have hd:=bE g1;have hi1:=aA g1 ZJ;have hx:=ay (f:=ah.enc) g1;have hss:=Mf (f:=λt:ah=>ab.wts t.body) g1;have hst:=FM (λt:ah=>ab.wts t.body) p.threads (i+1);have c5:=U5 p bw hw _ p.threads[i].body {s with t:=i} (gV (λt:ah=>ab.wts t.body) (p.threads.take i)) (X7 _) g1 ⟨hs1.a0,hs1.ak,hs1.k6,hs1.p0,hs1.e0,hs1.pm,hs1.em⟩ ZJ;rw[←hss]at c5;unfold oq.L oq.row at c5 ⊢
    repeat' (first|refine st ?_|((with_reducible refine bz 58 ?_);(refine Cm c5 ?_;rintro _ _ ⟨e3,ln3,s3,rfl,rfl,hs3,ht3,hk3⟩))|refine sb λnb_ hnb_=>?_|refine s2 (λh=>?_) λh=>?_|fail)
    ·exact hq _ _ _
    ·subst hnx;exact⟨i+1,s3,ZJ,ZJ,⟨hs3,by rw[hk3];exact hk1⟩,.refl _ _⟩
   ·have hd:=bI g1
    repeat' (first|refine st ?_|refine sb λnb_ hnb_=>?_|refine s2 (λh=>?_) λh=>?_|fail)
    exact hq _ _ _
end
end Go.Proofs.YtdnpdghlggbklaaGreatDoor.Am
