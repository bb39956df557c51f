/- A part of the proof; the statement is proved in the last part. -/
import Derived.Test.YtljkdffikfkcgaaQ2h
set_option linter.unusedSimpArgs false
set_option linter.unusedVariables false
section
namespace Go.Proofs.Ytljkdffikfkcgaa.Am
set_option maxRecDepth 100000
set_option linter.unusedVariables false
mutual
def wP(p:aK)(loc:List aL):aa→Prop
 | .mk a b c d e f body els=>c6 p loc (.mk a b c d e f body els)∧StsOk p loc body∧StsOk p loc els
def StsOk(p:aK)(loc:List aL):List aa→Prop
 | []=>True
 | x::l=>wP p loc x∧StsOk p loc l
end
theorem Bm{p:aK}{loc:List aL}(x:aa):wP p loc x↔c6 p loc x∧StsOk p loc x.body∧StsOk p loc x.els:=by cases x;rw[wP];rfl
theorem iW{p:aK}{loc:List aL}:∀l:List aa,StsOk p loc l↔∀x∈l,wP p loc x
 | []=>by simp[StsOk]
 | x::l=>by rw[StsOk,iW l];simp
theorem aa.wts_succ{l:List aa}{i:Nat}(h:i<l.length):aa.wts (l.take (i+1))=aa.wts (l.take i)+l[i].wt:=by
 rw[List.take_succ_eq_append_getElem h]
 generalize l.take i=m
 induction m with
 | nil=>simp[aa.wts]
 | cons y m ih=>simp only[List.cons_append,aa.wts,ih];omega
theorem aa.wts_take(l:List aa)(i:Nat):aa.wts (l.take i)≤aa.wts l:=by
 induction l generalizing i with
 | nil=>simp
 | cons x l ih=>cases i with
  | zero=>simp[aa.wts]
  | succ i=>have:=ih i;simp only[List.take_succ_cons,aa.wts];omega
theorem kY{o:Option Nat}{k:Nat}{K:AV→Prop}(h:K (.int .i64 (k:Int)))(h0:o=none→k=0):W.len (au o k) K:=by
 cases o with
 | none=>rw[h0 rfl]at h;exact A0 h
 | some b=>exact AY h
theorem zx{KL:R}{L L':SH}{o:Option Nat}{i n by_ bX:Nat}{rows m:List (List AV)}{r:List AV}(hX:(bX,(⟨n,m⟩:Blk))∈L)(hm:m=[r])(hd:cW o n rows L L')(hr:i≤rows.length)(h0:o=none→rows=[])(hb:i≤1000)(hby:by_≤1000)(h4:r.all AV.one=true)
  (h:∀b,b∉L.names→KL (.sl b 0 (i+1)) ((b,⟨n,rows.take i++[r]⟩)::L')):W.append n by_ (au o i) (.sl bX 0 1) L KL:=by
 subst hm
 have e1:2*(i+(0+1))*by_≤2*(1000+1)*1000:=Nat.mul_le_mul (by omega) hby
 have e2:2*(0+1)*by_≤2*(0+1)*1000:=Nat.mul_le_mul (by omega) hby
 cases o with
 | none=>
  have hr0:=h0 rfl
  subst hr0
  obtain rfl:i=0:=by simpa using hr
  have hl:=hd.none'
  subst hl
  exact AZ (KL:=KL) (by_:=by_) (ue hX rfl rfl) (by show 2*(0+1)*by_≤2^48;omega) (by simp) (by simpa using h4) (by simp) (fun b hb=>by simpa using h b hb)
 | some b=>
  refine uc (y:=⟨n,rows⟩) (l:=rows.take i) hd.some'.mem' rfl (by simpa using hr) (by simp) (ue hX rfl rfl) ?_ ?_ (by simpa using h4) hd.some' (fun b' hb=>?_)
  ·rw[List.length_take,Nat.min_eq_left hr];simp only[List.length_cons,List.length_nil];omega
  ·rw[List.length_take,Nat.min_eq_left hr];simp only[List.length_cons,List.length_nil];omega
  ·rw[List.length_take,Nat.min_eq_left hr];exact h b' hb
theorem GW{α:Type}(a t b:α)(R:List α):(a::t::b::R).Perm ((b::([a]++R))++[t]):=by
 have h:(a::t::b::R).Perm ([t]++(b::([a]++R))):=(List.Perm.swap t a _).trans ((List.Perm.swap b a R).cons t)
 exact h.trans List.perm_append_comm
theorem sF{n b k m:Nat}{kd:IntKind}{y:Blk}{L:SH}{K:AV→Prop}(h:K (.sl b 0 k))(hh:k≤m)(hm:(b,y)∈L)(hs:y.size=n):W.slice n (.sl b 0 m) none (some (.int kd (k:Int))) none L K:=by
 refine BH (l:=0) (h:=k) rfl (by simp[cp,j5]) (Nat.zero_le _) hh hm hs ?_
 simpa using h
def IH(p:aK)(bw:Nat)(s:jS)(m:Nat)(good:Prop)(u:AV)(K:SH):Prop:=
 ∃(e ln:Int) (s':jS),u=.tup [.int .i64 e,.int .i64 ln]∧K=s'.L p bw∧s'.Ok m∧s'.t=s.t∧s'.k=s.k∧(e=0→good)
theorem GX{p:aK}{bw:Nat}{s:jS}{x:aa}{m:Nat}{good:Prop}(h:am Try.prog 46 [.ptr bw 0 0,.agg x.row] (s.L p bw) (GU p bw s m good)):
  am Try.prog 46 [.ptr bw 0 0,.agg x.row] (s.L p bw) fun u K=>∃(e:Int) (s':jS),u=.int .i64 e∧K=s'.L p bw∧s'.Ok m∧s'.t=s.t∧s'.k=s.k∧(e=0→good):=
 am.permR (h.mono fun v K' ⟨e,s',h1,h2,h3,h4,_,_,h5,h6⟩=>⟨_,h2,e,s',h1,rfl,h3,h4,h5,h6⟩)
def xU:List AV:=[.int .i64 0,.int .i64 0,.str [],.str [],.nils,.int .i64 0,.int .i64 0,.str [],.nils,.nils,.nils]
set_option maxHeartbeats 2000000 in
theorem GY(p:aK)(bw:Nat)(hw:p.wt<2^40):∀(n:Nat) (l:List aa) (s:jS) (m:Nat),aa.wts l≤n→(ht:s.t<p.threads.length)→s.Ok m→m+aa.wts l<2^40→
  am Try.prog 32 [.ptr bw 0 0,.lst (l.map aa.enc)] (s.L p bw) (IH p bw s (m+aa.wts l) (StsOk p p.threads[s.t].locals l)):=by
 intro n
 induction n using Nat.strongRecOn with
 | _ n ih=>
  intro l s0 m hn ht hs0 hm
  have hlen:=aa.wts_len l
  refine am.fz (qY _ _ _ _ ?_)
  unfold iV
  generalize hloc:p.threads[s0.t].locals=loc
  generalize hQ:(fun(v:AV) (L:SH)=>∃v2 L2,aV [v] L [v2] L2∧IH p bw s0 (m+aa.wts l) (StsOk p loc l) v2 L2)=Q
  have hqg:∀(e ln:Int) (K:SH) (s':jS),ez K (s'.L p bw)→s'.Ok (m+aa.wts l)→s'.t=s0.t→s'.k=s0.k→(e=0→StsOk p loc l)→Q (.tup [.int .i64 e,.int .i64 ln]) K:=fun e ln K s' h1 h2 h3 h4 h5=>by
   subst hQ;exact⟨_,_,aV.pick h1 rfl,e,ln,s',rfl,rfl,h2,h3,h4,h5⟩
  clear hQ
  refine cH l.length (fun i (s:jS)=>([.ptr bw 0 0,.lst (l.map aa.enc),.int .i64 i],s.L p bw)) (fun i s=>s.Ok (m+aa.wts (l.take i))∧s.t=s0.t∧s.k=s0.k∧∀j (hj:j<l.length),j<i→wP p loc l[j]) s0 ⟨by simpa[aa.wts]using hs0,rfl,rfl,fun j _ h=>absurd h (Nat.not_lt_zero _)⟩ (.refl _ _) ?_
  rintro i s hi ⟨hs,hst,hsk,hG⟩
  dsimp only
  unfold hZ
  generalize hnx:(fun(vs':List AV) (L':SH)=>∃j o',i<j∧j≤l.length∧(jS.Ok o' (m+aa.wts (l.take j))∧o'.t=s0.t∧o'.k=s0.k∧∀(q:Nat) (hj:q<l.length),q<j→wP p loc l[q])∧aV vs' L' [.ptr bw 0 0,.lst (l.map aa.enc),.int .i64 (j:Int)] (jS.L p bw o'))=nx
  rcases Nat.lt_or_ge i l.length with g1 | g1
  ·have hd:=ct g1
   have hi1:=bH g1 (by omega)
   have hx:=xd g1
   have hwi:=aa.wts_succ g1
   have hwl:=aa.wts_take l (i+1)
   have hwe:=(l[i]).wt_eq
   have hso:=Bm (p:=p) (loc:=loc) l[i]
   have c1:=GX (GV p bw s l[i] (m+aa.wts (l.take i)) hw (by omega) hs (by omega) (by omega))
   have hloc2:p.threads[s.t].locals=loc:=by rw[←hloc];congr 2
   rw[hloc2]at c1
   have hn:∀(s':jS) (L':SH),ez L' (s'.L p bw)→s'.Ok (m+aa.wts (l.take (i+1)))→s'.t=s0.t→s'.k=s0.k→wP p loc l[i]→nx [.ptr bw 0 0,.lst (l.map aa.enc),.int .i64 ((i+1:Nat):Int)] L':=by
    intro s' L' q1 q2 q3 q4 q5
    subst hnx
    refine⟨i+1,s',by omega,by omega,⟨q2,q3,q4,fun j hj hlt=>?_⟩,aV.pick q1 rfl⟩
    rcases Nat.lt_or_ge j i with h1 | h1
    ·exact hG j hj h1
    ·have:j=i:=by omega
     subst this;exact q5
   clear hnx hG
   generalize hxx:l[i]=x at *
   repeat' (first | refine st ?_ | ((with_reducible refine aq 46 ?_);(refine cf c1 ?_;rintro _ _ ⟨e1,s1,rfl,rfl,hs1,ht1,hk1,hg1⟩)) | refine sb (fun nb_ hnb_=>?_) | refine s2 (fun h=>?_) (fun h=>?_) | fail)
   have hbk:=fun(q:Nat) (h:q≤m+aa.wts (l.take (i+1))) (s':jS) (h2:s'.Ok q)=>(⟨h2.a0,h2.ak,h2.k6,h2.p0,h2.e0,by have:=h2.pm;omega,by have:=h2.em;omega⟩:s'.Ok (m+aa.wts (l.take (i+1))))
   have hbl:=fun(s':jS) (h2:s'.Ok (m+aa.wts (l.take (i+1))))=>(⟨h2.a0,h2.ak,h2.k6,h2.p0,h2.e0,by have:=h2.pm;omega,by have:=h2.em;omega⟩:s'.Ok (m+aa.wts l))
   have key:∀e:Int,(e=0→c6 p loc x∧s1.k<6)→eQ Q nx [.ptr bw 0 0,.lst (l.map aa.enc),.int .i64 (i:Int),.pptr [x.row] 0 0,.int .i64 e] (s1.L p bw):=by
    intro e he
    unfold eQ
    unfold jS.L jS.row
    by_cases h0:e=0
    ·subst h0
     obtain⟨hone,hk6⟩:=he rfl
     have hzero:∀(k:Nat) (rows:List (List AV)),k≤rows.length→(rows.take k++[xU])[k]? =some xU:=fun k rows h=>by
      rw[List.getElem?_append_right (by rw[List.length_take];omega),List.length_take,Nat.min_eq_left h,Nat.sub_self];rfl
     have hz:=hzero s1.k (s1.ar.map aa.enc) (by simpa using hs1.ak)
     repeat' (first | refine kY ?_ (fun e=>by have:=hs1.a0 e;have:=hs1.ak;simp_all) | refine st ?_ | refine zx (r:=xU) rp (by rfl) rp (by simpa using hs1.ak) (fun e=>by simp[hs1.a0 e]) (by omega) (by omega) (by rfl) (fun nb_ hnb_=>?_) | refine sb (fun nb_ hnb_=>?_) | refine s2 (fun h=>?_) (fun h=>?_) | fail)
     rename_i bt hbt
     have hrows:(List.take s1.k (s1.ar.map aa.enc)++[xU]).set s1.k x.row=(s1.ar.take s1.k++[x]).map aa.enc:=by
      have hl:(List.take s1.k (s1.ar.map aa.enc)).length=s1.k:=by rw[List.length_take,List.length_map,Nat.min_eq_left hs1.ak]
      rw[List.set_append_right _ _ (by omega),hl,Nat.sub_self,List.map_append,List.map_take,←aa.enc_row];rfl
     let s2:jS:={s1 with o1:=some nb_,ar:=s1.ar.take s1.k++[x],k:=s1.k+1}
     have hs2:s2.Ok (m+aa.wts (l.take i)+1):=⟨nofun,by simp[s2,Nat.min_eq_left hs1.ak],by show s1.k+1≤6;omega,hs1.p0,hs1.e0,hs1.pm,hs1.em⟩
     have c2:=ih (aa.wts x.body) (by omega) x.body s2 (m+aa.wts (l.take i)+1) (Nat.le_refl _) (by show s1.t<_;omega) hs2 (by omega)
     have hloc3:p.threads[s2.t].locals=loc:=by rw[←hloc];congr 2;show s1.t=s0.t;omega
     rw[hloc3]at c2
     refine xE (R:=[(bt,?tmp)]) c2 ?hp ?hk
     case hp=>
      unfold jS.L jS.row
      dsimp only[ao,au,s2]
      rw[←hrows]
      exact GW _ _ _ _
     rintro _ _ ⟨e2,ln2,s3,rfl,rfl,hs3,ht3,hk3,hg3⟩
     have key2:∀(tmp:Nat×Blk) (e ln:Int) (s4:jS),s4.Ok (m+aa.wts (l.take (i+1)))→s4.t=s0.t→s4.k=s1.k+1→(e=0→wP p loc x)→eO Q nx [.ptr bw 0 0,.lst (l.map aa.enc),.int .i64 (i:Int),.int .i64 e,.int .i64 ln] (s4.L p bw++[tmp]):=by
      intro tmp e ln s4 h4 ht4 hk4 hg4
      obtain⟨t4,o1,ar4,k4,o2,sp4,o3,se4⟩:=s4
      dsimp only at ht4 hk4
      subst ht4;subst hk4
      rcases o1 with _ | b4
      ·exfalso
       have:=h4.a0 rfl
       have:=h4.ak
       simp_all
      unfold eO
      unfold jS.L jS.row
      dsimp only[ao,au,List.cons_append,List.nil_append]
      rw[List.append_assoc]
      have es:IntKind.i64.wrap (((s1.k+1:Nat):Int)-1)=(s1.k:Int):=by rw[IntWalk.i64_in _ (by omega)];omega
      by_cases h0:e=0
      ·subst h0
       repeat' (first | refine st ?_ | refine sF ?_ (Nat.le_succ _) rp rfl | refine sb (fun nb_ hnb_=>?_) | refine s2 (fun h=>?_) (fun h=>?_) | fail)
       exact hn ⟨s0.t,some b4,ar4,s1.k,o2,sp4,o3,se4⟩ _ (.one (.here _) (.one (.here _) (.slot (.here _) (.slotl (.here _))))) ⟨nofun,by have:=h4.ak;dsimp only at *;omega,by dsimp only;omega,h4.p0,h4.e0,h4.pm,h4.em⟩ rfl (by dsimp only;omega) (hg4 rfl)
      ·have d0:decide (e≠0)=true:=by simpa using h0
       repeat' (first | refine st ?_ | refine sF ?_ (Nat.le_succ _) rp rfl | refine sb (fun nb_ hnb_=>?_) | refine s2 (fun h=>?_) (fun h=>?_) | fail)
       exact hqg e ln _ ⟨s0.t,some b4,ar4,s1.k,o2,sp4,o3,se4⟩ (.one (.here _) (.one (.here _) (.slot (.here _) (.slotl (.here _))))) (hbl _ ⟨nofun,by have:=h4.ak;dsimp only at *;omega,by dsimp only;omega,h4.p0,h4.e0,h4.pm,h4.em⟩) rfl (by dsimp only;omega) (fun h=>absurd h h0)
     have ht3':s3.t=s0.t:=by rw[ht3];show s1.t=s0.t;omega
     have hk3':s3.k=s1.k+1:=hk3
     have c3:=ih (aa.wts x.els) (by omega) x.els s3 (m+aa.wts (l.take i)+1+aa.wts x.body) (Nat.le_refl _) (by omega) hs3 (by omega)
     have hloc4:p.threads[s3.t].locals=loc:=by rw[←hloc];congr 2
     rw[hloc4]at c3
     by_cases h2:e2=0
     ·have d2:decide (e2=0)=true:=by simpa using h2
      unfold eP
      repeat' (first | refine st ?_ | refine sb (fun nb_ hnb_=>?_) | refine s2 (fun h=>?_) (fun h=>?_) | fail)
      refine xE c3 (.refl _) ?_
      rintro _ _ ⟨e3,ln3,s4,rfl,rfl,hs4,ht4,hk4,hg4⟩
      unfold hY
      repeat' (first | with_reducible refine key2 _ _ _ _ (hbk _ (by omega) _ hs4) (by omega) (by omega) (fun h3=>hso.2 ⟨hone,hg3 h2,hg4 h3⟩) | refine st ?_ | refine sb (fun nb_ hnb_=>?_) | refine s2 (fun h=>?_) (fun h=>?_) | fail)
     ·have d2:decide (e2=0)=false:=by simpa using h2
      unfold eP
      repeat' (first | with_reducible refine key2 _ _ _ _ (hbk _ (by omega) _ hs3) (by omega) (by omega) (fun h3=>absurd h3 h2) | refine st ?_ | refine sb (fun nb_ hnb_=>?_) | refine s2 (fun h=>?_) (fun h=>?_) | fail)
    ·have d0:decide (e≠0)=true:=by simpa using h0
     repeat' (first | refine st ?_ | refine sb (fun nb_ hnb_=>?_) | refine s2 (fun h=>?_) (fun h=>?_) | fail)
     exact hqg e _ _ s1 (.one (.here _) (.slot (.here _) (.slot (.here _) (.slotl .last)))) (hbl _ (hbk _ (by omega) _ hs1)) (by omega) (by omega) (fun h=>absurd h h0)
   have hk7:=hs1.k6
   unfold aa.row at key
   have ek:=bH (i:=s1.k) (n:=7) (by omega) (by omega)
   by_cases h6:s1.k<6
   ·have d6:decide ((6:Int)<((s1.k+1:Nat):Int))=false:=by simp;omega
    repeat' (first | refine kY ?_ (fun e=>by have:=hs1.a0 e;have:=hs1.ak;simp_all) | with_reducible refine key _ (fun h=>⟨hg1 h,h6⟩) | refine st ?_ | refine sb (fun nb_ hnb_=>?_) | refine s2 (fun h=>?_) (fun h=>?_) | fail)
   ·have d6:decide ((6:Int)<((s1.k+1:Nat):Int))=true:=by simp;omega
    repeat' (first | refine kY ?_ (fun e=>by have:=hs1.a0 e;have:=hs1.ak;simp_all) | with_reducible refine key _ (fun h=>absurd h (by decide)) | refine st ?_ | refine sb (fun nb_ hnb_=>?_) | refine s2 (fun h=>?_) (fun h=>?_) | fail)
  ·have hd:=ee g1
   repeat' (first | refine st ?_ | refine sb (fun nb_ hnb_=>?_) | refine s2 (fun h=>?_) (fun h=>?_) | fail)
   have hil:i=l.length:=by omega
   subst hil
   rw[List.take_length]at hs
   exact hqg 0 0 _ s (.one (.here _) (.slot (.here _) (.slot (.here _) (.slotl .last)))) hs hst hsk (fun _=>(iW l).2 fun x hx=>by obtain⟨j,hj,rfl⟩:=List.getElem_of_mem hx;exact hG j hj hj)
end Go.Proofs.Ytljkdffikfkcgaa.Am
end
section
namespace Go.Proofs.Ytljkdffikfkcgaa.Am
set_option maxRecDepth 100000
set_option linter.unusedVariables false
structure fD(p:aK):Prop where
 shaped:Du p=true
 decls:qZ p.decls
 few:p.threads.length≤4
 threads:kX p
 stmts:bf (fun t=>aa.cnts t.body) p.threads≤60
 sts:∀i (h:i<p.threads.length),StsOk p p.threads[i].locals p.threads[i].body
theorem jw{α:Type}(f:α→Nat)(l:List α)(i:Nat):bf f (l.take i)≤bf f l:=by
 unfold bf
 induction l generalizing i with
 | nil=>simp
 | cons x l ih=>cases i with
  | zero=>simp
  | succ i=>have:=ih i;simp only[List.take_succ_cons,List.map_cons,List.sum_cons];omega
theorem zy{α:Type}{f g:α→Nat}(h:∀x,f x≤g x)(l:List α):bf f l≤bf g l:=by
 unfold bf
 induction l with
 | nil=>simp
 | cons x l ih=>have:=h x;simp only[List.map_cons,List.sum_cons];omega
theorem DA(p:aK)(hw:p.wt<2^40):am Try.prog 12 [.agg p.enc] [] (B0 (fD p)):=by
 have hl1:=p.decls_len
 have hl2:=p.threads_len
 have hsum:bf (fun t:ai=>aa.wts t.body) p.threads≤p.wt:=by
  have:=zy (f:=fun t:ai=>aa.wts t.body) (g:=ai.wt) (fun t=>by unfold ai.wt;omega) p.threads
  unfold aK.wt;unfold bf at *;omega
 have hcnt:bf (fun t:ai=>aa.cnts t.body) p.threads≤p.wt:=Nat.le_trans (zy (fun t=>aa.cnts_wt t.body) p.threads) hsum
 have c1:=BX p hw
 have c2:=Dy p.decls (by omega)
 have c3:=At p hw
 refine am.fz (sD _ _ _ ?_)
 unfold jL
 generalize hQ:(fun(v:AV) (L:SH)=>∃v2 L2,aV [v] L [v2] L2∧B0 (fD p) v2 L2)=Q
 have hbad:∀(e ln:Int) (K:SH),e≠0→Q (.tup [.int .i64 e,.int .i64 ln]) K:=fun e ln K h=>by subst hQ;exact⟨_,[],aV.all (.refl _),e,ln,rfl,rfl,fun h0=>absurd h0 h⟩
 have hgood:∀K:SH,fD p→Q (.tup [.int .i64 0,.int .i64 0]) K:=fun K h=>by subst hQ;exact⟨_,[],aV.all (.refl _),0,0,rfl,rfl,fun _=>h⟩
 clear hQ
 by_cases hs:Du p=true
 case neg=>
  have hs:Du p=false:=by simpa using hs
  rw[hs]at c1
  repeat' (first | refine st ?_ | ((with_reducible refine aq 28 ?_);refine aj (c1) ?_) | ((with_reducible refine al 28 ?_);refine ab (c1) ?_) | refine sb (fun nb_ hnb_=>?_) | refine s2 (fun h=>?_) (fun h=>?_) | fail)
  exact hbad _ _ _ (by decide)
 rw[hs]at c1
 repeat' (first | refine st ?_ | ((with_reducible refine aq 28 ?_);refine aj (c1) ?_) | ((with_reducible refine al 28 ?_);refine ab (c1) ?_) | ((with_reducible refine aq 29 ?_);(refine cf c2 ?_;rintro _ _ ⟨e1,ln1,rfl,rfl,hg1⟩)) | ((with_reducible refine aq 30 ?_);(refine cf c3 ?_;rintro _ _ ⟨e2,ln2,rfl,rfl,hg2⟩)) | refine sb (fun nb_ hnb_=>?_) | refine s2 (fun h=>?_) (fun h=>?_) | fail)
 all_goals first
  | exact hbad _ _ _ (by decide)
  | exact hbad _ _ _ (of_decide_eq_true (by assumption))
  | skip
 rename_i f2 h4
 have hg1:=hg1 (by simpa using f2)
 have hg2:=hg2 (by simpa using h)
 have h4:p.threads.length≤4:=by simp at h4;omega
 clear h f2
 refine eJ p.threads.length (fun _=>True) (fun i=>[.pptr [p.enc] 0 0,.int .i64 (bf (fun t:ai=>aa.cnts t.body) (p.threads.take i):Nat),.int .i64 i]) (by omega) trivial rfl (fun i h1 hd hi _ nx hn=>?_) (fun i h1 hd _ nx=>?_)
 all_goals unfold iT
 ·have hx:=aC (f:=ai.enc) h1
  have hss:=ck (f:=fun t:ai=>aa.cnts t.body) h1
  have hst:=jw (fun t:ai=>aa.cnts t.body) p.threads (i+1)
  have hwt:=p.thread_wt h1
  have c4:=Dv _ p.threads[i].body (Nat.le_refl _) (by have:aa.wts p.threads[i].body<p.threads[i].wt:=(by unfold ai.wt;omega);omega)
  have e1:=fU (a:=bf (fun t:ai=>aa.cnts t.body) (p.threads.take i)) (b:=aa.cnts p.threads[i].body) (by omega)
  have hn:=hn trivial
  rw[hss]at hn
  repeat' (first | refine st ?_ | ((with_reducible refine aq 31 ?_);refine aj (c4) ?_) | ((with_reducible refine al 31 ?_);refine ab (c4) ?_) | refine sb (fun nb_ hnb_=>?_) | refine s2 (fun h=>?_) (fun h=>?_) | fail)
  exact hn
 ·have hxd:=hd
  repeat' (first | refine st ?_ | refine sb (fun nb_ hnb_=>?_) | refine s2 (fun h=>?_) (fun h=>?_) | fail)
  ·exact hbad _ _ _ (by decide)
  have h60:bf (fun t:ai=>aa.cnts t.body) p.threads≤60:=by
   rw[h1,List.take_length]at h;simp at h;omega
  generalize nb_=bw at *
  clear hd hxd h1
  refine cH p.threads.length (fun i (s:jS)=>([.pptr [p.enc] 0 0,.ptr bw 0 0,.int .i64 i],s.L p bw)) (fun i s=>s.Ok (bf (fun t:ai=>aa.wts t.body) (p.threads.take i))∧s.k=0∧∀j (hj:j<p.threads.length),j<i→StsOk p p.threads[j].locals p.threads[j].body) ⟨0,none,[],0,none,[],none,[]⟩ ⟨⟨fun _=>rfl,Nat.le_refl _,by decide,fun _=>rfl,fun _=>rfl,by simp,by simp⟩,rfl,fun j _ h=>absurd h (Nat.not_lt_zero _)⟩ ?_ ?_
  ·exact aV.box (K:=[]) (R:=[]) (.refl _) (.cons (.refl _) (.cons (.refl _) (.cons (.refl _) (.cons .nile (.cons .nile (.cons .nile .nil))))))
  ·rintro i s hi ⟨hs1,hk1,hG⟩
   dsimp only
   unfold iS
   generalize hnx:(fun(vs':List AV) (L':SH)=>∃j o',i<j∧j≤p.threads.length∧(jS.Ok o' (bf (fun t:ai=>aa.wts t.body) (p.threads.take j))∧o'.k=0∧∀(q:Nat) (hj:q<p.threads.length),q<j→StsOk p p.threads[q].locals p.threads[q].body)∧aV vs' L' [.pptr [p.enc] 0 0,.ptr bw 0 0,.int .i64 (j:Int)] (jS.L p bw o'))=nx
   rcases Nat.lt_or_ge i p.threads.length with g1 | g1
   ·have hd:=ct g1
    have hi1:=bH g1 (by omega)
    have hx:=aC (f:=ai.enc) g1
    have hss:=ck (f:=fun t:ai=>aa.wts t.body) g1
    have hst:=jw (fun t:ai=>aa.wts t.body) p.threads (i+1)
    have c5:=GY p bw hw _ p.threads[i].body {s with t:=i} (bf (fun t:ai=>aa.wts t.body) (p.threads.take i)) (Nat.le_refl _) g1 ⟨hs1.a0,hs1.ak,hs1.k6,hs1.p0,hs1.e0,hs1.pm,hs1.em⟩ (by omega)
    rw[←hss]at c5
    unfold jS.L jS.row at c5 ⊢
    repeat' (first | refine st ?_ | ((with_reducible refine aq 32 ?_);(refine cf c5 ?_;rintro _ _ ⟨e3,ln3,s3,rfl,rfl,hs3,ht3,hk3,hg3⟩)) | refine sb (fun nb_ hnb_=>?_) | refine s2 (fun h=>?_) (fun h=>?_) | fail)
    ·exact hbad _ _ _ (of_decide_eq_true h)
    ·subst hnx
     refine⟨i+1,s3,by omega,by omega,⟨hs3,by rw[hk3];exact hk1,fun j hj hlt=>?_⟩,.refl _ _⟩
     rcases Nat.lt_or_ge j i with q1 | q1
     ·exact hG j hj q1
     ·have:j=i:=by omega
      subst this
      exact hg3 (by simpa using h)
   ·have hd:=ee g1
    repeat' (first | refine st ?_ | refine sb (fun nb_ hnb_=>?_) | refine s2 (fun h=>?_) (fun h=>?_) | fail)
    exact hgood _ ⟨hs,hg1,h4,hg2,h60,fun j hj=>hG j hj (by omega)⟩
end Go.Proofs.Ytljkdffikfkcgaa.Am
end
section
namespace Go.Proofs.Ytljkdffikfkcgaa.Am
set_option linter.unusedVariables false
set_option maxRecDepth 100000
def q7(Q:R)(L17:SH)(t0 t1:AV):Prop:=
 c8 1 t0 L17 fun x22=>
 wb .add 3 x22 (.int .i64 1) fun x23=>
 W.nilchk t0 fun x24=>
 W.faddr 1 x24 fun x25=>
 W.store 1 x25 x23 L17 fun L26=>
 (true=true)∧(
 W.nilchk t0 fun x27=>
 bx 0 x27 [] 3 L26 fun x29 r30=>
 W.nilchk t0 fun x31=>
 bx 1 x31 [rm 3 r30] 7 L26 fun x33 r34=>
 wb .sub 3 x33 (.int .i64 1) fun x35=>
 di [] 9 1 x29 x35 L26 fun x36 r37=>
 dl [] 10 x36 L26 fun x38 r39=>
 W.conv .i64 x38 fun x40=>
 wb .rem 3 x40 t1 fun x41=>
 Q x41 L26)
def iX(t0 t1:AV)(L:SH)(Q:R):Prop:=
 (true=true)∧(
 W.nilchk t0 fun x0=>
 bx 1 x0 [] 3 L fun x2 r3=>
 W.nilchk t0 fun x4=>
 bx 0 x4 [rm 3 r3] 7 L fun x6 r7=>
 W.len x6 fun x8=>
 wb .geq 3 x2 x8 fun x9=>
 W.dgrd x9 false (fun k11=>k11 t1 L rz) L fun x10 L13 r12=>
 W.dgrd x9 false (fun k15=>wb .lss 3 x10 (.int .i64 1) fun x18=>
 k15 x18 L13 rz) L13 fun x14 L17 r16=>
 W.pick x9 (.bool true) x14 fun x19=>
 wk x19 (
 Q (.int .i64 0) L17) (
 (q7 Q L17 t0 t1)))
theorem q8(t0 t1:AV)(L:SH)(Q:R)(h:iX t0 t1 L Q):am Try.prog 18 [t0,t1] L Q:=
 bC ⟨fun _=>none,fun _=>[],fun _=>[],fun k=>if k=1 then [0,1,3,7,0,16,48,112,240,511,1023,2047,4095,8191]else if k=4 then [0,1,3,7,0,16,48,112,240,511,1023,2047,0,8191,16383]else []⟩ Try.func18 (by kernel_rfl) (by kernel_rfl) h
def vH(t0:AV)(L:SH)(Q:R):Prop:=
 W.alloc [(.int .i64 0),(.int .i64 0),(.str []),.nils] L fun x0 L1=>
 W.build [(.int .i64 0),(.int .i64 0),(.str []),.nils] [(0,1,(.int .i64 1)),(1,1,t0)] fun x2=>
 W.store 4 x0 x2 L1 fun L3=>
 W.load true 4 x0 L3 fun x4=>
 Q x4 L3
theorem zz(t0:AV)(L:SH)(Q:R)(h:vH t0 L Q):am Try.prog 21 [t0] L Q:=
 bC ⟨fun _=>none,fun _=>[],fun _=>[],fun _=>[]⟩ Try.func21 (by kernel_rfl) (by kernel_rfl) h
def td(t0:AV)(L:SH)(Q:R):Prop:=
 W.alloc [(.int .i64 0),(.int .i64 0),(.str []),.nils] L fun x0 L1=>
 W.build [(.int .i64 0),(.int .i64 0),(.str []),.nils] [(0,1,(.int .i64 2)),(2,1,t0)] fun x2=>
 W.store 4 x0 x2 L1 fun L3=>
 W.load true 4 x0 L3 fun x4=>
 Q x4 L3
theorem xV(t0:AV)(L:SH)(Q:R)(h:td t0 L Q):am Try.prog 54 [t0] L Q:=
 bC ⟨fun _=>none,fun _=>[],fun _=>[],fun _=>[]⟩ Try.func54 (by kernel_rfl) (by kernel_rfl) h
def mK(t0 t1 t2:AV)(L:SH)(Q:R):Prop:=
 W.box t1 L fun x0 L1=>
 W.box t2 L1 fun x2 L3=>
 W.alloc [(.int .i64 0),(.int .i64 0),(.str []),.nils] L3 fun x4 L5=>
 W.frz1 x0 L5 fun x6 L7=>
 W.frz1 x2 L7 fun x8 L9=>
 dy 4 x6 L9 fun x10=>
 dy 4 x8 L9 fun x11=>
 W.bslice 4 [(.int .i64 0),(.int .i64 0),(.str []),.nils] 2 [(0,x10),(1,x11)] L9 fun x12 L13=>
 W.build [(.int .i64 0),(.int .i64 0),(.str []),.nils] [(0,1,t0),(3,1,x12)] fun x14=>
 W.store 4 x4 x14 L13 fun L15=>
 W.load true 4 x4 L15 fun x16=>
 Q x16 L15
theorem vI(t0 t1 t2:AV)(L:SH)(Q:R)(h:mK t0 t1 t2 L Q):am Try.prog 53 [t0,t1,t2] L Q:=
 bC ⟨fun _=>none,fun _=>[],fun k=>if k=0 then [4,5]else [],fun _=>[]⟩ Try.func53 (by kernel_rfl) (by kernel_rfl) h
def mL(t0 t1:AV)(L:SH)(Q:R):Prop:=
 W.box t1 L fun x0 L1=>
 W.alloc [(.int .i64 0),(.int .i64 0),(.str []),(.str []),.nils,(.int .i64 0),(.int .i64 0),(.str []),.nils,.nils,.nils] L1 fun x2 L3=>
 W.frz1 x0 L3 fun x4 L5=>
 dy 4 x4 L5 fun x6=>
 W.build [(.int .i64 0),(.int .i64 0),(.str []),(.str []),.nils,(.int .i64 0),(.int .i64 0),(.str []),.nils,.nils,.nils] [(0,1,(.int .i64 1)),(2,1,t0),(5,4,x6)] fun x7=>
 W.store 11 x2 x7 L5 fun L8=>
 W.load true 11 x2 L8 fun x9=>
 Q x9 L8
theorem vJ(t0 t1:AV)(L:SH)(Q:R)(h:mL t0 t1 L Q):am Try.prog 20 [t0,t1] L Q:=
 bC ⟨fun _=>none,fun _=>[],fun k=>if k=0 then [3]else [],fun _=>[]⟩ Try.func20 (by kernel_rfl) (by kernel_rfl) h
def q9(L:SH)(Q:R):Prop:=
 W.build [(.int .i64 0),(.int .i64 0),(.str []),(.int .i64 0),(.int .i64 0),(.str [])] [(0,1,(.int .i64 1)),(2,1,(.str [120]))] fun x0=>
 W.build [(.int .i64 0),(.int .i64 0),(.str []),(.int .i64 0),(.int .i64 0),(.str [])] [(0,1,(.int .i64 1)),(2,1,(.str [121])),(4,1,(.int .i64 1))] fun x1=>
 W.build [(.int .i64 0),(.int .i64 0),(.str []),(.int .i64 0),(.int .i64 0),(.str [])] [(0,1,(.int .i64 2)),(2,1,(.str [118]))] fun x2=>
 W.build [(.int .i64 0),(.int .i64 0),(.str []),(.int .i64 0),(.int .i64 0),(.str [])] [(0,1,(.int .i64 1)),(2,1,(.str [113])),(3,1,(.int .i64 2))] fun x3=>
 W.build [(.int .i64 0),(.int .i64 0),(.str []),(.int .i64 0),(.int .i64 0),(.str [])] [(0,1,(.int .i64 3)),(2,1,(.str [109]))] fun x4=>
 W.build [(.int .i64 0),(.int .i64 0),(.str []),(.int .i64 0),(.int .i64 0),(.str [])] [(0,1,(.int .i64 3)),(2,1,(.str [110]))] fun x5=>
 W.build [(.int .i64 0),(.int .i64 0),(.str []),(.int .i64 0),(.int .i64 0),(.str [])] [(0,1,(.int .i64 4)),(2,1,(.str [114]))] fun x6=>
 W.build [(.int .i64 0),(.int .i64 0),(.str []),(.int .i64 0),(.int .i64 0),(.str [])] [(0,1,(.int .i64 5)),(2,1,(.str [99])),(5,1,(.str [109]))] fun x7=>
 W.build [(.int .i64 0),(.int .i64 0),(.str []),(.int .i64 0),(.int .i64 0),(.str [])] [(0,1,(.int .i64 6)),(2,1,(.str [102]))] fun x8=>
 W.bslice 6 [(.int .i64 0),(.int .i64 0),(.str []),(.int .i64 0),(.int .i64 0),(.str [])] 9 [(0,x0),(1,x1),(2,x2),(3,x3),(4,x4),(5,x5),(6,x6),(7,x7),(8,x8)] L fun x9 L10=>
 Q x9 L10
theorem wQ(L:SH)(Q:R)(h:q9 L Q):am Try.prog 17 [] L Q:=
 bC ⟨fun _=>none,fun _=>[],fun _=>[],fun _=>[]⟩ Try.func17 (by kernel_rfl) (by kernel_rfl) h
def gx(t0 t1:AV)(L:SH)(Q:R):Prop:=
 c8 7 t0 L fun x2=>
 wc (.fn 45 []) [x2,t1] L fun x3 L4=>
 wb .geq 3 x3 (.int .i64 0) fun x5=>
 Q x5 L4
theorem ls(t0 t1:AV)(L:SH)(Q:R)(h:gx t0 t1 L Q):am Try.prog 55 [t0,t1] L Q:=
 bC ⟨fun _=>none,fun _=>[],fun _=>[],fun _=>[]⟩ Try.func55 (by kernel_rfl) (by kernel_rfl) h
def nZ(Q:R)(x0 x37:AV)(L38:SH):Prop:=
 W.store 4 x0 x37 L38 fun L39=>
 W.load true 4 x0 L39 fun x40=>
 Q x40 L39
def n6(Q:R)(x0 x35:AV)(L36:SH):Prop:=
 wc (.fn 21 []) [x35] L36 (nZ Q x0)
def n7(Q:R)(x0 x50:AV)(L51:SH):Prop:=
 W.store 4 x0 x50 L51 fun L52=>
 W.load true 4 x0 L52 fun x53=>
 Q x53 L52
def n8(Q:R)(x2 x0 x46:AV)(L47:SH):Prop:=
 Ba 1 x2 x46 L47 fun x49=>
 wc (.fn 54 []) [x49] L47 (n7 Q x0)
def n9(Q:R)(x0 x55:AV)(L56:SH):Prop:=
 W.bslice 4 [(.int .i64 0),(.int .i64 0),(.str []),.nils] 1 [(0,x55)] L56 fun x57 L58=>
 W.build [(.int .i64 0),(.int .i64 0),(.str []),.nils] [(0,1,(.int .i64 3)),(2,1,(.str [113])),(3,1,x57)] fun x59=>
 W.store 4 x0 x59 L58 fun L60=>
 W.load true 4 x0 L60 fun x61=>
 Q x61 L60
def oa(Q:R)(L85:SH)(x0 x87:AV)(L89:SH)(q88:Ns):Prop:=
 wn [] q88 [] L85.names fun r90=>
 ds [] 19 4 x0 x87 L89 fun L91 r92=>
 W.load true 4 x0 L91 fun x93=>
 Q x93 L91
def oe(Q:R)(L80:SH)(x75 x78 x0 x83:AV)(L85:SH)(q84:Ns):Prop:=
 wn [] q84 [] L80.names fun r86=>
 wd [] 18 (.fn 53 []) [x75,x78,x83] L85 (oa Q L85 x0)
def og(Q:R)(L71:SH)(t1 t0 x75 x0:AV)(r76 r74:Fp)(x78:AV)(L80:SH)(q79:Ns):Prop:=
 wn [] q79 [] L71.names fun r81=>
 wb .sub 3 t1 (.int .i64 1) fun x82=>
 wd [rm 9 r76,rm 8 r74] 17 (.fn 52 []) [t0,x82] L80 (oe Q L80 x75 x78 x0)
def oh(Q:R)(L63:SH)(t1 t0 x62 x0 x69:AV)(L71:SH)(q70:Ns):Prop:=
 wn [] q70 [] L63.names fun r72=>
 di [] 8 1 x62 x69 L71 fun x73 r74=>
 dl [] 9 x73 L71 fun x75 r76=>
 wb .sub 3 t1 (.int .i64 1) fun x77=>
 wd [rm 9 r76,rm 8 r74] 13 (.fn 52 []) [t0,x77] L71 (og Q L71 t1 t0 x75 x0 r76 r74)
def om(Q:R)(L29:SH)(t0 t1 x0:AV):Prop:=
 W.bslice 1 [(.int .i64 0)] 6 [(0,(.int .i64 6)),(1,(.int .i64 7)),(2,(.int .i64 8)),(3,(.int .i64 11)),(4,(.int .i64 13)),(5,(.int .i64 17))] L29 fun x62 L63=>
 (true=true)∧(
 W.nilchk t0 fun x64=>
 bx 0 x64 [] 4 L63 fun x66 r67=>
 W.len x62 fun x68=>
 wd [] 7 (.fn 18 []) [x66,x68] L63 (oh Q L63 t1 t0 x62 x0))
def oo(Q:R)(L29:SH)(t0 t1 x7 x2 x0:AV):Prop:=
 wb .lss 3 x7 (.int .i64 7) fun x41=>
 wk x41 (
 c8 0 t0 L29 fun x44=>
 W.len x2 fun x45=>
 wc (.fn 18 []) [x44,x45] L29 (n8 Q x2 x0)) (
 wb .eql 3 x7 (.int .i64 7) fun x54=>
 wk x54 (
 wc (.fn 52 []) [t0,(.int .i64 0)] L29 (n9 Q x0)) (
 (om Q L29 t0 t1 x0)))
def oq(Q:R)(t1 t0 x0 x2 x7:AV)(L8:SH):Prop:=
 wb .lss 3 x7 (.int .i64 2) fun x9=>
 cj x9 false t1 L8 fun x10 L12=>
 wg x9 false (wb .eql 3 x10 (.int .i64 0)) L12 fun x13 L15=>
 cj x9 false x13 L15 fun x17 L19=>
 cj x17 true x7 L19 fun x20 L22=>
 wg x17 true (wb .geq 3 x20 (.int .i64 7)) L22 fun x23 L25=>
 wg x9 false (W.pick x17 x23 (.bool false)) L25 fun x27 L29=>
 W.pick x9 (.bool true) x27 fun x31=>
 wk x31 (
 c8 0 t0 L29 fun x34=>
 wc (.fn 18 []) [x34,(.int .i64 4)] L29 (n6 Q x0)) (
 (oo Q L29 t0 t1 x7 x2 x0))
def eT(t0 t1:AV)(L:SH)(Q:R):Prop:=
 W.alloc [(.int .i64 0),(.int .i64 0),(.str []),.nils] L fun x0 L1=>
 W.bslice 1 [(.str [])] 7 [(0,(.str [97])),(1,(.str [98])),(2,(.str [120])),(3,(.str [121])),(4,(.str [118])),(5,(.str [120])),(6,(.str [121]))] L1 fun x2 L3=>
 c8 0 t0 L3 fun x6=>
 wc (.fn 18 []) [x6,(.int .i64 10)] L3 (oq Q t1 t0 x0 x2)
theorem gy(t0 t1:AV)(L:SH)(Q:R)(h:eT t0 t1 L Q):am Try.prog 52 [t0,t1] L Q:=
 bC ⟨fun _=>none,fun _=>[],fun _=>[],fun k=>if k=10 then [0,0,2,6,14,0,32,126,255,511,0,0,2048,7422,0,0,32768,130302,262143,524287]else []⟩ Try.func52 (by kernel_rfl) (by kernel_rfl) h
def fM(Q:R)(t0 x16:AV)(L17:SH):Prop:=
 (true=true)∧(
 W.nilchk t0 fun x18=>
 bx 7 x18 [] 4 L17 fun x20 r21=>
 W.nilchk t0 fun x22=>
 bx 7 x22 [rm 4 r21] 8 L17 fun x24 r25=>
 W.len x24 fun x26=>
 wb .sub 3 x26 (.int .i64 1) fun x27=>
 W.calm [] ⟨11,(dw x20),[],[],false,[]⟩ (
 W.slice 1 x20 none (some x27) none L17 fun x28=>
 wn (dw x20) [] [] [] fun r29=>
 W.nilchk t0 fun x30=>
 W.faddr 7 x30 fun x31=>
 ds [] 14 1 x31 x28 L17 fun L32 r33=>
 Q x16 L32))
def lu(Q:R)(t0 t2 x13:AV)(L14:SH):Prop:=
 wb .add 3 (.int .i64 1) x13 fun x15=>
 wc (.fn 19 []) [t0,t2,x15] L14 (fM Q t0)
def gz(t0 t1 t2:AV)(L:SH)(Q:R):Prop:=
 c8 7 t0 L fun x2=>
 W.bslice 1 [(.str [])] 1 [(0,t1)] L fun x3 L4=>
 W.append 1 16 x2 x3 L4 fun x5 L6=>
 W.nilchk t0 fun x7=>
 W.faddr 7 x7 fun x8=>
 W.store 1 x8 x5 L6 fun L9=>
 c8 0 t0 L9 fun x12=>
 wc (.fn 18 []) [x12,(.int .i64 2)] L9 (lu Q t0 t2)
theorem lv(t0 t1 t2:AV)(L:SH)(Q:R)(h:gz t0 t1 t2 L Q):am Try.prog 56 [t0,t1,t2] L Q:=
 bC ⟨fun _=>none,fun _=>[],fun _=>[],fun k=>if k=3 then [0,0,2,6,14,0,32,96,224,480,992,2046,4095,8191,16383]else []⟩ Try.func56 (by kernel_rfl) (by kernel_rfl) h
def lw(n1:Kn)(x6 x7 x3 x4 x5 x43:AV)(L44:SH):Prop:=
 W.bslice 11 [(.int .i64 0),(.int .i64 0),(.str []),(.str []),.nils,(.int .i64 0),(.int .i64 0),(.str []),.nils,.nils,.nils] 1 [(0,x43)] L44 fun x45 L46=>
 W.append 11 176 x6 x45 L46 fun x47 L48=>
 wb .add 3 x7 (.int .i64 1) fun x49=>
 n1 [x3,x4,x5,x47,x49] L48
def fN(Q:R)(v0:Vs)(L2:SH)(n1:Kn):Prop:=
 Ah 0 1 2 7 8 v0 fun x3 x4 x5 x6 x7=>
 wb .lss 3 x7 x5 fun x8=>
 cj x8 true x7 L2 fun x9 L11=>
 wg x8 true (wb .eql 3 x9 (.int .i64 0)) L11 fun x12 L14=>
 cj x8 true x12 L14 fun x16 L18=>
 cj x16 false x3 L18 fun x19 L21=>
 wg x16 false (W.nilchk x19) L21 fun x22 L24=>
 wg x16 false (W.faddr 2 x22) L24 fun x26 L28=>
 wg x16 false (wl x26 L28) L28 fun x30 L32=>
 wg x16 false (wb .gtr 3 x30 (.int .i64 0)) L32 fun x34 L36=>
 wg x8 true (W.pick x16 (.bool true) x34) L36 fun x38 L40=>
 W.pick x8 x38 (.bool false) fun x42=>
 wk x42 (
 wc (.fn 36 []) [x3,x4] L40 (lw n1 x6 x7 x3 x4 x5)) (
 Q x6 L40)
def gA(t0 t1 t2:AV)(L:SH)(Q:R):Prop:=
 W.loop (fN Q) [t0,t1,t2,.nils,(.int .i64 0)] L
theorem lx(t0 t1 t2:AV)(L:SH)(Q:R)(h:gA t0 t1 t2 L Q):am Try.prog 19 [t0,t1,t2] L Q:=
 bC ⟨fun _=>none,fun k=>if k=3 then [0,1,2,7,8]else [],fun _=>[],fun _=>[]⟩ Try.func19 (by kernel_rfl) (by kernel_rfl) h
def ou(Q:R)(L65:SH)(x0 x67:AV)(L69:SH)(q68:Ns):Prop:=
 wn [] q68 [] L65.names fun r70=>
 ds [] 7 11 x0 x67 L69 fun L71 r72=>
 W.load true 11 x0 L71 fun x73=>
 Q x73 L71
def ov(Q:R)(L57:SH)(x61 x0 x63:AV)(L65:SH)(q64:Ns):Prop:=
 wn [] q64 [] L57.names fun r66=>
 wd [] 6 (.fn 20 []) [x61,x63] L65 (ou Q L65 x0)
def gB(Q:R)(L52:SH)(t0 x12 x0:AV):Prop:=
 (true=true)∧(
 W.calm [] ⟨0,[],[],[],false,[]⟩ (
 W.bslice 1 [(.str [])] 4 [(0,(.str [120])),(1,(.str [121])),(2,(.str [120])),(3,(.str [118]))] L52 fun x56 L57=>
 wn [] [] (af x56) [] fun r58=>
 di [] 2 1 x56 x12 L57 fun x59 r60=>
 dl [] 3 x59 L57 fun x61 r62=>
 wd [rm 3 r62,rm 2 r60,rm 0 r58] 5 (.fn 52 []) [t0,(.int .i64 1)] L57 (ov Q L57 x61 x0)))
def ow(Q:R)(L92:SH)(x0 x94:AV)(L96:SH)(q95:Ns):Prop:=
 wn [] q95 [] L92.names fun r97=>
 ds [] 11 11 x0 x94 L96 fun L98 r99=>
 W.load true 11 x0 L98 fun x100=>
 Q x100 L98
def oz(Q:R)(L84:SH)(x88 x0 x90:AV)(L92:SH)(q91:Ns):Prop:=
 wn [] q91 [] L84.names fun r93=>
 wd [] 10 (.fn 20 []) [x88,x90] L92 (ow Q L92 x0)
def oA(Q:R)(L76:SH)(t0 x75 x0:AV)(r77:Fp)(x82:AV)(L84:SH)(q83:Ns):Prop:=
 wn [] q83 [] L76.names fun r85=>
 di [] 6 1 x75 x82 L84 fun x86 r87=>
 dl [] 7 x86 L84 fun x88 r89=>
 wd [rm 7 r89,rm 6 r87,rm 0 r77] 9 (.fn 52 []) [t0,(.int .i64 1)] L84 (oz Q L84 x88 x0)
def gC(Q:R)(L52:SH)(t0 x0:AV):Prop:=
 (true=true)∧(
 W.calm [] ⟨0,[],[],[],false,[]⟩ (
 W.bslice 1 [(.str [])] 2 [(0,(.str [97])),(1,(.str [98]))] L52 fun x75 L76=>
 wn [] [] (af x75) [] fun r77=>
 W.nilchk t0 fun x78=>
 bx 0 x78 [rm 0 r77] 4 L76 fun x80 r81=>
 wd [rm 0 r77] 5 (.fn 18 []) [x80,(.int .i64 2)] L76 (oA Q L76 t0 x75 x0 r77)))
def oC(Q:R)(x104 x0 x106:AV)(L107:SH):Prop:=
 W.build [(.int .i64 0),(.int .i64 0),(.str []),(.str []),.nils,(.int .i64 0),(.int .i64 0),(.str []),.nils,.nils,.nils] [(0,1,(.int .i64 1)),(2,1,(.str [113])),(4,1,x104),(5,4,x106)] fun x108=>
 W.store 11 x0 x108 L107 fun L109=>
 W.load true 11 x0 L109 fun x110=>
 Q x110 L109
def oD(Q:R)(t0 x0 x102:AV)(L103:SH):Prop:=
 W.bslice 4 [(.int .i64 0),(.int .i64 0),(.str []),.nils] 1 [(0,x102)] L103 fun x104 L105=>
 wc (.fn 52 []) [t0,(.int .i64 1)] L105 (oC Q x104 x0)
def oE(Q:R)(x126 x0 x136:AV)(L137:SH):Prop:=
 W.faddr 10 x126 fun x138=>
 W.store 1 x138 x136 L137 fun L139=>
 dy 11 x126 L139 fun x140=>
 W.store 11 x0 x140 L139 fun L141=>
 W.load true 11 x0 L141 fun x142=>
 Q x142 L141
def oF(Q:R)(t1 t0 x126 x0 x132:AV)(L133:SH):Prop:=
 wb .eql 3 x132 (.int .i64 1) fun x134=>
 wk x134 (
 wb .sub 3 t1 (.int .i64 1) fun x135=>
 wc (.fn 19 []) [t0,x135,(.int .i64 1)] L133 (oE Q x126 x0)) (
 dy 11 x126 L133 fun x143=>
 W.store 11 x0 x143 L133 fun L144=>
 W.load true 11 x0 L144 fun x145=>
 Q x145 L144)
def oG(Q:R)(t0 t1 x120 x0 x123:AV)(L124:SH):Prop:=
 W.build [(.int .i64 0),(.int .i64 0),(.str []),(.str []),.nils,(.int .i64 0),(.int .i64 0),(.str []),.nils,.nils,.nils] [(0,1,(.int .i64 2)),(5,4,x120),(9,1,x123)] fun x125=>
 W.alloc [(.int .i64 0),(.int .i64 0),(.str []),(.str []),.nils,(.int .i64 0),(.int .i64 0),(.str []),.nils,.nils,.nils] L124 fun x126 L127=>
 W.store 11 x126 x125 L127 fun L128=>
 c8 0 t0 L128 fun x131=>
 wc (.fn 18 []) [x131,(.int .i64 2)] L128 (oF Q t1 t0 x126 x0)
def ly(Q:R)(t1 t0 x0 x120:AV)(L121:SH):Prop:=
 wb .sub 3 t1 (.int .i64 1) fun x122=>
 wc (.fn 19 []) [t0,x122,(.int .i64 1)] L121 (oG Q t0 t1 x120 x0)
def lz(Q:R)(t0 x168 x165 x157 x0 x176:AV)(L177:SH):Prop:=
 W.bslice 11 [(.int .i64 0),(.int .i64 0),(.str []),(.str []),.nils,(.int .i64 0),(.int .i64 0),(.str []),.nils,.nils,.nils] 1 [(0,x176)] L177 fun x178 L179=>
 W.append 11 176 x168 x178 L179 fun x180 L181=>
 W.build [(.int .i64 0),(.int .i64 0),(.str []),(.str []),.nils,(.int .i64 0),(.int .i64 0),(.str []),.nils,.nils,.nils] [(0,1,(.int .i64 3)),(5,4,x165),(9,1,x180)] fun x182=>
 xH [(.int .i64 0),(.int .i64 0),(.str []),(.str []),.nils,(.int .i64 0),(.int .i64 0),(.str []),.nils,.nils,.nils] 11 x182 L181 fun x186 L187=>
 W.nilchk t0 fun x188=>
 W.faddr 6 x188 fun x189=>
 W.store 1 x189 x157 L187 fun L190=>
 dy 11 x186 L190 fun x191=>
 W.store 11 x0 x191 L190 fun L192=>
 W.load true 11 x0 L192 fun x193=>
 Q x193 L192
def lB(Q:R)(t0 x168 x165 x157 x0 x174:AV)(L175:SH):Prop:=
 wc (.fn 20 []) [(.str [98]),x174] L175 (lz Q t0 x168 x165 x157 x0)
def lC(Q:R)(t0 x170 x168 x165 x157 x0 x172:AV)(L173:SH):Prop:=
 wc (.fn 53 []) [(.int .i64 6),x170,x172] L173 (lB Q t0 x168 x165 x157 x0)
def lD(Q:R)(t0 x168 x165 x157 x0 x170:AV)(L171:SH):Prop:=
 wc (.fn 21 []) [(.int .i64 1)] L171 (lC Q t0 x170 x168 x165 x157 x0)
def lE(Q:R)(t0 x165 x157 x0 x168:AV)(L169:SH):Prop:=
 wc (.fn 54 []) [(.str [98])] L169 (lD Q t0 x168 x165 x157 x0)
def lF(Q:R)(t1 t0 x157 x0 x165:AV)(L166:SH):Prop:=
 wb .sub 3 t1 (.int .i64 1) fun x167=>
 wc (.fn 19 []) [t0,x167,(.int .i64 1)] L166 (lE Q t0 x165 x157 x0)
def lG(Q:R)(t1 t0 x161 x157 x0 x163:AV)(L164:SH):Prop:=
 wc (.fn 53 []) [(.int .i64 13),x161,x163] L164 (lF Q t1 t0 x157 x0)
def lH(Q:R)(t1 t0 x157 x0 x161:AV)(L162:SH):Prop:=
 wc (.fn 21 []) [(.int .i64 2)] L162 (lG Q t1 t0 x161 x157 x0)
def oH(Q:R)(L152:SH)(t0 t1 x0:AV):Prop:=
 c8 6 t0 L152 fun x157=>
 W.nilchk t0 fun x158=>
 W.faddr 6 x158 fun x159=>
 W.store 1 x159 (.bool true) L152 fun L160=>
 wc (.fn 54 []) [(.str [98])] L160 (lH Q t1 t0 x157 x0)
def lI(Q:R)(x244 x0 x246:AV)(L247:SH):Prop:=
 W.build [(.int .i64 0),(.int .i64 0),(.str []),(.str []),.nils,(.int .i64 0),(.int .i64 0),(.str []),.nils,.nils,.nils] [(0,1,(.int .i64 4)),(2,1,x244),(9,1,x246)] fun x248=>
 W.store 11 x0 x248 L247 fun L249=>
 W.load true 11 x0 L249 fun x250=>
 Q x250 L249
def oI(Q:R)(L237:SH)(t1 t0 x12 x0:AV):Prop:=
 W.bslice 1 [(.str [])] 2 [(0,(.str [109])),(1,(.str [110]))] L237 fun x240 L241=>
 wb .sub 3 x12 (.int .i64 8) fun x242=>
 Ba 1 x240 x242 L241 fun x244=>
 wb .sub 3 t1 (.int .i64 1) fun x245=>
 wc (.fn 56 []) [t0,x244,x245] L241 (lI Q x244 x0)
def lJ(Q:R)(x278 x0 x280:AV)(L281:SH):Prop:=
 W.build [(.int .i64 0),(.int .i64 0),(.str []),(.str []),.nils,(.int .i64 0),(.int .i64 0),(.str []),.nils,.nils,.nils] [(0,1,x278),(2,1,(.str [114])),(9,1,x280)] fun x282=>
 W.store 11 x0 x282 L281 fun L283=>
 W.load true 11 x0 L283 fun x284=>
 Q x284 L283
def oJ(Q:R)(L274:SH)(t1 t0 x12 x0:AV):Prop:=
 wb .sub 3 x12 (.int .i64 10) fun x277=>
 wb .add 3 x277 (.int .i64 5) fun x278=>
 wb .sub 3 t1 (.int .i64 1) fun x279=>
 wc (.fn 56 []) [t0,(.str [114]),x279] L274 (lJ Q x278 x0)
def lK(Q:R)(t0 x0 x299:AV)(L300:SH):Prop:=
 W.build [(.int .i64 0),(.int .i64 0),(.str []),(.str []),.nils,(.int .i64 0),(.int .i64 0),(.str []),.nils,.nils,.nils] [(0,1,(.int .i64 7)),(9,1,x299)] fun x301=>
 xH [(.int .i64 0),(.int .i64 0),(.str []),(.str []),.nils,(.int .i64 0),(.int .i64 0),(.str []),.nils,.nils,.nils] 11 x301 L300 fun x305 L306=>
 W.nilchk t0 fun x307=>
 W.faddr 4 x307 fun x308=>
 W.store 1 x308 (.bool false) L306 fun L309=>
 dy 11 x305 L309 fun x310=>
 W.store 11 x0 x310 L309 fun L311=>
 W.load true 11 x0 L311 fun x312=>
 Q x312 L311
def lL(Q:R)(t0 x0 x296:AV)(L297:SH):Prop:=
 wb .add 3 (.int .i64 1) x296 fun x298=>
 wc (.fn 19 []) [t0,(.int .i64 0),x298] L297 (lK Q t0 x0)
def oK(Q:R)(L288:SH)(t0 x0:AV):Prop:=
 W.nilchk t0 fun x290=>
 W.faddr 4 x290 fun x291=>
 W.store 1 x291 (.bool true) L288 fun L292=>
 c8 0 t0 L292 fun x295=>
 wc (.fn 18 []) [x295,(.int .i64 2)] L292 (lL Q t0 x0)
def lM(Q:R)(t0 x0 x342:AV)(L343:SH):Prop:=
 W.build [(.int .i64 0),(.int .i64 0),(.str []),(.str []),.nils,(.int .i64 0),(.int .i64 0),(.str []),.nils,.nils,.nils] [(0,1,(.int .i64 8)),(9,1,x342)] fun x344=>
 xH [(.int .i64 0),(.int .i64 0),(.str []),(.str []),.nils,(.int .i64 0),(.int .i64 0),(.str []),.nils,.nils,.nils] 11 x344 L343 fun x348 L349=>
 W.nilchk t0 fun x350=>
 W.faddr 5 x350 fun x351=>
 W.store 1 x351 (.bool false) L349 fun L352=>
 dy 11 x348 L352 fun x353=>
 W.store 11 x0 x353 L352 fun L354=>
 W.load true 11 x0 L354 fun x355=>
 Q x355 L354
def oL(Q:R)(L335:SH)(t0 t1 x0:AV):Prop:=
 W.nilchk t0 fun x338=>
 W.faddr 5 x338 fun x339=>
 W.store 1 x339 (.bool true) L335 fun L340=>
 wb .sub 3 t1 (.int .i64 1) fun x341=>
 wc (.fn 19 []) [t0,x341,(.int .i64 2)] L340 (lM Q t0 x0)
def lN(Q:R)(x394 x0 x397:AV)(L398:SH):Prop:=
 W.bslice 11 [(.int .i64 0),(.int .i64 0),(.str []),(.str []),.nils,(.int .i64 0),(.int .i64 0),(.str []),.nils,.nils,.nils] 2 [(0,x394),(1,x397)] L398 fun x399 L400=>
 W.build [(.int .i64 0),(.int .i64 0),(.str []),(.str []),.nils,(.int .i64 0),(.int .i64 0),(.str []),.nils,.nils,.nils] [(0,1,(.int .i64 4)),(2,1,(.str [109])),(9,1,x399)] fun x401=>
 W.store 11 x0 x401 L400 fun L402=>
 W.load true 11 x0 L402 fun x403=>
 Q x403 L402
def lO(Q:R)(x394 x0 x395:AV)(L396:SH):Prop:=
 wc (.fn 20 []) [(.str [97]),x395] L396 (lN Q x394 x0)
def oM(Q:R)(L391:SH)(x0:AV):Prop:=
 W.build [(.int .i64 0),(.int .i64 0),(.str []),(.str []),.nils,(.int .i64 0),(.int .i64 0),(.str []),.nils,.nils,.nils] [(0,1,(.int .i64 9)),(2,1,(.str [99]))] fun x394=>
 wc (.fn 54 []) [(.str [120])] L391 (lO Q x394 x0)
def lP(Q:R)(x0 x425:AV)(L426:SH):Prop:=
 wb .add 3 (.int .i64 10) x425 fun x427=>
 W.build [(.int .i64 0),(.int .i64 0),(.str []),(.str []),.nils,(.int .i64 0),(.int .i64 0),(.str []),.nils,.nils,.nils] [(0,1,x427),(2,1,(.str [99]))] fun x428=>
 W.bslice 11 [(.int .i64 0),(.int .i64 0),(.str []),(.str []),.nils,(.int .i64 0),(.int .i64 0),(.str []),.nils,.nils,.nils] 1 [(0,x428)] L426 fun x429 L430=>
 W.build [(.int .i64 0),(.int .i64 0),(.str []),(.str []),.nils,(.int .i64 0),(.int .i64 0),(.str []),.nils,.nils,.nils] [(0,1,(.int .i64 4)),(2,1,(.str [109])),(9,1,x429)] fun x431=>
 W.store 11 x0 x431 L430 fun L432=>
 W.load true 11 x0 L432 fun x433=>
 Q x433 L432
def lQ(Q:R)(x0 x498:AV)(L499:SH):Prop:=
 W.build [(.int .i64 0),(.int .i64 0),(.str []),(.str []),.nils,(.int .i64 0),(.int .i64 0),(.str []),.nils,.nils,.nils] [(0,1,(.int .i64 14)),(2,1,(.str [102])),(5,4,x498)] fun x500=>
 W.store 11 x0 x500 L499 fun L501=>
 W.load true 11 x0 L501 fun x502=>
 Q x502 L501
def oN(Q:R)(L492:SH)(t0 x0:AV):Prop:=
 W.nilchk t0 fun x495=>
 W.faddr 3 x495 fun x496=>
 W.store 1 x496 (.bool true) L492 fun L497=>
 wc (.fn 52 []) [t0,(.int .i64 1)] L497 (lQ Q x0)
def oO(Q:R)(L546:SH)(x0:AV):Prop:=
 W.build [(.int .i64 0),(.int .i64 0),(.str []),(.str []),.nils,(.int .i64 0),(.int .i64 0),(.str []),.nils,.nils,.nils] [(0,1,(.int .i64 15)),(2,1,(.str [97])),(3,1,(.str [102]))] fun x549=>
 W.store 11 x0 x549 L546 fun L550=>
 W.load true 11 x0 L550 fun x551=>
 Q x551 L550
def lR(Q:R)(x0 x554:AV)(L555:SH):Prop:=
 W.store 11 x0 x554 L555 fun L556=>
 W.load true 11 x0 L556 fun x557=>
 Q x557 L556
def lS(Q:R)(x0 x552:AV)(L553:SH):Prop:=
 wc (.fn 20 []) [(.str [120]),x552] L553 (lR Q x0)
def lT(Q:R)(L492:SH)(t0 x12 x0:AV):Prop:=
 wb .eql 3 x12 (.int .i64 17) fun x503=>
 cj x503 true t0 L492 fun x504 L506=>
 wg x503 true (W.nilchk x504) L506 fun x507 L509=>
 wg x503 true (W.faddr 4 x507) L509 fun x511 L513=>
 wg x503 true (wl x511 L513) L513 fun x515 L517=>
 wg x503 true (W.un .not x515) L517 fun x519 L521=>
 W.pick x503 x519 (.bool false) fun x523=>
 cj x523 true t0 L521 fun x524 L526=>
 wg x523 true (W.nilchk x524) L526 fun x527 L529=>
 wg x523 true (W.faddr 0 x527) L529 fun x531 L533=>
 wg x523 true (wl x531 L533) L533 fun x535 L537=>
 W.grd x523 true (fun k540=>wc (.fn 18 []) [x535,(.int .i64 2)] L537 fun x542 L543=>
 k540 x542 L543) L537 fun x539 L541=>
 wg x523 true (wb .eql 3 x539 (.int .i64 1)) L541 fun x544 L546=>
 W.pick x523 x544 (.bool false) fun x548=>
 wk x548 (
 (oO Q L546 x0)) (
 wc (.fn 52 []) [t0,(.int .i64 1)] L546 (lS Q x0))
def lU(Q:R)(L419:SH)(t0 x12 x0:AV):Prop:=
 wb .eql 3 x12 (.int .i64 16) fun x434=>
 cj x434 true t0 L419 fun x435 L437=>
 wg x434 true (W.nilchk x435) L437 fun x438 L440=>
 wg x434 true (W.faddr 4 x438) L440 fun x442 L444=>
 wg x434 true (wl x442 L444) L444 fun x446 L448=>
 wg x434 true (W.un .not x446) L448 fun x450 L452=>
 W.pick x434 x450 (.bool false) fun x454=>
 cj x454 true t0 L452 fun x455 L457=>
 wg x454 true (W.nilchk x455) L457 fun x458 L460=>
 wg x454 true (W.faddr 6 x458) L460 fun x462 L464=>
 wg x454 true (wl x462 L464) L464 fun x466 L468=>
 wg x454 true (W.un .not x466) L468 fun x470 L472=>
 W.pick x454 x470 (.bool false) fun x474=>
 cj x474 true t0 L472 fun x475 L477=>
 wg x474 true (W.nilchk x475) L477 fun x478 L480=>
 wg x474 true (W.faddr 3 x478) L480 fun x482 L484=>
 wg x474 true (wl x482 L484) L484 fun x486 L488=>
 wg x474 true (W.un .not x486) L488 fun x490 L492=>
 W.pick x474 x490 (.bool false) fun x494=>
 wk x494 (
 (oN Q L492 t0 x0)) (
 (lT Q L492 t0 x12 x0))
def lV(Q:R)(L391:SH)(t0 x12 x54 x0:AV):Prop:=
 wb .eql 3 x12 (.int .i64 15) fun x404=>
 cj x404 true x54 L391 fun x405 L407=>
 W.pick x404 x405 (.bool false) fun x408=>
 cj x408 true t0 L407 fun x409 L411=>
 W.grd x408 true (fun k413=>wc (.fn 55 []) [x409,(.str [109])] L411 fun x415 L416=>
 k413 x415 L416) L411 fun x412 L414=>
 wg x408 true (W.un .not x412) L414 fun x417 L419=>
 W.pick x408 x417 (.bool false) fun x421=>
 wk x421 (
 c8 0 t0 L419 fun x424=>
 wc (.fn 18 []) [x424,(.int .i64 2)] L419 (lP Q x0)) (
 (lU Q L419 t0 x12 x0))
def lW(Q:R)(L335:SH)(t0 x12 x54 x0:AV):Prop:=
 wb .eql 3 x12 (.int .i64 14) fun x356=>
 cj x356 true x54 L335 fun x357 L359=>
 W.pick x356 x357 (.bool false) fun x360=>
 cj x360 true t0 L359 fun x361 L363=>
 wg x360 true (W.nilchk x361) L363 fun x364 L366=>
 wg x360 true (W.faddr 5 x364) L366 fun x368 L370=>
 wg x360 true (wl x368 L370) L370 fun x372 L374=>
 wg x360 true (W.un .not x372) L374 fun x376 L378=>
 W.pick x360 x376 (.bool false) fun x380=>
 cj x380 true t0 L378 fun x381 L383=>
 W.grd x380 true (fun k385=>wc (.fn 55 []) [x381,(.str [109])] L383 fun x387 L388=>
 k385 x387 L388) L383 fun x384 L386=>
 wg x380 true (W.un .not x384) L386 fun x389 L391=>
 W.pick x380 x389 (.bool false) fun x393=>
 wk x393 (
 (oM Q L391 x0)) (
 (lV Q L391 t0 x12 x54 x0))
def lX(Q:R)(L288:SH)(t0 t1 x12 x54 x0:AV):Prop:=
 wb .eql 3 x12 (.int .i64 13) fun x313=>
 cj x313 true x54 L288 fun x314 L316=>
 W.pick x313 x314 (.bool false) fun x317=>
 cj x317 true t0 L316 fun x318 L320=>
 wg x317 true (W.nilchk x318) L320 fun x321 L323=>
 wg x317 true (W.faddr 5 x321) L323 fun x325 L327=>
 wg x317 true (wl x325 L327) L327 fun x329 L331=>
 wg x317 true (W.un .not x329) L331 fun x333 L335=>
 W.pick x317 x333 (.bool false) fun x337=>
 wk x337 (
 (oL Q L335 t0 t1 x0)) (
 (lW Q L335 t0 x12 x54 x0))
def lY(Q:R)(L274:SH)(t0 t1 x12 x54 x0:AV):Prop:=
 wb .eql 3 x12 (.int .i64 12) fun x285=>
 cj x285 true x54 L274 fun x286 L288=>
 W.pick x285 x286 (.bool false) fun x289=>
 wk x289 (
 (oK Q L288 t0 x0)) (
 (lX Q L288 t0 t1 x12 x54 x0))
def lZ(Q:R)(L237:SH)(t0 t1 x12 x54 x0:AV):Prop:=
 wb .eql 3 x12 (.int .i64 10) fun x251=>
 cj x251 false x12 L237 fun x252 L254=>
 wg x251 false (wb .eql 3 x252 (.int .i64 11)) L254 fun x255 L257=>
 W.pick x251 (.bool true) x255 fun x259=>
 cj x259 true x54 L257 fun x260 L262=>
 W.pick x259 x260 (.bool false) fun x263=>
 cj x263 true t0 L262 fun x264 L266=>
 W.grd x263 true (fun k268=>wc (.fn 55 []) [x264,(.str [114])] L266 fun x270 L271=>
 k268 x270 L271) L266 fun x267 L269=>
 wg x263 true (W.un .not x267) L269 fun x272 L274=>
 W.pick x263 x272 (.bool false) fun x276=>
 wk x276 (
 (oJ Q L274 t1 t0 x12 x0)) (
 (lY Q L274 t0 t1 x12 x54 x0))
def l4(Q:R)(L152:SH)(t0 t1 x12 x54 x0:AV):Prop:=
 wb .eql 3 x12 (.int .i64 8) fun x194=>
 cj x194 false x12 L152 fun x195 L197=>
 wg x194 false (wb .eql 3 x195 (.int .i64 9)) L197 fun x198 L200=>
 W.pick x194 (.bool true) x198 fun x202=>
 cj x202 true x54 L200 fun x203 L205=>
 W.pick x202 x203 (.bool false) fun x206=>
 cj x206 true t0 L205 fun x207 L209=>
 W.grd x206 true (fun k211=>W.bslice 1 [(.str [])] 2 [(0,(.str [109])),(1,(.str [110]))] L209 fun x213 L214=>
 k211 x213 L214) L209 fun x210 L212=>
 cj x206 true x12 L212 fun x215 L217=>
 wg x206 true (wb .sub 3 x215 (.int .i64 8)) L217 fun x218 L220=>
 wg x206 true (W.idx 1 x210 x218 L220) L220 fun x222 L224=>
 wg x206 true (wl x222 L224) L224 fun x226 L228=>
 W.grd x206 true (fun k231=>wc (.fn 55 []) [x207,x226] L228 fun x233 L234=>
 k231 x233 L234) L228 fun x230 L232=>
 wg x206 true (W.un .not x230) L232 fun x235 L237=>
 W.pick x206 x235 (.bool false) fun x239=>
 wk x239 (
 (oI Q L237 t1 t0 x12 x0)) (
 (lZ Q L237 t0 t1 x12 x54 x0))
def l5(Q:R)(L117:SH)(t1 t0 x12 x0 x54:AV):Prop:=
 wb .eql 3 x12 (.int .i64 7) fun x146=>
 cj x146 true t1 L117 fun x147 L149=>
 wg x146 true (wb .gtr 3 x147 (.int .i64 0)) L149 fun x150 L152=>
 W.pick x146 x150 (.bool false) fun x154=>
 wk x154 (
 (oH Q L152 t0 t1 x0)) (
 (l4 Q L152 t0 t1 x12 x54 x0))
def l6(Q:R)(L52:SH)(t1 t0 x12 x0 x54:AV):Prop:=
 wb .eql 3 x12 (.int .i64 6) fun x111=>
 cj x111 true t1 L52 fun x112 L114=>
 wg x111 true (wb .gtr 3 x112 (.int .i64 0)) L114 fun x115 L117=>
 W.pick x111 x115 (.bool false) fun x119=>
 wk x119 (
 wc (.fn 52 []) [t0,(.int .i64 1)] L117 (ly Q t1 t0 x0)) (
 (l5 Q L117 t1 t0 x12 x0 x54))
def fO(Q:R)(L52:SH)(t0 t1 x12 x0 x54:AV):Prop:=
 wb .eql 3 x12 (.int .i64 5) fun x101=>
 wk x101 (
 wc (.fn 52 []) [t0,(.int .i64 0)] L52 (oD Q t0 x0)) (
 (l6 Q L52 t1 t0 x12 x0 x54))
def l7(Q:R)(t1 t0 x0 x12:AV)(L13:SH):Prop:=
 wb .gtr 3 t1 (.int .i64 0) fun x14=>
 cj x14 true t0 L13 fun x15 L17=>
 wg x14 true (W.nilchk x15) L17 fun x18 L20=>
 wg x14 true (W.faddr 2 x18) L20 fun x22 L24=>
 wg x14 true (wl x22 L24) L24 fun x26 L28=>
 wg x14 true (wb .gtr 3 x26 (.int .i64 0)) L28 fun x30 L32=>
 W.pick x14 x30 (.bool false) fun x34=>
 cj x34 true t0 L32 fun x35 L37=>
 wg x34 true (W.nilchk x35) L37 fun x38 L40=>
 wg x34 true (W.faddr 4 x38) L40 fun x42 L44=>
 wg x34 true (wl x42 L44) L44 fun x46 L48=>
 wg x34 true (W.un .not x46) L48 fun x50 L52=>
 W.pick x34 x50 (.bool false) fun x54=>
 wb .lss 3 x12 (.int .i64 4) fun x55=>
 wk x55 (
 (gB Q L52 t0 x12 x0)) (
 wb .eql 3 x12 (.int .i64 4) fun x74=>
 wk x74 (
 (gC Q L52 t0 x0)) (
 (fO Q L52 t0 t1 x12 x0 x54)))
def eU(t0 t1:AV)(L:SH)(Q:R):Prop:=
 W.alloc [(.int .i64 0),(.int .i64 0),(.str []),(.str []),.nils,(.int .i64 0),(.int .i64 0),(.str []),.nils,.nils,.nils] L fun x0 L1=>
 c8 2 t0 L1 fun x4=>
 wb .sub 3 x4 (.int .i64 1) fun x5=>
 W.nilchk t0 fun x6=>
 W.faddr 2 x6 fun x7=>
 W.store 1 x7 x5 L1 fun L8=>
 c8 0 t0 L8 fun x11=>
 wc (.fn 18 []) [x11,(.int .i64 18)] L8 (l7 Q t1 t0 x0)
theorem gD(t0 t1:AV)(L:SH)(Q:R)(h:eU t0 t1 L Q):am Try.prog 36 [t0,t1] L Q:=
 bC ⟨fun _=>none,fun _=>[],fun k=>if k=18 then [9]else if k=28 then [11]else if k=33 then [12]else [],fun k=>if k=5 then [0,0,3,7,0,16,63,127]else if k=7 then [0,0,2,6,14,30,63,127,0,318,1023,2047]else []⟩ Try.func36 (by kernel_rfl) (by kernel_rfl) h
def tQ(n23:Kn)(v75:Vs)(L77:SH):Prop:=
 GC 2 3 4 5 6 7 8 v75 fun x78 x79 x80 x81 x82 x83 x84=>
 bo 1 x80 L77 fun x86=>
 dy 4 x84 L77 fun x87=>
 W.bslice 4 [(.str []),(.int .i64 0),.nils,.nils] 1 [(0,x87)] L77 fun x88 L89=>
 W.append 4 72 x86 x88 L89 fun x90 L91=>
 W.faddr 1 x80 fun x92=>
 W.store 1 x92 x90 L91 fun L93=>
 wb .add 3 x83 (.int .i64 1) fun x94=>
 n23 [x78,x79,x80,x81,x82,x94] L93
def tR(j76:Kn)(L118:SH)(x52 x50 x46 x47 x48 x49 x51:AV):Prop:=
 (true=true)∧(
 bx 3 x52 [] 1 L118 fun x122 r123=>
 di [rm 1 r123] 3 1 x50 (.int .i64 1) L118 fun x124 r125=>
 dl [rm 1 r123] 4 x124 L118 fun x126 r127=>
 W.build [(.int .i64 0),(.int .i64 0),(.str []),(.str []),.nils,(.int .i64 0),(.int .i64 0),(.str []),.nils,.nils,.nils] [(0,1,(.int .i64 13)),(2,1,x126)] fun x128=>
 W.calm [rm 1 r123] ⟨6,[],[],[],false,[]⟩ (
 W.bslice 11 [(.int .i64 0),(.int .i64 0),(.str []),(.str []),.nils,(.int .i64 0),(.int .i64 0),(.str []),.nils,.nils,.nils] 1 [(0,x128)] L118 fun x129 L130=>
 wn [] [] (af x129) [] fun r131=>
 W.calm [] ⟨7,(af x122++af x129),(af x122),[],false,[]⟩ (
 W.append 11 176 x122 x129 L130 fun x132 L133=>
 wn (af x122++af x129) (af x122) (af x132) [] fun r134=>
 W.faddr 3 x52 fun x135=>
 ds [] 9 1 x135 x132 L133 fun L136 r137=>
 j76 [x46,x47,x48,x49,x50,x51,x52] L136)))
def tS(n23:Kn)(L62:SH)(x54 x52 x51 x47 x50 x46 x48 x49 x65:AV)(L67:SH)(q66:Ns):Prop:=
 wn [] q66 [] L62.names fun r68=>
 W.calm [] ⟨10,(af x54++af x65),(af x54),[],false,[]⟩ (
 W.append 11 176 x54 x65 L67 fun x69 L70=>
 wn (af x54++af x65) (af x54) (af x69) [] fun r71=>
 W.faddr 3 x52 fun x72=>
 ds [] 12 1 x72 x69 L70 fun L73 r74=>
 W.join (tQ n23) fun j76=>
 wb .eql 3 x51 (.int .i64 0) fun x95=>
 cj x95 true x47 L73 fun x96 L98=>
 wg x95 true (W.nilchk x96) L98 fun x99 L101=>
 wg x95 true (W.faddr 0 x99) L101 fun x103 L105=>
 wg x95 true (wl x103 L105) L105 fun x107 L109=>
 W.grd x95 true (fun k112=>wc (.fn 18 []) [x107,(.int .i64 3)] L109 fun x114 L115=>
 k112 x114 L115) L109 fun x111 L113=>
 wg x95 true (wb .eql 3 x111 (.int .i64 2)) L113 fun x116 L118=>
 W.pick x95 x116 (.bool false) fun x120=>
 wk x120 (
 (tR j76 L118 x52 x50 x46 x47 x48 x49 x51)) (
 j76 [x46,x47,x48,x49,x50,x51,x52] L118))
def tT(n23:Kn)(L45:SH)(x47 x54 x52 x51 x50 x46 x48 x49:AV)(r55:Fp)(x60:AV)(L62:SH)(q61:Ns):Prop:=
 wn [] q61 [] L45.names fun r63=>
 wb .add 3 (.int .i64 1) x60 fun x64=>
 wd [rm 1 r55] 9 (.fn 19 []) [x47,(.int .i64 2),x64] L62 (tS n23 L62 x54 x52 x51 x47 x50 x46 x48 x49)
def bJ(n23:Kn)(v43:Vs)(L45:SH):Prop:=
 GC 2 3 4 5 6 7 8 v43 fun x46 x47 x48 x49 x50 x51 x52=>
 (true=true)∧(
 bx 3 x52 [] 1 L45 fun x54 r55=>
 W.nilchk x47 fun x56=>
 bx 0 x56 [rm 1 r55] 6 L45 fun x58 r59=>
 wd [rm 1 r55] 7 (.fn 18 []) [x58,(.int .i64 3)] L45 (tT n23 L45 x47 x54 x52 x51 x50 x46 x48 x49 r55))
def tU(n140:Kn)(L141:SH)(x148 x146 x149 x142 x143 x144 x145 x147:AV):Prop:=
 (true=true)∧(
 bx 3 x148 [] 1 L141 fun x152 r153=>
 di [rm 1 r153] 4 1 x146 x149 L141 fun x154 r155=>
 dl [rm 1 r153] 5 x154 L141 fun x156 r157=>
 W.build [(.int .i64 0),(.int .i64 0),(.str []),(.str []),.nils,(.int .i64 0),(.int .i64 0),(.str []),.nils,.nils,.nils] [(0,1,(.int .i64 12)),(2,1,x156)] fun x158=>
 W.calm [rm 1 r153] ⟨7,[],[],[],false,[]⟩ (
 W.bslice 11 [(.int .i64 0),(.int .i64 0),(.str []),(.str []),.nils,(.int .i64 0),(.int .i64 0),(.str []),.nils,.nils,.nils] 1 [(0,x158)] L141 fun x159 L160=>
 wn [] [] (af x159) [] fun r161=>
 W.calm [] ⟨8,(af x152++af x159),(af x152),[],false,[]⟩ (
 W.append 11 176 x152 x159 L160 fun x162 L163=>
 wn (af x152++af x159) (af x152) (af x162) [] fun r164=>
 W.faddr 3 x148 fun x165=>
 ds [] 10 1 x165 x162 L163 fun L166 r167=>
 wb .add 3 x149 (.int .i64 1) fun x168=>
 n140 [x142,x143,x144,x145,x146,x147,x148,x168] L166)))
def fE(j44:Kn)(v139:Vs)(L141:SH)(n140:Kn):Prop:=
 IZ 2 3 4 5 6 7 8 9 v139 fun x142 x143 x144 x145 x146 x147 x148 x149=>
 wb .lss 3 x149 x145 fun x150=>
 wk x150 (
 (tU n140 L141 x148 x146 x149 x142 x143 x144 x145 x147)) (
 j44 [x142,x143,x144,x145,x146,x147,x148] L141)
def tV(n23:Kn)(L24:SH)(x26 x30 x29 x25 x27 x28:AV):Prop:=
 W.nilchk x26 fun x32=>
 W.faddr 1 x32 fun x33=>
 W.store 1 x33 x30 L24 fun L34=>
 Ba 1 x29 x30 L34 fun x36=>
 W.bslice 1 [(.str [])] 2 [(0,(.str [97])),(1,(.str [98]))] L34 fun x37 L38=>
 W.build [(.str []),(.int .i64 0),.nils,.nils] [(0,1,x36),(2,1,x37)] fun x39=>
 W.alloc [(.str []),(.int .i64 0),.nils,.nils] L38 fun x40 L41=>
 W.store 4 x40 x39 L41 fun L42=>
 W.join (bJ n23) fun j44=>
 wb .eql 3 x30 (.int .i64 0) fun x138=>
 wk x138 (
 W.loop (fE j44) [x25,x26,x27,x28,x29,x30,x40,(.int .i64 1)] L42) (
 j44 [x25,x26,x27,x28,x29,x30,x40] L42)
def tW(Q:R)(x177 x175 x25 x181:AV)(L182:SH):Prop:=
 W.bslice 11 [(.int .i64 0),(.int .i64 0),(.str []),(.str []),.nils,(.int .i64 0),(.int .i64 0),(.str []),.nils,.nils,.nils] 1 [(0,x181)] L182 fun x183 L184=>
 W.build [(.str []),(.int .i64 0),.nils,.nils] [(0,1,(.str [109,97,105,110])),(2,1,x177),(3,1,x183)] fun x185=>
 W.bslice 4 [(.str []),(.int .i64 0),.nils,.nils] 1 [(0,x185)] L184 fun x186 L187=>
 W.build [.nils,.nils] [(0,1,x175),(1,1,x186)] fun x188=>
 W.store 2 x25 x188 L187 fun L189=>
 W.load true 2 x25 L189 fun x190=>
 Q x190 L189
def tX(Q:R)(x177 x175 x25 x179:AV)(L180:SH):Prop:=
 wc (.fn 20 []) [(.str [120]),x179] L180 (tW Q x177 x175 x25)
def tY(Q:R)(x25 x175:AV)(L176:SH):Prop:=
 W.bslice 1 [(.str [])] 2 [(0,(.str [97])),(1,(.str [98]))] L176 fun x177 L178=>
 wc (.fn 21 []) [(.int .i64 1)] L178 (tX Q x177 x175 x25)
def tZ(Q:R)(x25 x27 x170:AV)(L171:SH):Prop:=
 W.ext 0 x170 fun x172=>
 W.ext 1 x170 fun x173=>
 wb .neq 47 x172 (.int .i64 0) fun x174=>
 wk x174 (
 wc (.fn 17 []) [] L171 (tY Q x25)) (
 dy 2 x27 L171 fun x191=>
 W.store 2 x25 x191 L171 fun L192=>
 W.load true 2 x25 L192 fun x193=>
 Q x193 L192)
def dW(Q:R)(v22:Vs)(L24:SH)(n23:Kn):Prop:=
 GA 2 3 4 5 6 7 v22 fun x25 x26 x27 x28 x29 x30=>
 wb .lss 3 x30 x28 fun x31=>
 wk x31 (
 (tV n23 L24 x26 x30 x29 x25 x27 x28)) (
 dy 2 x27 L24 fun x169=>
 wc (.fn 12 []) [x169] L24 (tZ Q x25 x27))
def sG(Q:R)(x0 x6 x11 x17:AV)(L18:SH):Prop:=
 wb .add 3 (.int .i64 2) x17 fun x19=>
 W.bslice 1 [(.str [])] 4 [(0,(.str [109,97,105,110])),(1,(.str [116,49])),(2,(.str [116,50])),(3,(.str [116,51]))] L18 fun x20 L21=>
 W.loop (dW Q) [x0,x6,x11,x19,x20,(.int .i64 0)] L21
def sH(Q:R)(x6 x0 x8:AV)(L9:SH):Prop:=
 W.build [.nils,.nils] [(0,1,x8)] fun x10=>
 W.alloc [.nils,.nils] L9 fun x11 L12=>
 W.store 2 x11 x10 L12 fun L13=>
 c8 0 x6 L13 fun x16=>
 wc (.fn 18 []) [x16,(.int .i64 3)] L13 (sG Q x0 x6 x11)
def kK(t0:AV)(L:SH)(Q:R):Prop:=
 W.alloc [.nils,.nils] L fun x0 L1=>
 W.build [.nils,(.int .i64 0)] [(0,1,t0)] fun x2=>
 W.box x2 L1 fun x3 L4=>
 W.build [.nilp,(.int .i64 0),(.int .i64 0),(.bool false),(.bool false),(.bool false),(.bool false),.nils] [(0,1,x3),(2,1,(.int .i64 20))] fun x5=>
 W.box x5 L4 fun x6 L7=>
 wc (.fn 17 []) [] L7 (sH Q x6 x0)
theorem t6(t0:AV)(L:SH)(Q:R)(h:kK t0 L Q):am Try.prog 9 [t0] L Q:=
 bC ⟨fun k=>if k=13 then some [2,3,4,5,6,7,8]else if k=17 then some [2,3,4,5,6,7,8]else none,fun k=>if k=12 then [2,3,4,5,6,7,8,9]else if k=6 then [2,3,4,5,6,7]else [],fun _=>[],fun k=>if k=14 then [0,1,0,0,12,28,60,124,255,511,1023]else if k=15 then [0,1,0,0,8,24,56,120,248,508,1023,2047,4095]else if k=17 then [0,1,0,4,12,28,60,127,255,511]else []⟩ Try.func9 (by kernel_rfl) (by kernel_rfl) h
def xW(Q:R)(x0 x4:AV)(L5:SH):Prop:=
 W.ext 0 x4 fun x6=>
 W.ext 1 x4 fun x7=>
 W.ext 2 x4 fun x8=>
 xH [.nils,.nils,.nils,.nils,.nils,.nils,.nils] 7 x6 L5 fun x12 L13=>
 dy 7 x12 L13 fun x14=>
 W.store 7 x0 x14 L13 fun L15=>
 W.load true 7 x0 L15 fun x16=>
 Q x16 L15
def tf(t0:AV)(L:SH)(Q:R):Prop:=
 W.alloc [.nils,.nils,.nils,.nils,.nils,.nils,.nils] L fun x0 L1=>
 wc (.fn 9 []) [t0] L1 fun x2 L3=>
 wc (.fn 8 []) [x2] L3 (xW Q x0)
theorem xX(t0:AV)(L:SH)(Q:R)(h:tf t0 L Q):am Try.prog 4 [t0] L Q:=
 bC ⟨fun _=>none,fun _=>[],fun k=>if k=1 then [3]else [],fun _=>[]⟩ Try.func4 (by kernel_rfl) (by kernel_rfl) h
end Go.Proofs.Ytljkdffikfkcgaa.Am
end
section
namespace Go.Proofs.Ytljkdffikfkcgaa.Am
set_option maxRecDepth 100000
set_option linter.unusedVariables false
def mM(b:UInt8):List AV:=[.int .u8 (b.toNat:Int)]
def aM(l:List UInt8)(at_:Nat):Blk:=⟨2,[[.lst (l.map mM),.int .i64 (at_:Int)]]⟩
theorem Bn(bt:Nat)(l:List UInt8)(a:Nat)(n:Int)(hl:l.length<2^40)(ha:a≤l.length):
  am Try.prog 18 [.ptr bt 0 0,.int .i64 n] [(bt,aM l a)] fun u K=>∃r a':Nat,u=.int .i64 (r:Int)∧((r:Int)<n∨r=0)∧K=[(bt,aM l a')]∧a'≤l.length:=by
 unfold aM
 refine q8 _ _ _ _ ?_
 unfold iX
 generalize hQ:(fun(u:AV) (K:SH)=>∃r a':Nat,u=AV.int .i64 (r:Int)∧((r:Int)<n∨r=0)∧K=[(bt,(⟨2,[[.lst (l.map mM),.int .i64 (a':Int)]]⟩:Blk))]∧a'≤l.length)=Q
 have hq:∀(r a':Nat),((r:Int)<n∨r=0)→a'≤l.length→Q (.int .i64 (r:Int)) [(bt,⟨2,[[.lst (l.map mM),.int .i64 (a':Int)]]⟩)]:=fun r a' h1 h2=>by subst hQ;exact⟨r,a',rfl,h1,rfl,h2⟩
 clear hQ
 rcases Nat.lt_or_ge a l.length with g | g
 ·have d1:decide ((l.length:Int)≤(a:Int))=false:=by simp;omega
  have hx:=aC (f:=mM) g
  have e1:=bH g (by omega)
  have e2:IntKind.i64.wrap (((a+1:Nat):Int)-1)=(a:Int):=by rw[IntWalk.i64_in _ (by omega)];omega
  by_cases hn:n<1
  ·have d2:decide (n<1)=true:=by simpa using hn
   repeat' (first | refine st ?_ | refine sb (fun nb_ hnb_=>?_) | refine s2 (fun h=>?_) (fun h=>?_) | fail)
   exact hq 0 a (.inr rfl) ha
  ·have d2:decide (n<1)=false:=by simpa using hn
   have hn0:n≠0:=by omega
   repeat' (first | refine st ?_ | refine sb (fun nb_ hnb_=>?_) | refine s2 (fun h=>?_) (fun h=>?_) | fail)
   have hb:(l[a].toNat:Int)<256:=by have:=l[a].toNat_lt;omega
   have e3:IntKind.i64.wrap (l[a].toNat:Int)=(l[a].toNat:Int):=by rw[IntWalk.i64_in _ (by omega)]
   rw[e3]
   have h5:(l[a].toNat:Int).tmod n=(((l[a].toNat:Int).tmod n).toNat:Nat):=by
    have:=Int.tmod_nonneg n (Int.natCast_nonneg l[a].toNat);omega
   rw[h5]
   exact hq _ (a+1) (.inl (by rw[←h5];exact Int.tmod_lt_of_pos _ (by omega))) (by omega)
 ·have d1:decide ((l.length:Int)≤(a:Int))=true:=by simp;omega
  repeat' (first | refine st ?_ | refine sb (fun nb_ hnb_=>?_) | refine s2 (fun h=>?_) (fun h=>?_) | fail)
  exact hq 0 a (.inr rfl) ha
def cS(n:Int):ac:=.mk 1 n [] []
def bP(s:aL):ac:=.mk 2 0 s []
theorem kL(n:Int):aO Try.prog 21 [.int .i64 n] (.agg (cS n).row):=by
 refine am.fz (zz _ _ _ ?_)
 unfold vH
 repeat' (first | refine st ?_ | refine sb (fun nb_ hnb_=>?_) | refine s2 (fun h=>?_) (fun h=>?_) | fail)
 exact⟨_,[],aV.all (Fz.aggs (.cons (.refl _) (.cons (.refl _) (.cons (.refl _) (.cons .nils .nil))))),rfl,rfl⟩
theorem ie(s:aL):aO Try.prog 54 [.str s] (.agg (bP s).row):=by
 refine am.fz (xV _ _ _ ?_)
 unfold td
 repeat' (first | refine st ?_ | refine sb (fun nb_ hnb_=>?_) | refine s2 (fun h=>?_) (fun h=>?_) | fail)
 exact⟨_,[],aV.all (Fz.aggs (.cons (.refl _) (.cons (.refl _) (.cons (.refl _) (.cons .nils .nil))))),rfl,rfl⟩
def dS(op:Int)(a b:ac):ac:=.mk op 0 [] [a,b]
theorem jx(op:Int)(a b:ac):aO Try.prog 53 [.int .i64 op,.agg a.row,.agg b.row] (.agg (dS op a b).row):=by
 refine am.fz (vI _ _ _ _ _ ?_)
 unfold mK
 repeat' (first | refine st ?_ | refine sb (fun nb_ hnb_=>?_) | refine s2 (fun h=>?_) (fun h=>?_) | fail)
 exact⟨_,[],aV.all (Fz.aggs (.cons (.refl _) (.cons (.refl _) (.cons (.refl _) (.cons (Fz.sls (l:=[a,b]) (f:=ac.enc) (size:=4) (rows:=[a.row,b.row]) (.head _) (by simp[ac.enc_row]) (by decide) rfl) .nil))))),rfl,rfl⟩
def aW:ac:=.mk 0 0 [] []
def aE(s:aL)(e:ac):aa:=.mk 1 0 s [] [] e [] []
theorem aN(s:aL)(e:ac):aO Try.prog 20 [.str s,.agg e.row] (.agg (aE s e).row):=by
 refine am.fz (vJ _ _ _ _ ?_)
 unfold mL
 repeat' (first | refine st ?_ | refine sb (fun nb_ hnb_=>?_) | refine s2 (fun h=>?_) (fun h=>?_) | fail)
 exact⟨_,[],aV.all (Fz.aggs (.cons (.refl _) (.cons (.refl _) (.cons (.refl _) (.cons (.refl _) (.cons .nils (.cons (.refl _) (.cons (.refl _) (.cons (.refl _) (.cons (.refl _) (.cons .nils (.cons .nils .nil)))))))))))),rfl,rfl⟩
def aP:List av:=[⟨1,0,[120],0,0,[]⟩,⟨1,0,[121],0,1,[]⟩,⟨2,0,[118],0,0,[]⟩,⟨1,0,[113],2,0,[]⟩,⟨3,0,[109],0,0,[]⟩,⟨3,0,[110],0,0,[]⟩,⟨4,0,[114],0,0,[]⟩,⟨5,0,[99],0,0,[109]⟩,⟨6,0,[102],0,0,[]⟩]
theorem fV:aO Try.prog 17 [] (.lst (aP.map av.enc)):=by
 refine am.fz (wQ _ _ ?_)
 unfold q9
 repeat' (first | refine st ?_ | refine sb (fun nb_ hnb_=>?_) | refine s2 (fun h=>?_) (fun h=>?_) | fail)
 exact⟨_,[],aV.all (Fz.sls (l:=aP) (f:=av.enc) (size:=6) (.head _) rfl (by decide) rfl),rfl,rfl⟩
structure Jp where
 a:Nat
 thread:Int
 left:Int
 set:Bool
 tx:Bool
 atomic:Bool
 loop:Bool
 o:Option Nat
 ar:List aL
 k:Nat
def Jp.row(bt:Nat)(s:Jp):List AV:=[.ptr bt 0 0,.int .i64 s.thread,.int .i64 s.left,.bool s.set,.bool s.tx,.bool s.atomic,.bool s.loop,au s.o s.k]
theorem dv{l:List aL}{b r:Nat}{rows:List (List AV)}{L:SH}{K:AV→Prop}(h:K (.str (l.getD r [])))(hm:(b,(⟨1,rows⟩:Blk))∈L)(hr:rows=l.map az)(hl:r<l.length):W.load false 1 (.ptr b r 0) L K:=by
 subst hr
 refine uR hm (aC hl) (by rfl) ?_
 simpa[List.getD,hl]using h
theorem DB{l:List Int}{b r:Nat}{rows:List (List AV)}{L:SH}{K:AV→Prop}(h:K (.int .i64 (l.getD r 0)))(hm:(b,(⟨1,rows⟩:Blk))∈L)(hr:rows=l.map aJ)(hl:r<l.length):W.load false 1 (.ptr b r 0) L K:=by
 subst hr
 refine uR hm (aC hl) (by rfl) ?_
 simpa[List.getD,hl]using h
theorem eg{bt:Nat}{t:List UInt8}{a:Nat}{n:Int}{L L':SH}{KL:R}(ht:t.length<2^40)(ha:a≤t.length)(hd:dG bt (aM t a) L L')(hq:∀r a':Nat,((r:Int)<n∨r=0)→a'≤t.length→KL (.int .i64 (r:Int)) ((bt,aM t a')::L')):W.callM Try.prog 18 [.ptr bt 0 0,.int .i64 n] L KL:=
 kS (Bn bt t a n ht ha) hd (by rintro _ _ ⟨r,a',rfl,h1,rfl,h2⟩;exact hq r a' h1 h2)
theorem uk{bt:Nat}{t:List UInt8}{a i:Nat}{n:Int}{us:List W.WR}{L L':SH}{KN:AV→SH→List Nat→Prop}(ht:t.length<2^40)(ha:a≤t.length)(hd:dG bt (aM t a) L L')(hq:∀r a':Nat,((r:Int)<n∨r=0)→a'≤t.length→KN (.int .i64 (r:Int)) ((bt,aM t a')::L') [bt])(hf:∀y∈us,W.free y ⟨i,[],[bt],[],true,[]⟩:=by(simp only[rm,rc,rz,W.free,ay,↓reduceIte,Nat.reduceEqDiff,af,dw,List.forall_mem_nil,List.forall_mem_cons,List.not_mem_nil,not_false_eq_true,implies_true,and_true,true_and,and_self,Bool.false_eq_true,reduceCtorEq,forall_const,false_implies,List.mem_singleton,forall_eq,List.append_nil,List.nil_append,List.mem_cons,or_false,false_or,forall_eq_or_imp,not_or])<;>(repeat' constructor)<;>first | assumption | (exact Ne.symm (by assumption)) | (intro e_;subst e_;simp[SH.names]at *;done)):W.dcallM Try.prog us i 18 [.ptr bt 0 0,.int .i64 n] L KN:=
 CS (Bn bt t a n ht ha) hd hf (by rintro _ _ ⟨r,a',rfl,h1,rfl,h2⟩;exact hq r a' h1 h2)
def iY(bt:Nat)(v1 v2 v3 v4 v5 v6 v7:AV):Blk:=⟨8,[[.ptr bt 0 0,v1,v2,v3,v4,v5,v6,v7]]⟩
def zA(d:Nat):Prop:=∀(bm bt:Nat) (t:List UInt8) (a:Nat) (v1 v2 v3 v4 v5 v6 v7:AV),t.length<2^40→a≤t.length→
  am Try.prog 52 [.ptr bm 0 0,.int .i64 (d:Int)] [(bm,iY bt v1 v2 v3 v4 v5 v6 v7),(bt,aM t a)] fun u K=>∃(x:ac) (a':Nat),u=.agg x.row∧x.wt≤4^(d+1)∧a'≤t.length∧K=[(bm,iY bt v1 v2 v3 v4 v5 v6 v7),(bt,aM t a')]
section
variable {bm bt:Nat} {t:List UInt8} {a d:Nat} {dd:Int} {v1 v2 v3 v4 v5 v6 v7:AV} {L L1 L2:SH}
theorem bW{KL:R}(hE:zA d)(hdd:dd=(d:Int))(ht:t.length<2^40)(ha:a≤t.length)(h1:dG bm (iY bt v1 v2 v3 v4 v5 v6 v7) L L1)(h2:dG bt (aM t a) L1 L2)(hq:∀(x:ac) (a':Nat),x.wt≤4^(d+1)→a'≤t.length→KL (.agg x.row) ((bm,iY bt v1 v2 v3 v4 v5 v6 v7)::(bt,aM t a')::L2)):
  W.callM Try.prog 52 [.ptr bm 0 0,.int .i64 dd] L KL:=by
 subst hdd
 exact CR (hE bm bt t a v1 v2 v3 v4 v5 v6 v7 ht ha) h1 h2 (by rintro _ _ ⟨x,a',rfl,h1,h2,rfl⟩;exact hq x a' h1 h2)
theorem xY{us:List W.WR}{i:Nat}{KN:AV→SH→List Nat→Prop}(hE:zA d)(hdd:dd=(d:Int))(ht:t.length<2^40)(ha:a≤t.length)(h1:dG bm (iY bt v1 v2 v3 v4 v5 v6 v7) L L1)(h2:dG bt (aM t a) L1 L2)(hq:∀(x:ac) (a':Nat),x.wt≤4^(d+1)→a'≤t.length→KN (.agg x.row) ((bm,iY bt v1 v2 v3 v4 v5 v6 v7)::(bt,aM t a')::L2) [bm,bt])
  (hf:∀y∈us,W.free y ⟨i,[],[bm,bt],[],true,[]⟩:=by(simp only[rm,rc,rz,W.free,ay,↓reduceIte,Nat.reduceEqDiff,af,dw,List.forall_mem_nil,List.forall_mem_cons,List.not_mem_nil,not_false_eq_true,implies_true,and_true,true_and,and_self,Bool.false_eq_true,reduceCtorEq,forall_const,false_implies,List.mem_singleton,forall_eq,List.append_nil,List.nil_append,List.mem_cons,or_false,false_or,forall_eq_or_imp,not_or])<;>(repeat' constructor)<;>first | assumption | (exact Ne.symm (by assumption)) | (intro e_;subst e_;simp[SH.names]at *;done)):W.dcallM Try.prog us i 52 [.ptr bm 0 0,.int .i64 dd] L KN:=by
 subst hdd
 exact BJ (hE bm bt t a v1 v2 v3 v4 v5 v6 v7 ht ha) h1 h2 hf (by rintro _ _ ⟨x,a',rfl,h1,h2,rfl⟩;exact hq x a' h1 h2)
end
theorem DC(r:Nat):(([[97],[98],[120],[121],[118],[120],[121]]:List aL).getD r []).length≤1:=by
 rcases Nat.lt_or_ge r 7 with h | h
 ·match r,h with
  | 0,_ | 1,_ | 2,_ | 3,_ | 4,_ | 5,_ | 6,_=>exact Nat.le_refl _
 ·rw[List.getD,List.getElem?_eq_none (by simpa using h)];exact Nat.zero_le _
theorem Bo:zA 0:=by
  intro bm bt t a v1 v2 v3 v4 v5 v6 v7 ht ha
  refine am.fz (gy _ _ _ _ ?_)
  unfold eT
  generalize hQ:(fun(v:AV) (L:SH)=>∃v2_1 L2,aV [v] L [v2_1] L2∧∃(x:ac) (a':Nat),v2_1=AV.agg x.row∧x.wt≤4^(0+1)∧a'≤t.length∧L2=[(bm,iY bt v1 v2 v3 v4 v5 v6 v7),(bt,aM t a')])=Q
  have hq:∀(v:AV) (x:ac) (a':Nat) (L L1 L2:SH),dG bm (iY bt v1 v2 v3 v4 v5 v6 v7) L L1→dG bt (aM t a') L1 L2→Fz L2 v (.agg x.row)→x.wt≤4→a'≤t.length→Q v L:=fun v x a' L L1 L2 h1 h2 h3 h4 h5=>by
   subst hQ;exact⟨_,_,aV.keep2 h1 h2 h3,x,a',rfl,h4,h5,rfl⟩
  clear hQ
  unfold iY
  repeat' (first | refine st ?_ | ((with_reducible refine aq 18 ?_);(refine eg ht (by assumption) rp (fun r_ a_ hr_ ha_=>?_))) | ((with_reducible refine aq 21 ?_);refine aj (kL _) ?_) | ((with_reducible refine al 21 ?_);refine ab (kL _) ?_) | ((with_reducible refine aq 54 ?_);refine aj (ie _) ?_) | ((with_reducible refine al 54 ?_);refine ab (ie _) ?_) | refine dv (l:=[[97],[98],[120],[121],[118],[120],[121]]) ?_ mm rfl (by simp;omega) | refine cR ?_ (by omega) | refine sb (fun nb_ hnb_=>?_) | refine s2 (fun h=>?_) (fun h=>?_) | fail)
  all_goals first
   | exact hq _ (cS _) _ _ _ _ rp rp (.refl _) (by simp[cS,ac.wt,ac.wts]) (by assumption)
   | exact hq _ (bP _) _ _ _ _ rp rp (.refl _) (by have:=DC r_;simp only[bP,ac.wt,ac.wts];omega) (by assumption)
   | (exfalso;simp at *;omega)
theorem bI:∀d:Nat,d<1000→zA d:=by
 intro d
 induction d with
 | zero=>exact fun _=>Bo
 | succ d ih=>
  intro hd1000 bm bt t a v1 v2 v3 v4 v5 v6 v7 ht ha
  have ih:=ih (by omega)
  have hE0:zA 0:=Bo
  have d0:decide (((d+1:Nat):Int)=0)=false:=by simp;omega
  have e1:IntKind.i64.wrap (((d+1:Nat):Int)-1)=(d:Int):=by rw[IntWalk.i64_in _ (by omega)];omega
  have hp:1≤4^d:=Nat.one_le_pow _ _ (by decide)
  have hp1:4^(d+1)=4*4^d:=by rw[Nat.pow_succ,Nat.mul_comm]
  have hp2:4^(d+1+1)=16*4^d:=by rw[Nat.pow_succ,Nat.pow_succ];omega
  refine am.fz (gy _ _ _ _ ?_)
  unfold eT
  generalize hQ:(fun(v:AV) (L:SH)=>∃v2_1 L2,aV [v] L [v2_1] L2∧∃(x:ac) (a':Nat),v2_1=AV.agg x.row∧x.wt≤4^(d+1+1)∧a'≤t.length∧L2=[(bm,iY bt v1 v2 v3 v4 v5 v6 v7),(bt,aM t a')])=Q
  have hq:∀(v:AV) (x:ac) (a':Nat) (L L1 L2:SH),dG bm (iY bt v1 v2 v3 v4 v5 v6 v7) L L1→dG bt (aM t a') L1 L2→Fz L2 v (.agg x.row)→x.wt≤16*4^d→a'≤t.length→Q v L:=fun v x a' L L1 L2 h1 h2 h3 h4 h5=>by
   subst hQ;exact⟨_,_,aV.keep2 h1 h2 h3,x,a',rfl,by omega,h5,rfl⟩
  clear hQ
  unfold iY
  repeat' (first | refine st ?_ | ((with_reducible refine aq 18 ?_);(refine eg ht (by assumption) rp (fun r_ a_ hr_ ha_=>?_))) | ((with_reducible refine aq 21 ?_);refine aj (kL _) ?_) | ((with_reducible refine al 21 ?_);refine ab (kL _) ?_) | ((with_reducible refine aq 54 ?_);refine aj (ie _) ?_) | ((with_reducible refine al 54 ?_);refine ab (ie _) ?_) | ((with_reducible refine aq 53 ?_);refine aj (jx _ _ _) ?_) | ((with_reducible refine al 53 ?_);refine ab (jx _ _ _) ?_) | refine dv (l:=[[97],[98],[120],[121],[118],[120],[121]]) ?_ mm rfl (by simp;omega) | refine DB (l:=[6,7,8,11,13,17]) ?_ mm rfl (by simp;omega) | refine cR ?_ (by omega) | ((with_reducible refine al 18 ?_);refine uk ht (by assumption) rp (fun r_ a_ hr_ ha_=>?_)) | ((with_reducible refine aq 52 ?_);(refine bW hE0 (by rfl) ht (by assumption) rp rp (fun x_ a_ hx_ ha_=>?_))) | ((with_reducible refine al 52 ?_);refine xY ih (by rfl) ht (by assumption) rp rp (fun x_ a_ hx_ ha_=>?_)) | refine sb (fun nb_ hnb_=>?_) | refine s2 (fun h=>?_) (fun h=>?_) | fail)
  all_goals first
   | exact hq _ (cS _) _ _ _ _ rp rp (.refl _) (by simp only[cS,ac.wt,ac.wts,List.length_nil];omega) (by assumption)
   | exact hq _ (bP _) _ _ _ _ rp rp (.refl _) (by have:=DC r_;simp only[bP,ac.wt,ac.wts];omega) (by assumption)
   | exact hq _ (.mk 3 0 [113] [x_]) _ _ _ _ rp rp (Fz.aggs (.cons (.refl _) (.cons (.refl _) (.cons (.refl _) (.cons (Fz.sls (l:=[x_]) (f:=ac.enc) (size:=4) (rows:=[x_.row]) (.head _) (by simp[ac.enc_row]) (by decide) rfl) .nil))))) (by simp only[ac.wt,ac.wts,List.length_cons,List.length_nil];omega) (by assumption)
   | exact hq _ (dS _ _ _) _ _ _ _ rp rp (.refl _) (by simp only[dS,ac.wt,ac.wts,List.length_nil];omega) (by assumption)
end Go.Proofs.Ytljkdffikfkcgaa.Am
end
section
namespace Go.Proofs.Ytljkdffikfkcgaa.Am
set_option maxRecDepth 100000
set_option linter.unusedVariables false
theorem GZ(o:Option Nat)(l:List aL)(k:Nat)(R:SH)(x:aL)(h0:o=none→l=[])(hk:k≤l.length)(hl:k<2^62):
  am Try.prog 45 [au o k,.str x] (ao o 1 (l.map az)++R) fun u K=>∃r:Int,u=.int .i64 r∧K=ao o 1 (l.map az)++R:=by
 refine kw _ _ _ _ ?_
 unfold jv
 generalize hL:ao o 1 (l.map az)++R=L
 generalize hQ:(fun(u:AV) (K:SH)=>∃r:Int,u=AV.int .i64 r∧K=L)=Q
 have hq:∀r:Int,Q (.int .i64 r) L:=fun r=>by subst hQ;exact⟨r,rfl,rfl⟩
 clear hQ
 subst hL
 cases o with
 | none=>
  have:=h0 rfl
  subst this
  obtain rfl:k=0:=by simpa using hk
  dsimp only[ao,au,List.nil_append]at *
  refine eJ 0 (fun _=>True) (fun i=>[.emp,.str x,.int .i64 i]) (by omega) trivial rfl (fun i h1 hd hi _ nx hn=>by omega) (fun i h1 hd _ nx=>?_)
  unfold eu
  repeat' (first | refine st ?_ | refine sb (fun nb_ hnb_=>?_) | refine s2 (fun h=>?_) (fun h=>?_) | fail)
  exact hq _
 | some b1=>
  dsimp only[ao,au,List.cons_append,List.nil_append]at *
  refine eJ k (fun _=>True) (fun i=>[.sl b1 0 k,.str x,.int .i64 i]) (by omega) trivial rfl (fun i h1 hd hi _ nx hn=>?_) (fun i h1 hd _ nx=>?_)
  all_goals unfold eu
  ·have hx:=aC (f:=az) (l:=l) (i:=i) (by omega)
   repeat' (first | refine st ?_ | refine sb (fun nb_ hnb_=>?_) | refine s2 (fun h=>?_) (fun h=>?_) | fail)
   all_goals first
    | exact hq _
    | exact hn trivial
  ·repeat' (first | refine st ?_ | refine sb (fun nb_ hnb_=>?_) | refine s2 (fun h=>?_) (fun h=>?_) | fail)
   exact hq _
def cL(bt:Nat)(th le:Int)(se tx at_ lo:Bool)(o:Option Nat)(k:Nat):Blk:=iY bt (.int .i64 th) (.int .i64 le) (.bool se) (.bool tx) (.bool at_) (.bool lo) (au o k)
def HD(f:FuncId)(args:List AV)(d:Nat)(good:AV→Prop):Prop:=∀(bm bt:Nat) (t:List UInt8) (a:Nat) (th le:Int) (se tx at_ lo:Bool) (o:Option Nat) (ar:List aL) (k:Nat),t.length<2^40→a≤t.length→(o=none→ar=[])→k≤ar.length→k+d≤900→
 am Try.prog f (.ptr bm 0 0::args) ((bm,cL bt th le se tx at_ lo o k)::(bt,aM t a)::ao o 1 (ar.map az)) fun u K=>∃(v:AV) (a':Nat) (th' le':Int) (se' tx' at' lo':Bool) (o':Option Nat) (ar':List aL),u=v∧good v∧a'≤t.length∧(o'=none→ar'=[])∧k≤ar'.length∧K=(bm,cL bt th' le' se' tx' at' lo' o' k)::(bt,aM t a')::ao o' 1 (ar'.map az)
theorem iZ{b1 b2:Nat}{x1 x2:Blk}{o:Option Nat}{n:Nat}{rows:List (List AV)}{L L1 L2 L3:SH}(h1:dG b1 x1 L L1)(h2:dG b2 x2 L1 L2)(h3:cW o n rows L2 L3):L.Perm (((b1,x1)::(b2,x2)::ao o n rows)++L3):=
 h1.perm.trans ((h2.perm.trans ((h3.perm).cons _)).cons _)
section
variable {f:FuncId} {args:List AV} {d:Nat} {good:AV→Prop} {bm bt:Nat} {t:List UInt8} {a:Nat} {th le:Int} {se tx at_ lo:Bool} {o:Option Nat} {ar:List aL} {k:Nat} {L L1 L2 L3:SH}
theorem Bp{KL:R}(h:HD f args d good)(h1:dG bm (cL bt th le se tx at_ lo o k) L L1)(h2:dG bt (aM t a) L1 L2)(h3:cW o 1 (ar.map az) L2 L3)(ht:t.length<2^40)(ha:a≤t.length)(ho:o=none→ar=[])(hk:k≤ar.length)(hd:k+d≤900)
  (hq:∀(v:AV) (a':Nat) (th' le':Int) (se' tx' at' lo':Bool) (o':Option Nat) (ar':List aL),good v→a'≤t.length→(o'=none→ar'=[])→k≤ar'.length→KL v ((bm,cL bt th' le' se' tx' at' lo' o' k)::(bt,aM t a')::(ao o' 1 (ar'.map az)++L3))):W.callM Try.prog f (.ptr bm 0 0::args) L KL:=by
 refine xE (h bm bt t a th le se tx at_ lo o ar k ht ha ho hk hd) (iZ h1 h2 h3) ?_
 rintro _ _ ⟨v,a',th',le',se',tx',at',lo',o',ar',rfl,q1,q2,q3,q4,rfl⟩
 exact hq _ a' th' le' se' tx' at' lo' o' ar' q1 q2 q3 q4
theorem DD{i:Nat}{us:List W.WR}{KN:AV→SH→List Nat→Prop}(h:HD f args d good)(h1:dG bm (cL bt th le se tx at_ lo o k) L L1)(h2:dG bt (aM t a) L1 L2)(h3:cW o 1 (ar.map az) L2 L3)(ht:t.length<2^40)(ha:a≤t.length)(ho:o=none→ar=[])(hk:k≤ar.length)(hd:k+d≤900)
  (hf:∀y∈us,W.free y ⟨i,[],SH.names ((bm,cL bt th le se tx at_ lo o k)::(bt,aM t a)::ao o 1 (ar.map az)),[],true,[]⟩)
  (hq:∀(v:AV) (a':Nat) (th' le':Int) (se' tx' at' lo':Bool) (o':Option Nat) (ar':List aL) (ks:List Nat),good v→a'≤t.length→(o'=none→ar'=[])→k≤ar'.length→KN v ((bm,cL bt th' le' se' tx' at' lo' o' k)::(bt,aM t a')::(ao o' 1 (ar'.map az)++L3)) ks):W.dcallM Try.prog us i f (.ptr bm 0 0::args) L KN:=by
 refine⟨_,L3,iZ h1 h2 h3,hf,(h bm bt t a th le se tx at_ lo o ar k ht ha ho hk hd).mono ?_⟩
 rintro _ _ ⟨v,a',th',le',se',tx',at',lo',o',ar',rfl,q1,q2,q3,q4,rfl⟩
 exact hq _ a' th' le' se' tx' at' lo' o' ar' _ q1 q2 q3 q4
theorem vK{v v2:AV}{x1 x2:Blk}{rows:List (List AV)}(h1:dG bm x1 L L1)(h2:dG bt x2 L1 L2)(h3:cW o 1 rows L2 L3)(hv:Fz L3 v v2):aV [v] L [v2] ((bm,x1)::(bt,x2)::ao o 1 rows):=by
 refine .drop (K:=L3) ((iZ h1 h2 h3).trans List.perm_append_comm) rfl fun i a a2 e1 e2=>?_
 match i with
 | 0=>cases e1;cases e2;exact hv
 | i+1=>simp at e1
end
def bL(d:Nat):Nat:=100*10^d
def DE(d:Nat)(v:AV):Prop:=∃x:aa,v=.agg x.row∧x.wt≤bL d
def vL(n:Nat)(v:AV):Prop:=∃l:List aa,v=.lst (l.map aa.enc)∧aa.wts l≤n
def DF(d:Nat):Prop:=HD 36 [.int .i64 (d:Int)] d (DE d)
def DG(d:Nat):Prop:=∀n:Nat,n≤10→HD 19 [.int .i64 (d:Int),.int .i64 (n:Int)] d (vL (n*bL d))
def G0(d:Nat):Prop:=∀s:aL,HD 56 [.str s,.int .i64 (d:Int)] (d+1) (vL (2*bL d))
theorem vM(l:List aa)(x:aa):aa.wts (l++[x])=aa.wts l+x.wt:=by
 induction l with
 | nil=>simp[aa.wts]
 | cons y l ih=>simp only[List.cons_append,aa.wts,ih];omega
def cM(d:Nat):Prop:=∀n:Nat,n≤10→∀(bm bt:Nat) (t:List UInt8) (a:Nat) (th le:Int) (se tx at_ lo:Bool) (o:Option Nat) (ar:List aL) (k:Nat),t.length<2^40→a≤t.length→(o=none→ar=[])→k≤ar.length→k+d≤900→
 am Try.prog 19 [.ptr bm 0 0,.int .i64 (d:Int),.int .i64 (n:Int)] ((bm,cL bt th le se tx at_ lo o k)::(bt,aM t a)::ao o 1 (ar.map az)) fun u K=>∃(a':Nat) (th' le':Int) (se' tx' at' lo':Bool) (o':Option Nat) (ar':List aL) (l:List aa) (ol:Option Nat),u=au ol l.length∧(ol=none→l=[])∧aa.wts l≤n*bL d∧a'≤t.length∧(o'=none→ar'=[])∧k≤ar'.length∧K=(bm,cL bt th' le' se' tx' at' lo' o' k)::(bt,aM t a')::(ao o' 1 (ar'.map az)++ao ol 11 (l.map aa.enc))
theorem xZ(d:Nat)(hS:DF d):cM d:=by
  intro n hn bm bt t a th le se tx at_ lo o ar k ht ha ho hk hd
  refine lx _ _ _ _ _ ?_
  unfold gA
  generalize hQ:(fun(u:AV) (K:SH)=>∃(a':Nat) (th' le':Int) (se' tx' at' lo':Bool) (o':Option Nat) (ar':List aL) (l:List aa) (ol:Option Nat),u=au ol l.length∧(ol=none→l=[])∧aa.wts l≤n*bL d∧a'≤t.length∧(o'=none→ar'=[])∧k≤ar'.length∧K=(bm,cL bt th' le' se' tx' at' lo' o' k)::(bt,aM t a')::(ao o' 1 (ar'.map az)++ao ol 11 (l.map aa.enc)))=Q
  have hq:∀(l:List aa) (ol:Option Nat) (a':Nat) (th' le':Int) (se' tx' at' lo':Bool) (o':Option Nat) (ar':List aL),(ol=none→l=[])→aa.wts l≤n*bL d→a'≤t.length→(o'=none→ar'=[])→k≤ar'.length→Q (au ol l.length) ((bm,cL bt th' le' se' tx' at' lo' o' k)::(bt,aM t a')::(ao o' 1 (ar'.map az)++ao ol 11 (l.map aa.enc))):=fun l ol a' th' le' se' tx' at' lo' o' ar' h4 h5 h6 h7 h8=>by
    subst hQ;exact⟨a',th',le',se',tx',at',lo',o',ar',l,ol,rfl,h4,h5,h6,h7,h8,rfl⟩
  clear hQ
  refine cH (β:=Nat×Int×Int×Bool×Bool×Bool×Bool×Option Nat×List aL×Option Nat×List aa) n (fun i ⟨a,th,le,se,tx,at_,lo,o,ar,ol,xs⟩=>([.ptr bm 0 0,.int .i64 d,.int .i64 n,au ol i,.int .i64 i],(bm,cL bt th le se tx at_ lo o k)::(bt,aM t a)::(ao o 1 (ar.map az)++ao ol 11 (xs.map aa.enc))))
    (fun i ⟨a,th,le,se,tx,at_,lo,o,ar,ol,xs⟩=>a≤t.length∧(o=none→ar=[])∧k≤ar.length∧(ol=none→xs=[])∧xs.length=i∧aa.wts xs≤i*bL d) ⟨a,th,le,se,tx,at_,lo,o,ar,none,[]⟩ ⟨ha,ho,hk,fun _=>rfl,rfl,by simp[aa.wts]⟩ ?_ ?_
  · exact aV.vals (.cons (.refl _) (.cons (.refl _) (.cons (.refl _) (.cons .nile (.cons (.refl _) .nil))))) |> fun h=>by simpa[au,ao]using h
  · rintro i ⟨a,th,le,se,tx,at_,lo,o,ar,ol,xs⟩ hi ⟨ha,ho,hk,hol,hxl,hxw⟩
    dsimp only at ha ho hk hol hxl hxw ⊢
    unfold fN
    generalize hnx:(fun(vs':List AV) (L':SH)=>_)=nx
    have hn:∀(a:Nat) (th le:Int) (se tx at_ lo:Bool) (o:Option Nat) (ar:List aL) (nb:Nat) (x:aa) (L':SH),i<n→ez L' ((bm,cL bt th le se tx at_ lo o k)::(bt,aM t a)::(ao o 1 (ar.map az)++ao (some nb) 11 ((xs++[x]).map aa.enc)))→a≤t.length→(o=none→ar=[])→k≤ar.length→x.wt≤bL d→nx [.ptr bm 0 0,.int .i64 d,.int .i64 n,.sl nb 0 (i+1),.int .i64 ((i+1:Nat):Int)] L':=by
      intro a th le se tx at_ lo o ar nb x L' q0 q1 q2 q3 q4 q5
      subst hnx
      refine⟨i+1,⟨a,th,le,se,tx,at_,lo,o,ar,some nb,xs++[x]⟩,by omega,by omega,⟨q2,q3,q4,nofun,by simp;omega,?_⟩,aV.pick q1 rfl⟩
      dsimp only
      rw[vM,Nat.add_mul,Nat.one_mul]
      omega
    clear hnx
    subst hxl
    have hfin:∀(L:SH) (v:AV),L=(bm,cL bt th le se tx at_ lo o k)::(bt,aM t a)::(ao o 1 (ar.map az)++ao ol 11 (xs.map aa.enc))→v=au ol xs.length→Q v L:=by
      rintro _ _ rfl rfl
      exact hq xs ol a th le se tx at_ lo o ar hol (Nat.le_trans hxw (Nat.mul_le_mul_right _ hi)) ha ho hk
    rcases Nat.lt_or_ge xs.length n with g | g
    · have hd1:=ct g
      have hi1:=bH g (by omega)
      unfold cL iY at hfin ⊢
      repeat' (first | refine st ?_ | ((with_reducible refine aq 36 ?_);(refine Bp hS rp rp rp ht (by assumption) (by assumption) (by assumption) hd ?_;rintro _ a_ th_ le_ se_ tx_ at_ lo_ o_ ar_ ⟨x_,rfl,hx_⟩ ha_ ho_ hk_)) | refine cI rp rp (by simp) (fun e=>by first | simp[hol e]) (by rfl) (by simp) (by simp;omega) (by simp;omega) (by rfl) (fun nb_ hnb_=>?_) | refine sb (fun nb_ hnb_=>?_) | refine s2 (fun h=>?_) (fun h=>?_) | fail)
      all_goals first
        | exact hfin _ _ rfl rfl
        | (have e_ : ao (some nb_) 11 ((xs ++ [x_]).map aa.enc) = [(nb_, ⟨11, xs.map aa.enc ++ [x_.row]⟩)] := by rw [ao, List.map_append, List.map_cons, List.map_nil, aa.enc_row]
           refine hn a_ th_ le_ se_ tx_ at_ lo_ o_ ar_ nb_ x_ _ g ?_ ha_ ho_ hk_ hx_
           rw[e_]
           exact .one (.there _ (.there _ (.here _))) (.one (.there _ (.there _ (.here _))) (.slot (.there _ (.there _ (.here _))) (.one (.here _) (.nil _)))))
    · have hd1:=ee g
      unfold cL iY at hfin ⊢
      repeat' (first | refine st ?_ | refine sb (fun nb_ hnb_=>?_) | refine s2 (fun h=>?_) (fun h=>?_) | fail)
      exact hfin _ _ rfl rfl
theorem ya(d:Nat)(hS:cM d):DG d:=by
 intro n hn bm bt t a th le se tx at_ lo o ar k ht ha ho hk hd
 refine am.fz ((hS n hn bm bt t a th le se tx at_ lo o ar k ht ha ho hk hd).mono ?_)
 rintro _ _ ⟨a',th',le',se',tx',at',lo',o',ar',l,ol,rfl,h1,h2,h3,h4,h5,rfl⟩
 exact⟨_,_,vK (.here _) (.here _) (.here _) (Fz.slot (f:=aa.enc) (g:=aa.enc) rfl (fun e=>by simp[h1 e]) (by decide) (fun _ _=>rfl) fun y _ q a a2 h1 h2=>by rw[h1]at h2;cases h2;exact .refl _),_,a',th',le',se',tx',at',lo',o',ar',rfl,⟨l,rfl,h2⟩,h3,h4,h5,rfl⟩
theorem E2{r:Nat}(h:r<100):IntKind.i64.wrap (1+(r:Int))=((1+r:Nat):Int):=by rw[IntWalk.i64_in _ (by omega)];omega
theorem vL.le{n m:Nat}{v:AV}(h:vL n v)(hm:n≤m):vL m v:=by obtain⟨l,h1,h2⟩:=h;exact⟨l,h1,by omega⟩
theorem E3(d:Nat)(hS:DG d):G0 d:=by
 intro s bm bt t a th le se tx at_ lo o ar k ht ha ho hk hd
 refine am.fz (lv _ _ _ _ _ ?_)
 unfold gz
 generalize hQ:(fun(v:AV) (L:SH)=>∃v2 L2,aV [v] L [v2] L2∧∃(v:AV) (a':Nat) (th' le':Int) (se' tx' at' lo':Bool) (o':Option Nat) (ar':List aL),v2=v∧vL (2*bL d) v∧a'≤t.length∧(o'=none→ar'=[])∧k≤ar'.length∧L2=(bm,cL bt th' le' se' tx' at' lo' o' k)::(bt,aM t a')::ao o' 1 (ar'.map az))=Q
 have hq:∀(v:AV) (a':Nat) (th' le':Int) (se' tx' at' lo':Bool) (o':Option Nat) (ar':List aL) (L:SH),vL (2*bL d) v→ez L ((bm,cL bt th' le' se' tx' at' lo' o' k)::(bt,aM t a')::ao o' 1 (ar'.map az))→a'≤t.length→(o'=none→ar'=[])→k≤ar'.length→Q v L:=fun v a' th' le' se' tx' at' lo' o' ar' L h1 h2 h6 h7 h8=>by
  subst hQ;exact⟨_,_,aV.pick h2 rfl,_,a',th',le',se',tx',at',lo',o',ar',rfl,h1,h6,h7,h8,rfl⟩
 clear hQ
 unfold cL iY
 repeat' (first | refine dm (b9 ?_ (E2 (by omega))) | refine st ?_ | refine zx (r:=[.str s]) rp (by rfl) rp (by simpa using hk) (fun e=>by simp[ho e]) (by omega) (by omega) (by rfl) (fun nb_ hnb_=>?_) | ((with_reducible refine aq 18 ?_);(refine eg ht (by assumption) rp (fun r_ a_ hr_ ha_=>?_))) | refine sb (fun nb_ hnb_=>?_) | refine s2 (fun h=>?_) (fun h=>?_) | fail)
 have er:List.take k (ar.map az)++[[.str s]]=(ar.take k++[s]).map az:=by rw[List.map_append,List.map_take];rfl
 rw[er]
 refine Bp (o:=some nb_) (ar:=ar.take k++[s]) (k:=k+1) (hS (1+r_) (by omega)) rp rp (.here _) ht ha_ nofun (by simp[Nat.min_eq_left hk]) (by omega) ?_
 intro v a2 th2 le2 se2 tx2 at2 lo2 o2 ar2 hg ha2 ho2 hk2
 rcases o2 with _ | b2
 ·exfalso
  have:=ho2 rfl
  subst this
  simp at hk2
 unfold fM cL iY
 dsimp only[ao,au,List.cons_append,List.nil_append]
 have es:IntKind.i64.wrap (((k+1:Nat):Int)-1)=(k:Int):=by rw[IntWalk.i64_in _ (by omega)];omega
 repeat' (first | refine st ?_ | refine sF ?_ (Nat.le_succ _) rp rfl | refine sb (fun nb_ hnb_=>?_) | refine s2 (fun h=>?_) (fun h=>?_) | fail)
 exact hq v a2 th2 le2 se2 tx2 at2 lo2 (some b2) ar2 _ (hg.le (Nat.mul_le_mul_right _ (by omega))) (.one (.here _) (.one (.here _) (.one (.here _) (.nil _)))) ha2 nofun (by omega)
end Go.Proofs.Ytljkdffikfkcgaa.Am
end
