/- A part of the proof; the statement is proved in the last part. -/
import Derived.Test.YtbofdbhnbodbiaaGreatDoorQvt
set_option linter.all false
set_option maxRecDepth 100000
set_option maxHeartbeats 20000000
namespace Go.Proofs.YtbofdbhnbodbiaaGreatDoor.Am
section
theorem uI(i:Int)(n:Nat):aq Tryz.prog 124 [.Uf i,.Uf n] (.bool (inB i n)):=by
 refine Et _ _ _ _ ?_;refine vw ?_;generalize D:(λ(u:AV) (K:SH)=>u=AV.bool (inB i n)/\K=[])=Q
 repeat' (first|refine st ?_|refine sb λB j=>?_|refine s2 (λh=>?_) λh=>?_|fail)
 all_goals
  subst D;refine⟨?_,rfl⟩;simp_all[inB]<;>omega
theorem Hf(l:List Int)(n:Int)(M:l.length<2^62):aq Tryz.prog 81 [.lst (l.map ah),.Uf n] (.bool (l.contains n)):=by
 refine CI _ _ _ _ ?_;refine vw ?_;refine dy l (λx=>decide (x=n)) (λi=>[.lst (l.map ah),.Uf n,.Uf i]) M rfl (λi D N Y j E G=>?_) (λi D N j E=>?_)
 all_goals refine vw ?_
 .have S:=ao (f:=ah) D
  repeat' (first|refine st ?_|refine sb λB u=>?_|refine s2 (λh=>?_) λh=>?_|fail)
  .exact⟨by rw[show l.contains n=true by rw[List.contains_iff_mem,<-of_decide_eq_true h];exact Sy D],rfl⟩
  .exact G h
 .repeat' (first|refine st ?_|refine sb λB u=>?_|refine s2 (λh=>?_) λh=>?_|fail)
  exact⟨by rw[show l.contains n=false by rw[Bool.eq_false_iff];intro O;have:=j n (List.contains_iff_mem.1 O);simp at this],rfl⟩
theorem EC(w:aI)(s:SyncD)(M:w.conds.length<2^62):aq Tryz.prog 71 [.agg w.enc,.agg s.enc] (.bool (fitsS w s)):=by
 refine Ax _ _ _ _ ?_;refine vw ?_;generalize hQ:(λ(u:AV) (K:SH)=>u=AV.bool (fitsS w s)/\K=[])=Q;have hq:∀b,fitsS w s=b->Q (.bool b) []:=λb hb=>by subst hQ;exact⟨by rw[hb],rfl⟩
 clear hQ
 repeat' (first|refine st ?_|refine sb λB j=>?_|refine s2 (λh=>?_) λh=>?_|fail)
 refine dy w.conds (λc=>!inB c.mutex w.locks.length) (λi=>[.pptr [w.enc] 0 0,.pptr [s.enc] 0 0,.Uf i]) M rfl (λi N hd hi G nx hn=>?_) (λi N hd G nx=>?_)
 all_goals refine vw ?_
 .have hx:=ao (f:=bR.enc) N;have D:inB w.conds[i].mutex w.locks.length=false->fitsS w s=false:=λh=>by unfold fitsS;rw[FI N h,Bool.and_false]
  generalize w.conds[i]=c at *;obtain⟨nm,E⟩:=c;unfold bR.enc at hx;dsimp only at *;by_cases m0:E<0
  .have Y:decide (E<0)=true:=decide_eq_true m0
   repeat' (first|refine st ?_|refine sb λB j=>?_|refine s2 (λh=>?_) λh=>?_|fail)
   exact hq _ (D (by simp[inB];omega))
  .have Y:decide (E<0)=false:=decide_eq_false m0;by_cases Z:E>=w.locks.length
   .have S:decide (E>=(w.locks.length:Int))=true:=decide_eq_true Z
    repeat' (first|refine st ?_|refine sb λB j=>?_|refine s2 (λh=>?_) λh=>?_|fail)
    exact hq _ (D (by simp[inB];omega))
   .have S:decide (E>=(w.locks.length:Int))=false:=decide_eq_false Z
    repeat' (first|refine st ?_|refine sb λB j=>?_|refine s2 (λh=>?_) λh=>?_|fail)
    exact hn (by simp[inB];omega)
 .have hf:fitsS w s=(decide (s.locks.length=w.locks.length)&&decide (s.done.length=w.futures.length)&&decide (s.threads.length=w.threads.length)):=by unfold fitsS;rw[SM.2 λc M=>by simpa using G c M,Bool.and_true]
  by_cases e1:s.locks.length=w.locks.length
  .have Y:decide ((s.locks.length:Int)=w.locks.length)=true:=decide_eq_true Ua;by_cases e2:s.done.length=w.futures.length
   .have S:decide ((s.done.length:Int)=w.futures.length)=true:=decide_eq_true Ua;by_cases e3:s.threads.length=w.threads.length
    .have O:decide ((s.threads.length:Int)=w.threads.length)=true:=decide_eq_true Ua
     repeat' (first|refine st ?_|refine sb λB j=>?_|refine s2 (λh=>?_) λh=>?_|fail)
     exact hq _ (by rw[hf,decide_eq_true e1,decide_eq_true e2,decide_eq_true e3,O];rfl)
    .have O:decide ((s.threads.length:Int)=w.threads.length)=false:=decide_eq_false Ua
     repeat' (first|refine st ?_|refine sb λB j=>?_|refine s2 (λh=>?_) λh=>?_|fail)
     exact hq _ (by rw[hf,decide_eq_false e3,Bool.and_false,O])
   .have S:decide ((s.done.length:Int)=w.futures.length)=false:=decide_eq_false Ua
    repeat' (first|refine st ?_|refine sb λB j=>?_|refine s2 (λh=>?_) λh=>?_|fail)
    exact hq _ (by rw[hf,decide_eq_false e2,Bool.and_false];rfl)
  .have Y:decide ((s.locks.length:Int)=w.locks.length)=false:=decide_eq_false Ua
   repeat' (first|refine st ?_|refine sb λB j=>?_|refine s2 (λh=>?_) λh=>?_|fail)
   exact hq _ (by rw[hf,decide_eq_false e1];rfl)
theorem Ih(w:aI)(k o:Int):aq Tryz.prog 125 [.agg w.enc,.Uf k,.Uf o] (.bool (allowedS w k o)):=by
 refine yR _ _ _ _ _ ?_;refine vw ?_;generalize S:(λ(u:AV) (K:SH)=>u=AV.bool (allowedS w k o)/\K=[])=Q;have hq:∀b,allowedS w k o=b->Q (.bool b) []:=λb hb=>by subst S;exact⟨by rw[hb],rfl⟩
 clear S;by_cases G:6<=k/\k<=11
 .have M:=uI o w.locks.length;cases D:inB o w.locks.length with
  |false=>
   rw[D]at M;rcases(show k=6\/k=7\/k=8\/k=9\/k=10\/k=11 by omega)with rfl|rfl|rfl|rfl|rfl|rfl
   all_goals
    repeat' (first|refine st ?_|(refine pf 124 ?_;refine pm (M) ?_)|refine sb λE B=>?_|refine s2 (λh=>?_) λh=>?_|fail)
    exact hq _ (by simp[allowedS,D])
  |true=>
   rw[D]at M;obtain⟨j,rfl⟩:=SZ (cG D);have O:j<w.locks.length:=by have:=(av.1 D).2;omega
   have Y:=ao (f:=bC.enc) O;have hr:rwAt w (j:Int)=w.locks[j].rw:=by unfold rwAt;rw[Td,Tz,mt O,TC]
   generalize w.locks[j]=c at *;obtain⟨nm,r⟩:=c;unfold bC.enc at Y;dsimp only at *;rcases(show k=6\/k=7\/k=8\/k=9\/k=10\/k=11 by omega)with rfl|rfl|rfl|rfl|rfl|rfl
   all_goals
    repeat' (first|refine st ?_|(refine pf 124 ?_;refine pm (M) ?_)|refine sb λE B=>?_|refine s2 (λh=>?_) λh=>?_|fail)
    exact hq _ (by simp[allowedS,D,hr])
 .have hc:=uI o w.cells.length;have hd:=uI o w.conds.length;have ht:=uI o w.threads.length;have hf:=uI o w.futures.length;rcases kinds k with N|rfl|rfl|rfl|rfl|rfl|rfl|rfl|rfl|rfl|rfl|rfl|rfl|rfl|rfl|rfl|rfl|rfl|rfl|rfl|rfl|rfl|rfl|rfl
  all_goals try (exfalso;clear hq;omega)
  .have Z:=eQ (w:=w) (o:=o) N;have e:=λc D h2=>LU (c:=c) N D h2
   have e1:=e 1 Ue Ue;have e2:=e 2 Ue Ue;have e3:=e 3 Ue Ue;have e4:=e 4 Ue Ue;have e5:=e 5 Ue Ue;have e6:=e 6 Ue Ue;have e7:=e 7 Ue Ue;have e8:=e 8 Ue Ue;have e9:=e 9 Ue Ue;have e10:=e 10 Ue Ue;have e11:=e 11 Ue Ue;have e12:=e 12 Ue Ue;have e13:=e 13 Ue Ue;have e14:=e 14 Ue Ue;have e15:=e 15 Ue Ue;have e16:=e 16 Ue Ue;have e17:=e 17 Ue Ue;have e18:=e 18 Ue Ue;have e19:=e 19 Ue Ue;have e20:=e 20 Ue Ue;have e21:=e 21 Ue Ue;have e22:=e 22 Ue Ue;have e23:=e 23 Ue Ue
   clear e N G
   repeat' (first|refine st ?_|refine sb λE B=>?_|refine s2 (λh=>?_) λh=>?_|fail)
   exact hq _ Z
  all_goals
   clear G
   repeat' (first|refine st ?_|(refine pf 124 ?_;refine pm (hc) ?_)|(refine pf 124 ?_;refine pm (hd) ?_)|(refine pf 124 ?_;refine pm (ht) ?_)|(refine pf 124 ?_;refine pm (hf) ?_)|refine sb λE B=>?_|refine s2 (λh=>?_) λh=>?_|fail)
   exact hq _ rfl
section
variable (w:aI) (s:SyncD) (t k o:Int) (hf:wi w s) (ht:inB t w.threads.length=true) (hr:∀l∈s.locks,l.readers.length<2^40) (ha:allowedS w k o=true) (Q:R) (hq:∀b,aE w s t k o=b->Q (.bool b) [])
include hf ht hr ha hq
theorem Su:sW Q [] (.Uf t) (.Uf k) (.Uf o) (.pptr [s.enc] 0 0) (.pptr [w.enc] 0 0):=by
  have j:inB t s.threads.length=true:=by rw[hf.threads];exact ht
  have N:(s.threads.map ThrD.enc)[t.toNat]? =some (aR s t).enc:=bQ j;have t0:=cG j;have u : aE w s t k o = (if k = 1 then decide ((aR s t).status = 1)
     else if k=17 then decide ((aR s t).status=4)&&decide ((aR s t).cond=o)&&decide ((aF s (ig w o)).owner=-1)
     else decide ((aR s t).status=2)&&cJ w s t k o):=by
    unfold aE;rw[fO.2 hf,ht,ha];rfl
  unfold cJ at u;refine vw ?_;by_cases h1:6<=k/\k<=11
  · have j:inB o s.locks.length=true:=by
      rw[hf.locks];rcases(show k=6\/k=7\/k=8\/k=9\/k=10\/k=11 by omega)with rfl|rfl|rfl|rfl|rfl|rfl<;>(simp[allowedS]at ha;exact ha.1)
    have M:(s.locks.map LockD.enc)[o.toNat]? =some (aF s o).enc:=bQ j;have o0:=cG j;have hrd:=DX hr o;clear j ha hr hf ht;rcases(show k=6\/k=7\/k=8\/k=9\/k=10\/k=11 by omega)with rfl|rfl|rfl|rfl|rfl|rfl
    all_goals
      simp only[Int.reduceEq,if_true,if_false,reduceIte,or_false,or_true,false_or,true_or,or_self]at u;generalize aR s t=th at *;generalize aF s o=ll at *;obtain⟨D,G,at_⟩:=th;obtain⟨ow,rd⟩:=ll;unfold ThrD.enc at N;unfold LockD.enc at M;dsimp only at *;have hc:=Hf rd t hrd;generalize rd.contains t=hcb at *
      repeat' (first|refine st ?_|(refine pf 81 ?_;refine pm (hc) ?_)|refine sb λE B=>?_|refine s2 (λh=>?_) λh=>?_|fail)
      all_goals first
        |exact hq _ u
        |exact hq _ (u.trans (by simp_all))
  by_cases Z:k=16\/k=17\/k=18\/k=19
  · have j:inB o w.conds.length=true:=by rcases Z with rfl|rfl|rfl|rfl<;>simpa[allowedS]using ha
    have hm:=Bi hf j;have M:=bQ (f:=bR.enc) j;have o0:=cG j;have m0:=cG hm;have O:(s.locks.map LockD.enc)[(ig w o).toNat]? =some (aF s (ig w o)).enc:=bQ hm;clear j hm ha hr hf ht h1;generalize aF s (ig w o)=ll at *;have Y:ig w o=(w.conds.getD o.toNat default).mutex:=rfl;rw[Y]at O m0;generalize w.conds.getD o.toNat default=c at *;clear Y;obtain⟨nm,mx⟩:=c;obtain⟨ow,rd⟩:=ll;generalize aR s t=th at *;obtain⟨D,G,at_⟩:=th;unfold ThrD.enc at N;unfold LockD.enc at O;unfold bR.enc at M;rcases Z with rfl|rfl|rfl|rfl
    all_goals
      simp only[Int.reduceEq,if_true,if_false,reduceIte,or_false,or_true,false_or,true_or,or_self]at u;dsimp only at *
      repeat' (first|refine st ?_|refine sb λE B=>?_|refine s2 (λh=>?_) λh=>?_|fail)
      all_goals first
        |exact hq _ u
        |exact hq _ (u.trans (by simp_all))
  by_cases h3:k=20\/k=21
  · have j:inB o s.threads.length=true:=by rw[hf.threads];rcases h3 with rfl|rfl<;>simpa[allowedS]using ha
    have M:(s.threads.map ThrD.enc)[o.toNat]? =some (aR s o).enc:=bQ j;have o0:=cG j;clear j ha hr hf ht h1 Z;rcases h3 with rfl|rfl
    all_goals
      simp only[Int.reduceEq,if_true,if_false,reduceIte,or_false,or_true,false_or,true_or,or_self]at u;by_cases S:o=t
      · subst S
        have d:decide (o≠o)=false:=by simp
        rw[d,Bool.false_and,Bool.and_false]at u;generalize aR s o=th at *;obtain⟨D,G,at_⟩:=th;unfold ThrD.enc at N
        repeat' (first|refine st ?_|refine sb λE B=>?_|refine s2 (λh=>?_) λh=>?_|fail)
        all_goals exact hq _ u
      · have d:decide (o≠t)=true:=decide_eq_true S
        rw[d,Bool.true_and]at u;generalize aR s t=th at *;generalize aR s o=ll at *;obtain⟨D,G,at_⟩:=th;obtain⟨st2,cd2,at2⟩:=ll;unfold ThrD.enc at N M;dsimp only at *
        repeat' (first|refine st ?_|refine sb λE B=>?_|refine s2 (λh=>?_) λh=>?_|fail)
        all_goals first
          |exact hq _ u
          |exact hq _ (u.trans (by simp_all))
  by_cases h4:k=22\/k=23
  · have j:inB o s.done.length=true:=by rw[hf.done];rcases h4 with rfl|rfl<;>simpa[allowedS]using ha
    have M:(s.done.map aB)[o.toNat]? =some (aB (nI s o)):=bQ j;have o0:=cG j;clear j ha hr hf ht h1 Z h3;rcases h4 with rfl|rfl
    all_goals
      simp only[Int.reduceEq,if_true,if_false,reduceIte,or_false,or_true,false_or,true_or,or_self]at u;generalize aR s t=th at *;generalize nI s o=ll at *;obtain⟨D,G,at_⟩:=th;unfold ThrD.enc at N;unfold aB at M;dsimp only at *
      repeat' (first|refine st ?_|refine sb λE B=>?_|refine s2 (λh=>?_) λh=>?_|fail)
      all_goals first
        |exact hq _ u
        |exact hq _ (u.trans (by simp_all))
  rcases kinds k with hk|rfl|rfl|rfl|rfl|rfl|rfl|rfl|rfl|rfl|rfl|rfl|rfl|rfl|rfl|rfl|rfl|rfl|rfl|rfl|rfl|rfl|rfl|rfl
  all_goals try (exfalso;clear hq u;omega)
  · rw[eQ hk]at ha;cases ha
  all_goals
    clear ha hr hf ht h1 Z h3 h4 j;simp only[Int.reduceEq,if_true,if_false,reduceIte,or_false,or_true,false_or,true_or,or_self]at u;generalize aR s t=th at *;obtain⟨D,G,at_⟩:=th;unfold ThrD.enc at N;dsimp only at *
    repeat' (first|refine st ?_|refine sb λE B=>?_|refine s2 (λh=>?_) λh=>?_|fail)
    all_goals first
      |exact hq _ u
      |exact hq _ (u.trans (by simp_all))
end
theorem ED(w:aI)(s:SyncD)(t k o:Int)(S:w.conds.length<2^62)(hr:∀l∈s.locks,l.readers.length<2^40):aq Tryz.prog 76 [.agg w.enc,.agg s.enc,.Uf t,.Uf k,.Uf o] (.bool (aE w s t k o)):=by
 refine uE _ _ _ _ _ _ _ ?_;refine vw ?_;generalize Y:(λ(u:AV) (K:SH)=>u=AV.bool (aE w s t k o)/\K=[])=Q;have hq:∀b,aE w s t k o=b->Q (.bool b) []:=λb Z=>by subst Y;exact⟨by rw[Z],rfl⟩
 clear Y;have D:=EC w s S;have E:=uI t w.threads.length;have O:=Ih w k o;cases N:fitsS w s with
 |false=>
  rw[N]at D
  repeat' (first|refine st ?_|(refine pf 71 ?_;refine pm (D) ?_)|refine sb λB j=>?_|refine s2 (λh=>?_) λh=>?_|fail)
  exact hq _ (by simp[aE,N])
 |true=>
  rw[N]at D;cases M:inB t w.threads.length with
  |false=>
   rw[M]at E
   repeat' (first|refine st ?_|(refine pf 71 ?_;refine pm (D) ?_)|(refine pf 124 ?_;refine pm (E) ?_)|refine sb λB j=>?_|refine s2 (λh=>?_) λh=>?_|fail)
   exact hq _ (by simp[aE,M])
  |true=>
   rw[M]at E;cases G:allowedS w k o with
   |false=>
    rw[G]at O
    repeat' (first|refine st ?_|(refine pf 71 ?_;refine pm (D) ?_)|(refine pf 124 ?_;refine pm (E) ?_)|(refine pf 125 ?_;refine pm (O) ?_)|refine sb λB j=>?_|refine s2 (λh=>?_) λh=>?_|fail)
    exact hq _ (by simp[aE,G])
   |true=>
    rw[G]at O;have z:=Su w s t k o (fO.1 N) M hr G Q hq
    repeat' (first|with_reducible exact z|refine st ?_|(refine pf 71 ?_;refine pm (D) ?_)|(refine pf 124 ?_;refine pm (E) ?_)|(refine pf 125 ?_;refine pm (O) ?_)|refine sb λB j=>?_|refine s2 (λh=>?_) λh=>?_|fail)
end
end Go.Proofs.YtbofdbhnbodbiaaGreatDoor.Am
