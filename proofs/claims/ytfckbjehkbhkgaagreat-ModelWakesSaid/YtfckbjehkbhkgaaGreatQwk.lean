/- part -/
import Derived.Test.YtfckbjehkbhkgaaGreatQwj
set_option linter.all false
set_option maxRecDepth 100000
set_option maxHeartbeats 0
namespace Go.Proofs.YtfckbjehkbhkgaaGreat.Am
section
theorem yo(i:Int)(n:Nat):aq Tryz.prog 76 [.acU i,.acU n] (.bool (inB i n)):=by
 refine JZ _ _ _ _ ?_;refine vw ?_;generalize j:(λ(u:AV) (K:SH)=>u=AV.bool (inB i n)/\K=[])=Q
 repeat' (first|refine sy ?_|refine s2 ?_ ?_|intro)
 all_goals
  subst j;refine⟨?_,rfl⟩;simp_all[inB]<;>omega
theorem wG(l:List Int)(n:Int)(E:l.length<2^62):aq Tryz.prog 28 [.lst (l.map aa),.acU n] (.bool (l.contains n)):=by
 refine HK _ _ _ _ ?_;refine vw ?_;refine eO l (λx=>decide (x=n)) (λi=>[.lst (l.map aa),.acU n,.acU i]) E rfl (λi u G O j B D=>?_) (λi u G j B=>?_)
 all_goals refine vw ?_
 .have N:=aj (f:=aa) u
  repeat' (first|refine sy ?_|refine s2 (λh=>?_) λh=>?_|intro)
  .exact⟨by rw[show l.contains n=true by rw[List.contains_iff_mem,<-of_decide_eq_true h];exact LT u],rfl⟩
  .exact D h
 .repeat' (first|refine sy ?_|refine s2 ?_ ?_|intro)
  exact⟨by rw[show l.contains n=false by rw[Bool.eq_false_iff];intro M;have:=j n (List.contains_iff_mem.1 M);simp at this],rfl⟩
theorem CD(w:aF)(s:SyncD)(E:w.conds.length<2^62):aq Tryz.prog 75 [.agg w.enc,.agg s.enc] (.bool (fitsS w s)):=by
 refine EP _ _ _ _ ?_;refine vw ?_;generalize Z:(λ(u:AV) (K:SH)=>u=AV.bool (fitsS w s)/\K=[])=Q;have hq:∀b,fitsS w s=b->Q (.bool b) []:=λb hb=>by subst Z;exact⟨by rw[hb],rfl⟩
 clear Z
 repeat' (first|refine sy ?_|refine s2 ?_ ?_|intro)
 refine eO w.conds (λc=>!inB c.mutex w.locks.length) (λi=>[.pptr [w.enc] 0 0,.pptr [s.enc] 0 0,.acU i]) E rfl (λi G hd hi D nx hn=>?_) (λi G hd D nx=>?_)
 all_goals refine vw ?_
 .have hx:=aj (f:=cM.enc) G;have j:inB w.conds[i].mutex w.locks.length=false->fitsS w s=false:=λh=>by unfold fitsS;rw[L7 G h,Bool.and_false]
  generalize w.conds[i]=c at *;obtain⟨nm,B⟩:=c;unfold cM.enc at hx;dsimp only at *;by_cases Y:B<0
  .have O:decide (B<0)=true:=decide_eq_true Y
   repeat' (first|refine sy ?_|refine s2 ?_ ?_|intro)
   exact hq _ (j (by simp[inB];omega))
  .have O:decide (B<0)=false:=decide_eq_false Y;by_cases S:B>=w.locks.length
   .have N:decide (B>=(w.locks.length:Int))=true:=decide_eq_true S
    repeat' (first|refine sy ?_|refine s2 ?_ ?_|intro)
    exact hq _ (j (by simp[inB];omega))
   .have N:decide (B>=(w.locks.length:Int))=false:=decide_eq_false S
    repeat' (first|refine sy ?_|refine s2 ?_ ?_|intro)
    exact hn (by simp[inB];omega)
 .have hf:fitsS w s=(decide (s.locks.length=w.locks.length)&&decide (s.done.length=w.futures.length)&&decide (s.threads.length=w.threads.length)):=by unfold fitsS;rw[abh.2 λc E=>by simpa using D c E,Bool.and_true]
  by_cases e1:s.locks.length=w.locks.length
  .have O:decide ((s.locks.length:Int)=w.locks.length)=true:=decide_eq_true acN;by_cases e2:s.done.length=w.futures.length
   .have N:decide ((s.done.length:Int)=w.futures.length)=true:=decide_eq_true acN;by_cases e3:s.threads.length=w.threads.length
    .have M:decide ((s.threads.length:Int)=w.threads.length)=true:=decide_eq_true acN
     repeat' (first|refine sy ?_|refine s2 ?_ ?_|intro)
     exact hq _ (by rw[hf,decide_eq_true e1,decide_eq_true e2,decide_eq_true e3,M];rfl)
    .have M:decide ((s.threads.length:Int)=w.threads.length)=false:=decide_eq_false acN
     repeat' (first|refine sy ?_|refine s2 ?_ ?_|intro)
     exact hq _ (by rw[hf,decide_eq_false e3,Bool.and_false,M])
   .have N:decide ((s.done.length:Int)=w.futures.length)=false:=decide_eq_false acN
    repeat' (first|refine sy ?_|refine s2 ?_ ?_|intro)
    exact hq _ (by rw[hf,decide_eq_false e2,Bool.and_false];rfl)
  .have O:decide ((s.locks.length:Int)=w.locks.length)=false:=decide_eq_false acN
   repeat' (first|refine sy ?_|refine s2 ?_ ?_|intro)
   exact hq _ (by rw[hf,decide_eq_false e1];rfl)
theorem O0(w:aF)(k o:Int):aq Tryz.prog 77 [.agg w.enc,.acU k,.acU o] (.bool (allowedS w k o)):=by
 refine Cx _ _ _ _ _ ?_;refine vw ?_;generalize N:(λ(u:AV) (K:SH)=>u=AV.bool (allowedS w k o)/\K=[])=Q;have hq:∀b,allowedS w k o=b->Q (.bool b) []:=λb Y=>by subst N;exact⟨by rw[Y],rfl⟩
 clear N;by_cases D:6<=k/\k<=11
 .have G:=yo o w.locks.length;cases B:inB o w.locks.length with
  |false=>
   rw[B]at G;rcases(show k=6\/k=7\/k=8\/k=9\/k=10\/k=11 by omega)with rfl|rfl|rfl|rfl|rfl|rfl
   all_goals
    repeat' (first|refine sy ?_|refine s2 ?_ ?_|intro)
    exact hq _ (by simp[allowedS,B])
  |true=>
   rw[B]at G;obtain⟨j,rfl⟩:=abH (dY B);have M:j<w.locks.length:=by have:=(ao.1 B).2;omega
   have O:=aj (f:=bZ.enc) M;have hr:rwAt w (j:Int)=w.locks[j].rw:=by unfold rwAt;rw[abw,acG,mt M,abS]
   generalize w.locks[j]=c at *;obtain⟨nm,r⟩:=c;unfold bZ.enc at O;dsimp only at *;rcases(show k=6\/k=7\/k=8\/k=9\/k=10\/k=11 by omega)with rfl|rfl|rfl|rfl|rfl|rfl
   all_goals
    repeat' (first|refine sy ?_|refine s2 ?_ ?_|intro)
    exact hq _ (by simp[allowedS,B,hr])
 .have hc:=yo o w.cells.length;have hd:=yo o w.conds.length;have ht:=yo o w.threads.length;have hf:=yo o w.futures.length;rcases wF k with E|rfl|rfl|rfl|rfl|rfl|rfl|rfl|rfl|rfl|rfl|rfl|rfl|rfl|rfl|rfl|rfl|rfl|rfl|rfl|rfl|rfl|rfl|rfl
  all_goals try (exfalso;clear hq;omega)
  .have S:=fD (w:=w) (o:=o) E;have e:=λc B Z=>T3 (c:=c) E B Z
   have e1:=e 1 acR acR;have e2:=e 2 acR acR;have e3:=e 3 acR acR;have e4:=e 4 acR acR;have e5:=e 5 acR acR;have e6:=e 6 acR acR;have e7:=e 7 acR acR;have e8:=e 8 acR acR;have e9:=e 9 acR acR;have e10:=e 10 acR acR;have e11:=e 11 acR acR;have e12:=e 12 acR acR;have e13:=e 13 acR acR;have e14:=e 14 acR acR;have e15:=e 15 acR acR;have e16:=e 16 acR acR;have e17:=e 17 acR acR;have e18:=e 18 acR acR;have e19:=e 19 acR acR;have e20:=e 20 acR acR;have e21:=e 21 acR acR;have e22:=e 22 acR acR;have e23:=e 23 acR acR
   clear e E D
   repeat' (first|refine sy ?_|refine s2 ?_ ?_|intro)
   exact hq _ S
  all_goals
   clear D
   repeat' (first|refine sy ?_|refine s2 ?_ ?_|intro)
   exact hq _ rfl
section
variable (w:aF) (s:SyncD) (t k o:Int) (hf:Ar w s) (ht:inB t w.threads.length=true) (hr:∀l∈s.locks,l.readers.length<2^40) (ha:allowedS w k o=true) (Q:R) (hq:∀b,aC w s t k o=b->Q (.bool b) [])
include hf ht hr ha hq
theorem en8:wu Q [] (.acU t) (.acU k) (.acU o) (.pptr [s.enc] 0 0) (.pptr [w.enc] 0 0):=by
  have j:inB t s.threads.length=true:=by rw[hf.threads];exact ht
  have G:(s.threads.map ThrD.enc)[t.toNat]? =some (a8 s t).enc:=cq j;have t0:=dY j;have u : aC w s t k o = (if k = 1 then decide ((a8 s t).status = 1)
     else if k=17 then decide ((a8 s t).status=4)&&decide ((a8 s t).cond=o)&&decide ((aQ s (jI w o)).owner=-1)
     else decide ((a8 s t).status=2)&&df w s t k o):=by
    unfold aC;rw[cH.2 hf,ht,ha];rfl
  unfold df at u;refine vw ?_;by_cases Z:6<=k/\k<=11
  · have j:inB o s.locks.length=true:=by
      rw[hf.locks];rcases(show k=6\/k=7\/k=8\/k=9\/k=10\/k=11 by omega)with rfl|rfl|rfl|rfl|rfl|rfl<;>(simp[allowedS]at ha;exact ha.1)
    have E:(s.locks.map LockD.enc)[o.toNat]? =some (aQ s o).enc:=cq j;have o0:=dY j;have hrd:=J1 hr o;clear j ha hr hf ht;rcases(show k=6\/k=7\/k=8\/k=9\/k=10\/k=11 by omega)with rfl|rfl|rfl|rfl|rfl|rfl
    all_goals
      simp only[Int.reduceEq,if_true,if_false,reduceIte,or_false,or_true,false_or,true_or,or_self]at u;generalize a8 s t=th at *;generalize aQ s o=ll at *;obtain⟨B,D,at_⟩:=th;obtain⟨ow,rd⟩:=ll;unfold ThrD.enc at G;unfold LockD.enc at E;dsimp only at *;have hc:=wG rd t hrd;generalize rd.contains t=hcb at *
      repeat' (first|refine sy ?_|refine s2 ?_ ?_|intro)
      all_goals first
        |exact hq _ u
        |exact hq _ (u.trans (by simp_all))
  by_cases S:k=16\/k=17\/k=18\/k=19
  · have j:inB o w.conds.length=true:=by rcases S with rfl|rfl|rfl|rfl<;>simpa[allowedS]using ha
    have hm:=Gf hf j;have E:=cq (f:=cM.enc) j;have o0:=dY j;have m0:=dY hm;have M:(s.locks.map LockD.enc)[(jI w o).toNat]? =some (aQ s (jI w o)).enc:=cq hm;clear j hm ha hr hf ht Z;generalize aQ s (jI w o)=ll at *;have O:jI w o=(w.conds.getD o.toNat default).mutex:=rfl;rw[O]at M m0;generalize w.conds.getD o.toNat default=c at *;clear O;obtain⟨nm,mx⟩:=c;obtain⟨ow,rd⟩:=ll;generalize a8 s t=th at *;obtain⟨B,D,at_⟩:=th;unfold ThrD.enc at G;unfold LockD.enc at M;unfold cM.enc at E;rcases S with rfl|rfl|rfl|rfl
    all_goals
      simp only[Int.reduceEq,if_true,if_false,reduceIte,or_false,or_true,false_or,true_or,or_self]at u;dsimp only at *
      repeat' (first|refine sy ?_|refine s2 ?_ ?_|intro)
      all_goals first
        |exact hq _ u
        |exact hq _ (u.trans (by simp_all))
  by_cases Y:k=20\/k=21
  · have j:inB o s.threads.length=true:=by rw[hf.threads];rcases Y with rfl|rfl<;>simpa[allowedS]using ha
    have E:(s.threads.map ThrD.enc)[o.toNat]? =some (a8 s o).enc:=cq j;have o0:=dY j;clear j ha hr hf ht Z S;rcases Y with rfl|rfl
    all_goals
      simp only[Int.reduceEq,if_true,if_false,reduceIte,or_false,or_true,false_or,true_or,or_self]at u;by_cases N:o=t
      · subst N
        have d:decide (o≠o)=false:=by simp
        rw[d,Bool.false_and,Bool.and_false]at u;generalize a8 s o=th at *;obtain⟨B,D,at_⟩:=th;unfold ThrD.enc at G
        repeat' (first|refine sy ?_|refine s2 ?_ ?_|intro)
        all_goals exact hq _ u
      · have d:decide (o≠t)=true:=decide_eq_true N
        rw[d,Bool.true_and]at u;generalize a8 s t=th at *;generalize a8 s o=ll at *;obtain⟨B,D,at_⟩:=th;obtain⟨st2,cd2,at2⟩:=ll;unfold ThrD.enc at G E;dsimp only at *
        repeat' (first|refine sy ?_|refine s2 ?_ ?_|intro)
        all_goals first
          |exact hq _ u
          |exact hq _ (u.trans (by simp_all))
  by_cases h4:k=22\/k=23
  · have j:inB o s.done.length=true:=by rw[hf.done];rcases h4 with rfl|rfl<;>simpa[allowedS]using ha
    have E:(s.done.map au)[o.toNat]? =some (au (qH s o)):=cq j;have o0:=dY j;clear j ha hr hf ht Z S Y;rcases h4 with rfl|rfl
    all_goals
      simp only[Int.reduceEq,if_true,if_false,reduceIte,or_false,or_true,false_or,true_or,or_self]at u;generalize a8 s t=th at *;generalize qH s o=ll at *;obtain⟨B,D,at_⟩:=th;unfold ThrD.enc at G;unfold au at E;dsimp only at *
      repeat' (first|refine sy ?_|refine s2 ?_ ?_|intro)
      all_goals first
        |exact hq _ u
        |exact hq _ (u.trans (by simp_all))
  rcases wF k with hk|rfl|rfl|rfl|rfl|rfl|rfl|rfl|rfl|rfl|rfl|rfl|rfl|rfl|rfl|rfl|rfl|rfl|rfl|rfl|rfl|rfl|rfl|rfl
  all_goals try (exfalso;clear hq u;omega)
  · rw[fD hk]at ha;cases ha
  all_goals
    clear ha hr hf ht Z S Y h4 j;simp only[Int.reduceEq,if_true,if_false,reduceIte,or_false,or_true,false_or,true_or,or_self]at u;generalize a8 s t=th at *;obtain⟨B,D,at_⟩:=th;unfold ThrD.enc at G;dsimp only at *
    repeat' (first|refine sy ?_|refine s2 ?_ ?_|intro)
    all_goals first
      |exact hq _ u
      |exact hq _ (u.trans (by simp_all))
end
theorem qI(w:aF)(s:SyncD)(t k o:Int)(E:w.conds.length<2^62)(hr:∀l∈s.locks,l.readers.length<2^40):aq Tryz.prog 47 [.agg w.enc,.agg s.enc,.acU t,.acU k,.acU o] (.bool (aC w s t k o)):=by
 refine yf _ _ _ _ _ _ _ ?_;refine vw ?_;generalize G:(λ(u:AV) (K:SH)=>u=AV.bool (aC w s t k o)/\K=[])=Q;have hq:∀b,aC w s t k o=b->Q (.bool b) []:=λb S=>by subst G;exact⟨by rw[S],rfl⟩
 clear G;have O:=CD w s E;have N:=yo t w.threads.length;have M:=O0 w k o;cases D:fitsS w s with
 |false=>
  rw[D]at O
  repeat' (first|refine sy ?_|refine s2 ?_ ?_|intro)
  exact hq _ (by simp[aC,D])
 |true=>
  rw[D]at O;cases B:inB t w.threads.length with
  |false=>
   rw[B]at N
   repeat' (first|refine sy ?_|refine s2 ?_ ?_|intro)
   exact hq _ (by simp[aC,B])
  |true=>
   rw[B]at N;cases j:allowedS w k o with
   |false=>
    rw[j]at M
    repeat' (first|refine sy ?_|refine s2 ?_ ?_|intro)
    exact hq _ (by simp[aC,j])
   |true=>
    rw[j]at M;have z:=en8 w s t k o (cH.1 D) B hr j Q hq
    repeat' (first|with_reducible exact z|refine sy ?_|refine s2 ?_ ?_|intro)
end
