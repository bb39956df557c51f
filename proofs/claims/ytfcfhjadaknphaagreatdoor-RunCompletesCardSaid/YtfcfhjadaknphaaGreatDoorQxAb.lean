/- part -/
import Derived.Test.YtfcfhjadaknphaaGreatDoorQxAa
set_option linter.all false
set_option maxRecDepth 100000
set_option maxHeartbeats 0
namespace Go.Proofs.YtfcfhjadaknphaaGreatDoor.Am
section
theorem xh(i:Int)(n:Nat):ao Tryz.prog 128 [.YJ i,.YJ n] (.bool (inB i n)):=by
 refine Hv _ _ _ _ ?_;refine vw ?_;generalize j:(λ(u:AV) (K:SH)=>u=AV.bool (inB i n)/\K=[])=Q
 repeat' (first|refine sy ?_|refine s2 ?_ ?_|intro)
 all_goals
  subst j;refine⟨?_,rfl⟩;simp_all[inB]<;>omega
theorem Kv(l:List Int)(n:Int)(E:l.length<2^62):ao Tryz.prog 130 [.lst (l.map ah),.YJ n] (.bool (l.contains n)):=by
 refine Fj _ _ _ _ ?_;refine vw ?_;refine cF l (λx=>decide (x=n)) (λi=>[.lst (l.map ah),.YJ n,.YJ i]) E rfl (λi u G S j B D=>?_) (λi u G j B=>?_)
 all_goals refine vw ?_
 .have O:=aq (f:=ah) u
  repeat' (first|refine sy ?_|refine s2 (λh=>?_) λh=>?_|intro)
  .exact⟨by rw[show l.contains n=true by rw[List.contains_iff_mem,<-of_decide_eq_true h];exact WN u],rfl⟩
  .exact D h
 .repeat' (first|refine sy ?_|refine s2 ?_ ?_|intro)
  exact⟨by rw[show l.contains n=false by rw[Bool.eq_false_iff];intro M;have:=j n (List.contains_iff_mem.1 M);simp at this],rfl⟩
theorem Hy(w:aK)(s:SyncD)(E:w.conds.length<2^62):ao Tryz.prog 127 [.agg w.enc,.agg s.enc] (.bool (fitsS w s)):=by
 refine CZ _ _ _ _ ?_;refine vw ?_;generalize hQ:(λ(u:AV) (K:SH)=>u=AV.bool (fitsS w s)/\K=[])=Q;have hq:∀b,fitsS w s=b->Q (.bool b) []:=λb hb=>by subst hQ;exact⟨by rw[hb],rfl⟩
 clear hQ
 repeat' (first|refine sy ?_|refine s2 ?_ ?_|intro)
 refine cF w.conds (λc=>!inB c.mutex w.locks.length) (λi=>[.pptr [w.enc] 0 0,.pptr [s.enc] 0 0,.YJ i]) E rfl (λi G hd hi D nx hn=>?_) (λi G hd D nx=>?_)
 all_goals refine vw ?_
 .have hx:=aq (f:=bO.enc) G;have j:inB w.conds[i].mutex w.locks.length=false->fitsS w s=false:=λh=>by unfold fitsS;rw[pL G h,Yt]
  generalize w.conds[i]=c at *;obtain⟨nm,B⟩:=c;unfold bO.enc at hx;dsimp only at *;by_cases Z:B<0
  .have S:decide (B<0)=true:=decide_eq_true Z
   repeat' (first|refine sy ?_|refine s2 ?_ ?_|intro)
   exact hq _ (j (by simp[inB];omega))
  .have S:decide (B<0)=false:=decide_eq_false Z;by_cases Y:B>=w.locks.length
   .have O:decide (B>=(w.locks.length:Int))=true:=decide_eq_true Y
    repeat' (first|refine sy ?_|refine s2 ?_ ?_|intro)
    exact hq _ (j (by simp[inB];omega))
   .have O:decide (B>=(w.locks.length:Int))=false:=decide_eq_false Y
    repeat' (first|refine sy ?_|refine s2 ?_ ?_|intro)
    exact hn (by simp[inB];omega)
 .have hf:fitsS w s=(decide (s.locks.length=w.locks.length)&&decide (s.done.length=w.futures.length)&&decide (s.threads.length=w.threads.length)):=by unfold fitsS;rw[W2.2 λc E=>by simpa using D c E,Yy]
  by_cases e1:s.locks.length=w.locks.length
  .have S:decide ((s.locks.length:Int)=w.locks.length)=true:=decide_eq_true YC;by_cases e2:s.done.length=w.futures.length
   .have O:decide ((s.done.length:Int)=w.futures.length)=true:=decide_eq_true YC;by_cases e3:s.threads.length=w.threads.length
    .have M:decide ((s.threads.length:Int)=w.threads.length)=true:=decide_eq_true YC
     repeat' (first|refine sy ?_|refine s2 ?_ ?_|intro)
     exact hq _ (by rw[hf,decide_eq_true e1,decide_eq_true e2,decide_eq_true e3,M];rfl)
    .have M:decide ((s.threads.length:Int)=w.threads.length)=false:=decide_eq_false YC
     repeat' (first|refine sy ?_|refine s2 ?_ ?_|intro)
     exact hq _ (by rw[hf,decide_eq_false e3,Yt,M])
   .have O:decide ((s.done.length:Int)=w.futures.length)=false:=decide_eq_false YC
    repeat' (first|refine sy ?_|refine s2 ?_ ?_|intro)
    exact hq _ (by rw[hf,decide_eq_false e2,Yt];rfl)
  .have S:decide ((s.locks.length:Int)=w.locks.length)=false:=decide_eq_false YC
   repeat' (first|refine sy ?_|refine s2 ?_ ?_|intro)
   exact hq _ (by rw[hf,decide_eq_false e1];rfl)
theorem LA(w:aK)(k o:Int):ao Tryz.prog 129 [.agg w.enc,.YJ k,.YJ o] (.bool (allowedS w k o)):=by
 refine Bm _ _ _ _ _ ?_;refine vw ?_;generalize O:(λ(u:AV) (K:SH)=>u=AV.bool (allowedS w k o)/\K=[])=Q;have hq:∀b,allowedS w k o=b->Q (.bool b) []:=λb Z=>by subst O;exact⟨by rw[Z],rfl⟩
 clear O;by_cases D:6<=k/\k<=11
 .have G:=xh o w.locks.length;cases B:inB o w.locks.length with
  |false=>
   rw[B]at G;rcases(show k=6\/k=7\/k=8\/k=9\/k=10\/k=11 by omega)with rfl|rfl|rfl|rfl|rfl|rfl
   all_goals
    repeat' (first|refine sy ?_|refine s2 ?_ ?_|intro)
    exact hq _ (by simp[allowedS,B])
  |true=>
   rw[B]at G;obtain⟨j,rfl⟩:=Xg (cT B);have M:j<w.locks.length:=by have:=(aw.1 B).2;omega
   have S:=aq (f:=bv.enc) M;have hr:rwAt w (j:Int)=w.locks[j].rw:=by unfold rwAt;rw[Xx,XP,mt M,XU]
   generalize w.locks[j]=c at *;obtain⟨nm,r⟩:=c;unfold bv.enc at S;dsimp only at *;rcases(show k=6\/k=7\/k=8\/k=9\/k=10\/k=11 by omega)with rfl|rfl|rfl|rfl|rfl|rfl
   all_goals
    repeat' (first|refine sy ?_|refine s2 ?_ ?_|intro)
    exact hq _ (by simp[allowedS,B,hr])
 .have hc:=xh o w.cells.length;have hd:=xh o w.conds.length;have ht:=xh o w.threads.length;have hf:=xh o w.futures.length;rcases kinds k with E|rfl|rfl|rfl|rfl|rfl|rfl|rfl|rfl|rfl|rfl|rfl|rfl|rfl|rfl|rfl|rfl|rfl|rfl|rfl|rfl|rfl|rfl|rfl
  all_goals try (exfalso;clear hq;omega)
  .have Y:=fZ (w:=w) (o:=o) E;have e:=λc B h2=>PS (c:=c) E B h2
   have e1:=e 1 YG YG;have e2:=e 2 YG YG;have e3:=e 3 YG YG;have e4:=e 4 YG YG;have e5:=e 5 YG YG;have e6:=e 6 YG YG;have e7:=e 7 YG YG;have e8:=e 8 YG YG;have e9:=e 9 YG YG;have e10:=e 10 YG YG;have e11:=e 11 YG YG;have e12:=e 12 YG YG;have e13:=e 13 YG YG;have e14:=e 14 YG YG;have e15:=e 15 YG YG;have e16:=e 16 YG YG;have e17:=e 17 YG YG;have e18:=e 18 YG YG;have e19:=e 19 YG YG;have e20:=e 20 YG YG;have e21:=e 21 YG YG;have e22:=e 22 YG YG;have e23:=e 23 YG YG
   clear e E D
   repeat' (first|refine sy ?_|refine s2 ?_ ?_|intro)
   exact hq _ Y
  all_goals
   clear D
   repeat' (first|refine sy ?_|refine s2 ?_ ?_|intro)
   exact hq _ rfl
section
variable (w:aK) (s:SyncD) (t k o:Int) (hf:yE w s) (ht:inB t w.threads.length=true) (hr:∀l∈s.locks,l.readers.length<2^40) (ha:allowedS w k o=true) (Q:R) (hq:∀b,aI w s t k o=b->Q (.bool b) [])
include hf ht hr ha hq
theorem WH:vm Q [] (.YJ t) (.YJ k) (.YJ o) (.pptr [s.enc] 0 0) (.pptr [w.enc] 0 0):=by
  have j:inB t s.threads.length=true:=by rw[hf.threads];exact ht
  have G:(s.threads.map ThrD.enc)[t.toNat]? =some (a7 s t).enc:=co j;have t0:=cT j;have u : aI w s t k o = (if k = 1 then decide ((a7 s t).status = 1)
     else if k=17 then decide ((a7 s t).status=4)&&decide ((a7 s t).cond=o)&&decide ((aP s (jC w o)).owner=-1)
     else decide ((a7 s t).status=2)&&c9 w s t k o):=by
    unfold aI;rw[fE.2 hf,ht,ha];rfl
  unfold c9 at u;refine vw ?_;by_cases h1:6<=k/\k<=11
  · have j:inB o s.locks.length=true:=by
      rw[hf.locks];rcases(show k=6\/k=7\/k=8\/k=9\/k=10\/k=11 by omega)with rfl|rfl|rfl|rfl|rfl|rfl<;>(simp[allowedS]at ha;exact ha.1)
    have E:(s.locks.map LockD.enc)[o.toNat]? =some (aP s o).enc:=co j;have o0:=cT j;have hrd:=GQ hr o;clear j ha hr hf ht;rcases(show k=6\/k=7\/k=8\/k=9\/k=10\/k=11 by omega)with rfl|rfl|rfl|rfl|rfl|rfl
    all_goals
      simp only[Int.reduceEq,if_true,if_false,reduceIte,or_false,or_true,false_or,true_or,or_self]at u;generalize a7 s t=th at *;generalize aP s o=ll at *;obtain⟨B,D,at_⟩:=th;obtain⟨ow,rd⟩:=ll;unfold ThrD.enc at G;unfold LockD.enc at E;dsimp only at *;have hc:=Kv rd t hrd;generalize rd.contains t=hcb at *
      repeat' (first|refine sy ?_|refine s2 ?_ ?_|intro)
      all_goals first
        |exact hq _ u
        |exact hq _ (u.trans (by simp_all))
  by_cases Y:k=16\/k=17\/k=18\/k=19
  · have j:inB o w.conds.length=true:=by rcases Y with rfl|rfl|rfl|rfl<;>simpa[allowedS]using ha
    have hm:=DK hf j;have E:=co (f:=bO.enc) j;have o0:=cT j;have m0:=cT hm;have M:(s.locks.map LockD.enc)[(jC w o).toNat]? =some (aP s (jC w o)).enc:=co hm;clear j hm ha hr hf ht h1;generalize aP s (jC w o)=ll at *;have S:jC w o=(w.conds.getD o.toNat default).mutex:=rfl;rw[S]at M m0;generalize w.conds.getD o.toNat default=c at *;clear S;obtain⟨nm,mx⟩:=c;obtain⟨ow,rd⟩:=ll;generalize a7 s t=th at *;obtain⟨B,D,at_⟩:=th;unfold ThrD.enc at G;unfold LockD.enc at M;unfold bO.enc at E;rcases Y with rfl|rfl|rfl|rfl
    all_goals
      simp only[Int.reduceEq,if_true,if_false,reduceIte,or_false,or_true,false_or,true_or,or_self]at u;dsimp only at *
      repeat' (first|refine sy ?_|refine s2 ?_ ?_|intro)
      all_goals first
        |exact hq _ u
        |exact hq _ (u.trans (by simp_all))
  by_cases Z:k=20\/k=21
  · have j:inB o s.threads.length=true:=by rw[hf.threads];rcases Z with rfl|rfl<;>simpa[allowedS]using ha
    have E:(s.threads.map ThrD.enc)[o.toNat]? =some (a7 s o).enc:=co j;have o0:=cT j;clear j ha hr hf ht h1 Y;rcases Z with rfl|rfl
    all_goals
      simp only[Int.reduceEq,if_true,if_false,reduceIte,or_false,or_true,false_or,true_or,or_self]at u;by_cases O:o=t
      · subst O
        have d:decide (o≠o)=false:=by simp
        rw[d,Yb,Yt]at u;generalize a7 s o=th at *;obtain⟨B,D,at_⟩:=th;unfold ThrD.enc at G
        repeat' (first|refine sy ?_|refine s2 ?_ ?_|intro)
        all_goals exact hq _ u
      · have d:decide (o≠t)=true:=decide_eq_true O
        rw[d,Bool.true_and]at u;generalize a7 s t=th at *;generalize a7 s o=ll at *;obtain⟨B,D,at_⟩:=th;obtain⟨st2,cd2,at2⟩:=ll;unfold ThrD.enc at G E;dsimp only at *
        repeat' (first|refine sy ?_|refine s2 ?_ ?_|intro)
        all_goals first
          |exact hq _ u
          |exact hq _ (u.trans (by simp_all))
  by_cases h4:k=22\/k=23
  · have j:inB o s.done.length=true:=by rw[hf.done];rcases h4 with rfl|rfl<;>simpa[allowedS]using ha
    have E:(s.done.map aD)[o.toNat]? =some (aD (pN s o)):=co j;have o0:=cT j;clear j ha hr hf ht h1 Y Z;rcases h4 with rfl|rfl
    all_goals
      simp only[Int.reduceEq,if_true,if_false,reduceIte,or_false,or_true,false_or,true_or,or_self]at u;generalize a7 s t=th at *;generalize pN s o=ll at *;obtain⟨B,D,at_⟩:=th;unfold ThrD.enc at G;unfold aD at E;dsimp only at *
      repeat' (first|refine sy ?_|refine s2 ?_ ?_|intro)
      all_goals first
        |exact hq _ u
        |exact hq _ (u.trans (by simp_all))
  rcases kinds k with hk|rfl|rfl|rfl|rfl|rfl|rfl|rfl|rfl|rfl|rfl|rfl|rfl|rfl|rfl|rfl|rfl|rfl|rfl|rfl|rfl|rfl|rfl|rfl
  all_goals try (exfalso;clear hq u;omega)
  · rw[fZ hk]at ha;cases ha
  all_goals
    clear ha hr hf ht h1 Y Z h4 j;simp only[Int.reduceEq,if_true,if_false,reduceIte,or_false,or_true,false_or,true_or,or_self]at u;generalize a7 s t=th at *;obtain⟨B,D,at_⟩:=th;unfold ThrD.enc at G;dsimp only at *
    repeat' (first|refine sy ?_|refine s2 ?_ ?_|intro)
    all_goals first
      |exact hq _ u
      |exact hq _ (u.trans (by simp_all))
end
theorem yb(w:aK)(s:SyncD)(t k o:Int)(E:w.conds.length<2^62)(hr:∀l∈s.locks,l.readers.length<2^40):ao Tryz.prog 78 [.agg w.enc,.agg s.enc,.YJ t,.YJ k,.YJ o] (.bool (aI w s t k o)):=by
 refine xe _ _ _ _ _ _ _ ?_;refine vw ?_;generalize G:(λ(u:AV) (K:SH)=>u=AV.bool (aI w s t k o)/\K=[])=Q;have hq:∀b,aI w s t k o=b->Q (.bool b) []:=λb Y=>by subst G;exact⟨by rw[Y],rfl⟩
 clear G;have S:=Hy w s E;have O:=xh t w.threads.length;have M:=LA w k o;cases D:fitsS w s with
 |false=>
  rw[D]at S
  repeat' (first|refine sy ?_|refine s2 ?_ ?_|intro)
  exact hq _ (by simp[aI,D])
 |true=>
  rw[D]at S;cases B:inB t w.threads.length with
  |false=>
   rw[B]at O
   repeat' (first|refine sy ?_|refine s2 ?_ ?_|intro)
   exact hq _ (by simp[aI,B])
  |true=>
   rw[B]at O;cases j:allowedS w k o with
   |false=>
    rw[j]at M
    repeat' (first|refine sy ?_|refine s2 ?_ ?_|intro)
    exact hq _ (by simp[aI,j])
   |true=>
    rw[j]at M;have z:=WH w s t k o (fE.1 D) B hr j Q hq
    repeat' (first|with_reducible exact z|refine sy ?_|refine s2 ?_ ?_|intro)
end
