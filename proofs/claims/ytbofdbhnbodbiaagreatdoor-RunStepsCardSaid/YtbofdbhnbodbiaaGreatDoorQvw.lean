/- A part of the proof; the statement is proved in the last part. -/
import Derived.Test.YtbofdbhnbodbiaaGreatDoorQvv
set_option linter.all false
set_option maxRecDepth 100000
set_option maxHeartbeats 20000000
namespace Go.Proofs.YtbofdbhnbodbiaaGreatDoor.Am
def lm(i:Int)(n:Nat):aq Tryz.prog 111 [.Uf i,.Uf n] (.bool (inB i n)):=by
 refine EE _ _ _ _ ?_;refine vw ?_;generalize D:(λ(u:AV) (K:SH)=>u=AV.bool (inB i n)/\K=[])=Q
 repeat' (first|refine st ?_|refine sb λB j=>?_|refine s2 (λh=>?_) λh=>?_|fail)
 all_goals
  subst D;refine⟨?_,rfl⟩;simp_all[inB]<;>omega
def F6(op:Int):aq Tryz.prog 83 [.Uf op] (.bool (mP op)):=by
 refine mD _ _ _ ?_;refine vw ?_;generalize D:(λ(u:AV) (K:SH)=>u=AV.bool (mP op)/\K=[])=Q
 repeat' (first|refine st ?_|refine sb λB j=>?_|refine s2 (λh=>?_) λh=>?_|fail)
 all_goals
  subst D;refine⟨?_,rfl⟩;simp_all[mP]<;>omega
def Kx(w:aI)(i n:Int):aq Tryz.prog 156 [.agg w.enc,.Uf i,.Uf n] (.bool (wh w i n)):=by
 have D:=lm i w.cells.length;refine zk _ _ _ _ _ ?_;refine vw ?_;generalize N:(λ(u:AV) (K:SH)=>u=AV.bool (wh w i n)/\K=[])=Q;have M:∀b,wh w i n=b->Q (.bool b) []:=λb O=>by subst N;exact⟨by rw[O],rfl⟩
 clear N;cases B:inB i w.cells.length with
 |false=>
  rw[B]at D
  repeat' (first|refine st ?_|(refine pf 111 ?_;refine pm (D) ?_)|refine sb λE j=>?_|refine s2 (λh=>?_) λh=>?_|fail)
  exact M _ (by simp[wh,B])
 |true=>
  rw[B]at D;have G:=bQ (f:=aH.enc) B;obtain⟨k,rfl⟩:=SZ (cG B);unfold aH.enc at G;rw[Td]at G
  repeat' (first|refine st ?_|(refine pf 111 ?_;refine pm (D) ?_)|refine sb λE j=>?_|refine s2 (λh=>?_) λh=>?_|fail)
  all_goals exact M _ (by simp_all[wh])
def F7(w:aI)(i:aS):aq Tryz.prog 109 [.agg w.enc,.agg i.enc] (.bool (j9 w i)):=by
 obtain⟨op,G,ib,ic,m,M⟩:=i;refine uJ _ _ _ _ ?_;refine vw ?_;generalize hQ:(λ(u:AV) (K:SH)=>u=AV.bool (j9 w ⟨op,G,ib,ic,m,M⟩)/\K=[])=Q;have O:∀b:Bool,j9 w ⟨op,G,ib,ic,m,M⟩=b->Q (.bool b) []:=λb hb=>by subst hb;subst hQ;exact⟨rfl,rfl⟩
 clear hQ;have hlk:∀rw,(op=11\/op=12)/\rw=false\/(op=13\/op=14\/op=15\/op=16)/\rw=true->j9 w ⟨op,G,ib,ic,m,M⟩=jw w G rw:=λrw h=>by
  rcases h with⟨h,rfl⟩|⟨h,rfl⟩
  .rcases h with rfl|rfl<;>rfl
  .rcases h with rfl|rfl|rfl|rfl<;>rfl
 have hlr:∀rw (k:Nat) (h:k<w.locks.length),G=(k:Int)->jw w G rw=(w.locks[k].rw==rw):=λrw k h e=>by subst e;have hb:inB (k:Int) w.locks.length=true:=av.2 ⟨Ua,Ua⟩;unfold jw;rw[hb,Td,Tz,mt h];rfl
 by_cases h6:op=6
 .subst h6;have D:=lm ib w.cells.length;cases B:inB ib w.cells.length with
  |false=>
   rw[B]at D
   repeat' (first|refine st ?_|(refine pf 111 ?_;refine pm (D) ?_)|refine sb λE j=>?_|refine s2 (λh=>?_) λh=>?_|fail)
   all_goals exact O _ (by simp[j9,vn,B])
  |true=>
   rw[B]at D;have S:=bQ (f:=aH.enc) B;obtain⟨k,rfl⟩:=SZ (cG B);unfold aH.enc at S;rw[Td]at S
   repeat' (first|refine st ?_|(refine pf 111 ?_;refine pm (D) ?_)|refine sb λE j=>?_|refine s2 (λh=>?_) λh=>?_|fail)
   all_goals exact O _ (by simp_all[j9,vn])
 by_cases h8:op=8
 .subst h8;have D:=lm G w.cells.length;cases B:inB G w.cells.length with
  |false=>
   rw[B]at D
   repeat' (first|refine st ?_|(refine pf 111 ?_;refine pm (D) ?_)|refine sb λE j=>?_|refine s2 (λh=>?_) λh=>?_|fail)
   all_goals exact O _ (by simp[j9,vn,B])
  |true=>
   rw[B]at D;have S:=bQ (f:=aH.enc) B;obtain⟨k,rfl⟩:=SZ (cG B);unfold aH.enc at S;rw[Td]at S
   repeat' (first|refine st ?_|(refine pf 111 ?_;refine pm (D) ?_)|refine sb λE j=>?_|refine s2 (λh=>?_) λh=>?_|fail)
   all_goals exact O _ (by simp_all[j9,vn])
 have e6:decide (op=6)=false:=decide_eq_false h6;have e8:decide (op=8)=false:=decide_eq_false h8;by_cases hl:op=11\/op=12
 .have N:=hlk false (.inl ⟨hl,rfl⟩);have D:=lm G w.locks.length;cases B:inB G w.locks.length with
  |false=>
   rw[B]at D;have Y:jw w G false=false:=by simp[jw,B]
   rw[Y]at N;rcases hl with rfl|rfl
   all_goals
    repeat' (first|refine st ?_|(refine pf 111 ?_;refine pm (D) ?_)|refine sb λE j=>?_|refine s2 (λh=>?_) λh=>?_|fail)
    all_goals exact O _ N
  |true=>
   rw[B]at D;obtain⟨k,rfl⟩:=SZ (cG B);have hk:k<w.locks.length:=by have:=(av.1 B).2;omega
   have S:=ao (f:=bC.enc) hk;have Y:=hlr false k hk rfl;rw[Y]at N;generalize w.locks[k]=c at *;obtain⟨nm,r⟩:=c;unfold bC.enc at S;dsimp only at *;have ho':(!r)=(r==false):=by cases r<;>rfl
   rw[<-ho']at N;rcases hl with rfl|rfl
   all_goals
    repeat' (first|refine st ?_|(refine pf 111 ?_;refine pm (D) ?_)|refine sb λE j=>?_|refine s2 (λh=>?_) λh=>?_|fail)
    all_goals exact O _ N
 by_cases Z:op=13\/op=14\/op=15\/op=16
 .have N:=hlk true (.inr ⟨Z,rfl⟩);have D:=lm G w.locks.length;cases B:inB G w.locks.length with
  |false=>
   rw[B]at D;have Y:jw w G true=false:=by simp[jw,B]
   rw[Y]at N;rcases Z with rfl|rfl|rfl|rfl
   all_goals
    repeat' (first|refine st ?_|(refine pf 111 ?_;refine pm (D) ?_)|refine sb λE j=>?_|refine s2 (λh=>?_) λh=>?_|fail)
    all_goals exact O _ N
  |true=>
   rw[B]at D;obtain⟨k,rfl⟩:=SZ (cG B);have hk:k<w.locks.length:=by have:=(av.1 B).2;omega
   have S:=ao (f:=bC.enc) hk;have Y:=hlr true k hk rfl;rw[Y]at N;generalize w.locks[k]=c at *;obtain⟨nm,r⟩:=c;unfold bC.enc at S;dsimp only at *;have ho':r=(r==true):=by cases r<;>rfl
   rw[<-ho']at N;rcases Z with rfl|rfl|rfl|rfl
   all_goals
    repeat' (first|refine st ?_|(refine pf 111 ?_;refine pm (D) ?_)|refine sb λE j=>?_|refine s2 (λh=>?_) λh=>?_|fail)
    all_goals exact O _ N
 have e11:decide (op=11)=false:=decide_eq_false λh=>hl (.inl h)
 have e12:decide (op=12)=false:=decide_eq_false λh=>hl (.inr h)
 have e13:decide (op=13)=false:=decide_eq_false λh=>Z (.inl h)
 have e14:decide (op=14)=false:=decide_eq_false λh=>Z (.inr (.inl h))
 have e15:decide (op=15)=false:=decide_eq_false λh=>Z (.inr (.inr (.inl h)))
 have e16:decide (op=16)=false:=decide_eq_false λh=>Z (.inr (.inr (.inr h)))
 have hc:=lm G w.conds.length;have ht:=lm G w.threads.length;have hf:=lm G w.futures.length;have hg:=lm ib w.futures.length;have ha:=Kx w;clear hlk hlr
 repeat' (first|refine st ?_|(refine pf 111 ?_;refine pm (hc) ?_)|(refine pf 111 ?_;refine pm (ht) ?_)|(refine pf 111 ?_;refine pm (hf) ?_)|(refine pf 111 ?_;refine pm (hg) ?_)|(refine pf 156 ?_;refine pm (ha _ _) ?_)|refine sb λE j=>?_|refine s2 (λh=>?_) λh=>?_|fail)
 all_goals
  refine O _ ?_;clear O hc ht hf hg ha e6 e8 e11 e12 e13 e14 e15 e16;simp only[decide_eq_true_eq,decide_eq_false_iff_not]at *;unfold j9
  first
   |(subst_vars;rfl)
   |(subst_vars;simp;done)
   |(simp_all;done)
   |(subst_vars;simp;omega)
def Ky(B:List aS)(k:Nat)(hl:B.length<2^48):aq Tryz.prog 110 [.lst (B.map aS.enc),.Uf (k:Int)] (.bool (gx (gg B k))):=by
 refine zl _ _ _ _ ?_;refine vw ?_;generalize hQ:(λ(u:AV) (K:SH)=>u=AV.bool (gx (gg B k))/\K=[])=Q;have hq:∀b,gx (gg B k)=b->Q (.bool b) []:=λb hb=>by subst hQ;exact⟨by rw[hb],rfl⟩
 clear hQ;refine uq (α:=Nat×Int) (λa=>([.lst (B.map aS.enc),.Uf a.2,.Uf (a.1:Int)],[])) (λa=>B.length+1-a.1) (λa=>a.1<=B.length+1/\(∀m,tG B k m->a.1<=m/\∃j:Nat,a.2=(j:Int)/\tG B j (m-a.1))/\∀(j m:Nat),a.2=(j:Int)->tG B j m->gg B k) (0,(k:Int)) ⟨SL _,λm h=>⟨SL _,k,rfl,h⟩,λj m e h=>by
  have:j=k:=by have:(k:Int)=(j:Int):=e;omega
  subst this;exact⟨m,h⟩⟩ rfl rfl ?_
 rintro⟨n,t⟩ ⟨hn,hA,hB⟩ nx hnx;refine vw ?_;dsimp only at *;by_cases h:n<=B.length
 .have d1:decide ((n:Int)<=(B.length:Int))=true:=decide_eq_true Ua;have hw1:IntKind.i64.wrap ((n:Int)+1)=((n+1:Nat):Int):=by rw[Te _ Ua];omega
  by_cases hr:0<=t/\t<B.length
  .obtain⟨j,rfl⟩:=SZ hr.1;have hj:j<B.length:=by omega
   have hx:=ao (f:=aS.enc) hj;have M:B[j]? =some B[j]:=mt hj;have d2:decide ((j:Int)<0)=false:=decide_eq_false Ua;have d3:decide ((j:Int)>=(B.length:Int))=false:=decide_eq_false Ua;have hw2:IntKind.i64.wrap ((j:Int)+1)=((j+1:Nat):Int):=ax hj Ua;have N:=F6 B[j].op;generalize B[j]=i at *;have hsl:mP i.op=true↔i.sil:=by unfold mP aS.sil;simp
   cases hb:mP i.op with
   |false=>
    rw[hb]at N;have hl:gg B k:=hB j 0 rfl (.ev j i M λh=>by rw[hsl.2 h]at hb;cases hb);obtain⟨op,ia,ib,ic,m,site⟩:=i;unfold aS.enc at hx;dsimp only at *
    repeat' (first|refine st ?_|(refine pf 83 ?_;refine pm (N) ?_)|refine sb λO G=>?_|refine s2 (λh=>?_) λh=>?_|fail)
    all_goals exact hq _ (eC hl)
   |true=>
    rw[hb]at N;have hs:=hsl.1 hb;have hgo:∀t':Int,(i.op=5->t'=i.a)->(i.op≠5->t'=((j+1:Nat):Int))->nx [.lst (B.map aS.enc),.Uf t',.Uf ((n+1:Nat):Int)] []:=λt' h5 hn5=>hnx (n+1,t') ⟨by dsimp only;omega,λm Y=>by
      obtain⟨h1,j2,e2,h2⟩:=hA m Y;obtain rfl:j=j2:=by omega
      dsimp only;generalize hd:m-n=d at h2;cases h2 with
      |ev _ i' E hs'=>rw[M]at E;cases E;exact absurd hs hs'
      |go _ d' i' E hs' h5' Z=>rw[M]at E;cases E;exact⟨Ua,j+1,hn5 h5',by rw[show m-(n+1)=d' by omega];exact Z⟩
      |jump _ d' j' i' E h5' ha' Z=>rw[M]at E;cases E;exact⟨Ua,j',by rw[h5 h5'];exact ha',by rw[show m-(n+1)=d' by omega];exact Z⟩,λj' m e Y=>by
      dsimp only at e;by_cases D:i.op=5
      .exact hB j (m+1) rfl (.jump j m j' i M D (by rw[<-h5 D];exact e) Y)
      .have:j'=j+1:=by have:=hn5 D;omega
       subst this;exact hB j (m+1) rfl (.go j m i M hs D Y)⟩ (by dsimp only;omega)
    clear hnx hA hB hq;obtain⟨op,ia,ib,ic,m,site⟩:=i;unfold aS.enc at hx;dsimp only at *;by_cases D:op=5
    .subst D
     repeat' (first|refine st ?_|(refine pf 83 ?_;refine pm (N) ?_)|refine sb λO G=>?_|refine s2 (λh=>?_) λh=>?_|fail)
     all_goals exact hgo _ (λ_=>rfl) (λh=>absurd rfl h)
    .have d5:decide (op=5)=false:=decide_eq_false D
     repeat' (first|refine st ?_|(refine pf 83 ?_;refine pm (N) ?_)|refine sb λO G=>?_|refine s2 (λh=>?_) λh=>?_|fail)
     all_goals exact hgo _ (λh=>absurd h D) (λ_=>rfl)
  .have S:¬gg B k:=λ⟨m,Y⟩=>by obtain⟨_,j,rfl,h2⟩:=hA m Y;have:=h2.lt;exact hr ⟨Ua,Ua⟩
   repeat' (first|refine st ?_|refine sb λO G=>?_|refine s2 (λh=>?_) λh=>?_|fail)
   all_goals first
    |exact hq _ (dq S)
    |(exfalso;refine hr ?_;clear hnx hA hB hq S;simp only[decide_eq_true_eq,decide_eq_false_iff_not,ge_iff_le]at *;omega)
 .have d1:decide ((n:Int)<=(B.length:Int))=false:=decide_eq_false Ua;have S:¬gg B k:=λ⟨m,Y⟩=>by have:=(hA m Y).1;have:=Y.bound;omega
  repeat' (first|refine st ?_|refine sb λO G=>?_|refine s2 (λh=>?_) λh=>?_|fail)
  all_goals exact hq _ (dq S)
def Ij(w:aI):aq Tryz.prog 67 [.agg w.enc] (.bool (gx (uz w))):=by
 refine pH _ _ _ ?_;refine vw ?_;generalize hQ:(λ(u:AV) (K:SH)=>u=AV.bool (gx (uz w))/\K=[])=Q;have hq:∀b,gx (uz w)=b->Q (.bool b) []:=λb D=>by subst hQ;exact⟨by rw[D],rfl⟩
 clear hQ;by_cases h0:w.cells.length<=12/\w.locks.length<=4/\w.conds.length<=2/\w.futures.length<=2/\w.sites.length<=60/\1<=w.threads.length/\w.threads.length<=4
 .obtain⟨c12,l4,d2,f2,s60,t1,t4⟩:=h0;have e1:decide ((w.cells.length:Int) > 12)=false:=decide_eq_false Ua;have e2:decide ((w.locks.length:Int) > 4)=false:=decide_eq_false Ua;have e3:decide ((w.conds.length:Int) > 2)=false:=decide_eq_false Ua;have e4:decide ((w.futures.length:Int) > 2)=false:=decide_eq_false Ua;have e5:decide ((w.sites.length:Int) > 60)=false:=decide_eq_false Ua;have e6:decide ((w.threads.length:Int)<1)=false:=decide_eq_false Ua;have e7:decide ((w.threads.length:Int) > 4)=false:=decide_eq_false Ua;by_cases S:∃G,c9 w.cells G
  .obtain⟨G,S⟩:=S;have hnm:=Ii c12 l4 d2 f2 t4 S;have hns:G.length<=12:=by have:=S.len;omega
   have hAl:(dS w G).length<=30:=by simp[dS];omega
   have B:¬lY (dS w G)->Q (.bool false) []:=λh=>hq _ (dq λZ=>by
    obtain⟨n2,h3,h4⟩:=Z.names;obtain rfl:=S.uniq h3;exact h ⟨h4.1,h4.2⟩)
   have N:lY (dS w G)->∃G,c9 w.cells G/\(∀s∈dS w G,dW s=true)/\(dS w G).Nodup:=λh=>⟨G,S,h.1,h.2⟩
   clear S;generalize dS w G=A at *
   repeat' (first|refine st ?_|(refine pf 106 ?_;refine pm (hnm) ?_)|refine sb λE j=>?_|refine s2 (λh=>?_) λh=>?_|fail)
   refine eB A.length (λi=>lY (A.take i)) (λi=>[.pptr [w.enc] 0 0,.lst (A.map au),.Uf (i:Int)]) Ua (by simp[lY]) rfl (λi h1 hd hi hG nx hn=>?_) (λi h1 hd hG nx=>?_)
   all_goals refine vw ?_
   .have hx:=ao (f:=au) h1;have Y:=zn A[i];have ht:=Sw h1;have hle:i<=A.length:=by omega
    have hat:=Q4 (A.take i) A[i] (by rw[ST];omega);have hmem:=Mj (l:=A.take i) (s:=A[i]);have M:¬lY (A.take (i+1))->Q (.bool false) []:=λD=>B λhN=>D ⟨λs hs=>hN.1 s (List.mem_of_mem_take hs),hN.2.sublist (List.take_sublist _ _)⟩
    rw[ht]at M hn;clear N B hq ht;generalize A[i]=s at *;cases O:dW s with
    |false=>
     rw[O]at Y;have D:¬lY (A.take i++[s]):=λD=>by have:=D.1 s Ud;rw[O]at this;cases this
     repeat' (first|refine st ?_|(refine pf 107 ?_;refine pm (Y) ?_)|refine sb λE j=>?_|refine s2 (λh=>?_) λh=>?_|fail)
     all_goals exact M D
    |true=>
     rw[O]at Y;by_cases hm:s∈A.take i
     .rw[eC hm]at hmem;have D:¬lY (A.take i++[s]):=λD=>by have:=(TN.1 D.2).2.2 s hm s Ud;exact this rfl
      repeat' (first|refine st ?_|refine vD ?_ hle|(refine pf 107 ?_;refine pm (Y) ?_)|(refine pf 108 ?_;refine pm (hat) ?_)|refine sb λE j=>?_|refine s2 (λh=>?_) λh=>?_|fail)
      all_goals exact M D
     .rw[dq hm]at hmem;have D:lY (A.take i++[s]):=⟨λx hx=>by
       rcases SC.1 hx with h|h
       .exact hG.1 x h
       .rw[Sz.1 h];exact O,TN.2 ⟨hG.2,Ud,λa ha b D=>by rw[Sz.1 D];rintro rfl;exact hm ha⟩⟩
      repeat' (first|refine st ?_|refine vD ?_ hle|(refine pf 107 ?_;refine pm (Y) ?_)|(refine pf 108 ?_;refine pm (hat) ?_)|refine sb λE j=>?_|refine s2 (λh=>?_) λh=>?_|fail)
      all_goals exact hn D
   .subst h1;rw[T4]at hG;have hN:=N hG;clear N B hnm
    repeat' (first|refine st ?_|refine sb λE j=>?_|refine s2 (λh=>?_) λh=>?_|fail)
    refine dy w.conds (λc=>!jw w c.mutex false) (λi=>[.pptr [w.enc] 0 0,.Uf (i:Int)]) Ua rfl (λi h1 hd hi M nx hn=>?_) (λi h1 hd M nx=>?_)
    all_goals refine vw ?_
    .have hx:=ao (f:=bR.enc) h1;have B:jw w w.conds[i].mutex false=false->Q (.bool false) []:=λh=>hq _ (dq λZ=>by rw[Z.mtx _ (Sy h1)]at h;cases h)
     generalize w.conds[i]=c at *;obtain⟨nm,mx⟩:=c;unfold bR.enc at hx;dsimp only at *;clear M hq;cases Z:inB mx w.locks.length with
     |false=>
      have hl:jw w mx false=false:=by simp[jw,Z]
      have D:¬(0<=mx/\mx<w.locks.length):=λh=>by rw[av.2 h]at Z;cases Z
      repeat' (first|refine st ?_|refine sb λE j=>?_|refine s2 (λh=>?_) λh=>?_|fail)
      all_goals first
       |exact B hl
       |(exfalso;refine D ?_;clear hn B;simp only[decide_eq_true_eq,decide_eq_false_iff_not,ge_iff_le]at *;omega)
     |true=>
      obtain⟨k,rfl⟩:=SZ (cG Z);have hk:k<w.locks.length:=by have:=(av.1 Z).2;omega
      have hx2:=ao (f:=bC.enc) hk;have d2:decide ((k:Int)<0)=false:=decide_eq_false Ua;have d3:decide ((k:Int)>=(w.locks.length:Int))=false:=decide_eq_false Ua;have S:jw w (k:Int) false=!(w.locks[k].rw):=by unfold jw;rw[Z,Td,Tz,mt hk,TC];generalize w.locks[k].rw=r;cases r<;>rfl
      rw[S]at B hn;generalize w.locks[k]=c2 at *;obtain⟨nm2,r⟩:=c2;unfold bC.enc at hx2;dsimp only at *;cases r with
      |true=>
       repeat' (first|refine st ?_|refine sb λE j=>?_|refine s2 (λh=>?_) λh=>?_|fail)
       all_goals exact B rfl
      |false=>
       repeat' (first|refine st ?_|refine sb λE j=>?_|refine s2 (λh=>?_) λh=>?_|fail)
       all_goals exact hn rfl
    .repeat' (first|refine st ?_|refine sb λE j=>?_|refine s2 (λh=>?_) λh=>?_|fail)
     refine Q5 w s60 t4 λb D=>hq _ ?_
     cases b with
     |false=>exact dq λh=>by rw[eC h.sites]at D;cases D
     |true=>exact eC ⟨c12,l4,d2,f2,s60,t1,t4,hN,λc hc=>by simpa using M c hc,fH.1 D⟩
  .have hnm:=Kw c12 l4 d2 f2 t4 λG h=>S ⟨G,h⟩
   repeat' (first|refine st ?_|(refine pf 106 ?_;refine pm (hnm) ?_)|refine sb λE j=>?_|refine s2 (λh=>?_) λh=>?_|fail)
   all_goals exact hq _ (dq λh=>by obtain⟨G,h1,_⟩:=h.names;exact S ⟨G,h1⟩)
 .have D:gx (uz w)=false:=dq λh=>h0 ⟨h.c12,h.l4,h.d2,h.f2,h.s60,h.t1,h.t4⟩
  repeat' (first|refine st ?_|refine sb λE j=>?_|refine s2 (λh=>?_) λh=>?_|fail)
  all_goals first
   |exact hq _ D
   |(exfalso;refine h0 ?_;clear hq D h0;simp only[decide_eq_true_eq,decide_eq_false_iff_not]at *;omega)
end Go.Proofs.YtbofdbhnbodbiaaGreatDoor.Am
