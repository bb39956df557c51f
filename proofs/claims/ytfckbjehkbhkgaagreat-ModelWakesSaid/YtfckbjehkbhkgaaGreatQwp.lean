/- part -/
import Derived.Test.YtfckbjehkbhkgaaGreatQwl
set_option linter.all false
set_option maxRecDepth 100000
set_option maxHeartbeats 0
namespace Go.Proofs.YtfckbjehkbhkgaaGreat.Am
def nD(i:Int)(n:Nat):aq Tryz.prog 149 [.acU i,.acU n] (.bool (inB i n)):=by
 refine Kr _ _ _ _ ?_;refine vw ?_;generalize j:(λ(u:AV) (K:SH)=>u=AV.bool (inB i n)/\K=[])=Q
 repeat' (first|refine sy ?_|refine s2 ?_ ?_|intro)
 all_goals
  subst j;refine⟨?_,rfl⟩;simp_all[inB]<;>omega
def Mr(op:Int):aq Tryz.prog 171 [.acU op] (.bool (O8 op)):=by
 refine pz _ _ _ ?_;refine vw ?_;generalize j:(λ(u:AV) (K:SH)=>u=AV.bool (O8 op)/\K=[])=Q
 repeat' (first|refine sy ?_|refine s2 ?_ ?_|intro)
 all_goals
  subst j;refine⟨?_,rfl⟩;simp_all[O8]<;>omega
def RG(w:aF)(i n:Int):aq Tryz.prog 170 [.agg w.enc,.acU i,.acU n] (.bool (Me w i n)):=by
 have D:=nD i w.cells.length;refine C5 _ _ _ _ _ ?_;refine vw ?_;generalize G:(λ(u:AV) (K:SH)=>u=AV.bool (Me w i n)/\K=[])=Q;have E:∀b,Me w i n=b->Q (.bool b) []:=λb M=>by subst G;exact⟨by rw[M],rfl⟩
 clear G;cases j:inB i w.cells.length with
 |false=>
  rw[j]at D
  repeat' (first|refine sy ?_|refine s2 ?_ ?_|intro)
  exact E _ (by simp[Me,j])
 |true=>
  rw[j]at D;have B:=cq (f:=aU.enc) j;obtain⟨k,rfl⟩:=abH (dY j);unfold aU.enc at B;rw[abw]at B
  repeat' (first|refine sy ?_|refine s2 ?_ ?_|intro)
  all_goals exact E _ (by simp_all[Me])
def Ms(w:aF)(i:cb):aq Tryz.prog 147 [.agg w.enc,.agg i.enc] (.bool (sK w i)):=by
 obtain⟨op,B,ib,ic,m,D⟩:=i;refine yA _ _ _ _ ?_;refine vw ?_;generalize hQ:(λ(u:AV) (K:SH)=>u=AV.bool (sK w ⟨op,B,ib,ic,m,D⟩)/\K=[])=Q;have M:∀b:Bool,sK w ⟨op,B,ib,ic,m,D⟩=b->Q (.bool b) []:=λb hb=>by subst hb;subst hQ;exact⟨rfl,rfl⟩
 clear hQ;have hlk:∀rw,(op=11\/op=12)/\rw=false\/(op=13\/op=14\/op=15\/op=16)/\rw=true->sK w ⟨op,B,ib,ic,m,D⟩=qG w B rw:=λrw h=>by
  rcases h with⟨h,rfl⟩|⟨h,rfl⟩
  .rcases h with rfl|rfl<;>rfl
  .rcases h with rfl|rfl|rfl|rfl<;>rfl
 have Z:∀rw (k:Nat) (h:k<w.locks.length),B=(k:Int)->qG w B rw=(w.locks[k].rw==rw):=λrw k h e=>by subst e;have hb:inB (k:Int) w.locks.length=true:=ao.2 ⟨acN,acN⟩;unfold qG;rw[hb,abw,acG,mt h];rfl
 by_cases h6:op=6
 .subst h6;have E:=nD ib w.cells.length;cases j:inB ib w.cells.length with
  |false=>
   rw[j]at E
   repeat' (first|refine sy ?_|refine s2 ?_ ?_|intro)
   all_goals exact M _ (by simp[sK,Gd,j])
  |true=>
   rw[j]at E;have N:=cq (f:=aU.enc) j;obtain⟨k,rfl⟩:=abH (dY j);unfold aU.enc at N;rw[abw]at N
   repeat' (first|refine sy ?_|refine s2 ?_ ?_|intro)
   all_goals exact M _ (by simp_all[sK,Gd])
 by_cases h8:op=8
 .subst h8;have E:=nD B w.cells.length;cases j:inB B w.cells.length with
  |false=>
   rw[j]at E
   repeat' (first|refine sy ?_|refine s2 ?_ ?_|intro)
   all_goals exact M _ (by simp[sK,Gd,j])
  |true=>
   rw[j]at E;have N:=cq (f:=aU.enc) j;obtain⟨k,rfl⟩:=abH (dY j);unfold aU.enc at N;rw[abw]at N
   repeat' (first|refine sy ?_|refine s2 ?_ ?_|intro)
   all_goals exact M _ (by simp_all[sK,Gd])
 have e6:decide (op=6)=false:=decide_eq_false h6;have e8:decide (op=8)=false:=decide_eq_false h8;by_cases hl:op=11\/op=12
 .have G:=hlk false (.inl ⟨hl,rfl⟩);have E:=nD B w.locks.length;cases j:inB B w.locks.length with
  |false=>
   rw[j]at E;have O:qG w B false=false:=by simp[qG,j]
   rw[O]at G;rcases hl with rfl|rfl
   all_goals
    repeat' (first|refine sy ?_|refine s2 ?_ ?_|intro)
    all_goals exact M _ G
  |true=>
   rw[j]at E;obtain⟨k,rfl⟩:=abH (dY j);have hk:k<w.locks.length:=by have:=(ao.1 j).2;omega
   have N:=aj (f:=bZ.enc) hk;have O:=Z false k hk rfl;rw[O]at G;generalize w.locks[k]=c at *;obtain⟨nm,r⟩:=c;unfold bZ.enc at N;dsimp only at *;have Y:(!r)=(r==false):=by cases r<;>rfl
   rw[<-Y]at G;rcases hl with rfl|rfl
   all_goals
    repeat' (first|refine sy ?_|refine s2 ?_ ?_|intro)
    all_goals exact M _ G
 by_cases S:op=13\/op=14\/op=15\/op=16
 .have G:=hlk true (.inr ⟨S,rfl⟩);have E:=nD B w.locks.length;cases j:inB B w.locks.length with
  |false=>
   rw[j]at E;have O:qG w B true=false:=by simp[qG,j]
   rw[O]at G;rcases S with rfl|rfl|rfl|rfl
   all_goals
    repeat' (first|refine sy ?_|refine s2 ?_ ?_|intro)
    all_goals exact M _ G
  |true=>
   rw[j]at E;obtain⟨k,rfl⟩:=abH (dY j);have hk:k<w.locks.length:=by have:=(ao.1 j).2;omega
   have N:=aj (f:=bZ.enc) hk;have O:=Z true k hk rfl;rw[O]at G;generalize w.locks[k]=c at *;obtain⟨nm,r⟩:=c;unfold bZ.enc at N;dsimp only at *;have Y:r=(r==true):=by cases r<;>rfl
   rw[<-Y]at G;rcases S with rfl|rfl|rfl|rfl
   all_goals
    repeat' (first|refine sy ?_|refine s2 ?_ ?_|intro)
    all_goals exact M _ G
 have e11:decide (op=11)=false:=decide_eq_false λh=>hl (.inl h)
 have e12:decide (op=12)=false:=decide_eq_false λh=>hl (.inr h)
 have e13:decide (op=13)=false:=decide_eq_false λh=>S (.inl h)
 have e14:decide (op=14)=false:=decide_eq_false λh=>S (.inr (.inl h))
 have e15:decide (op=15)=false:=decide_eq_false λh=>S (.inr (.inr (.inl h)))
 have e16:decide (op=16)=false:=decide_eq_false λh=>S (.inr (.inr (.inr h)))
 have hc:=nD B w.conds.length;have ht:=nD B w.threads.length;have hf:=nD B w.futures.length;have hg:=nD ib w.futures.length;have ha:=RG w;clear hlk Z
 repeat' (first|refine sy ?_|(refine pf 170 ?_;refine pm (ha _ _) ?_)|refine s2 ?_ ?_|intro)
 all_goals
  refine M _ ?_;clear M hc ht hf hg ha e6 e8 e11 e12 e13 e14 e15 e16;simp only[decide_eq_true_eq,decide_eq_false_iff_not]at *;unfold sK
  first
   |(subst_vars;rfl)
   |(subst_vars;simp;done)
   |(simp_all;done)
   |(subst_vars;simp;omega)
def RH(B:List cb)(k:Nat)(hl:B.length<2^48):aq Tryz.prog 148 [.lst (B.map cb.enc),.acU (k:Int)] (.bool (lu (yn B k))):=by
 refine C6 _ _ _ _ ?_;refine vw ?_;generalize hQ:(λ(u:AV) (K:SH)=>u=AV.bool (lu (yn B k))/\K=[])=Q;have hq:∀b,lu (yn B k)=b->Q (.bool b) []:=λb S=>by subst hQ;exact⟨by rw[S],rfl⟩
 clear hQ;refine WS (α:=Nat×Int) (λa=>([.lst (B.map cb.enc),.acU a.2,.acU (a.1:Int)],[])) (λa=>B.length+1-a.1) (λa=>a.1<=B.length+1/\(∀m,AZ B k m->a.1<=m/\∃j:Nat,a.2=(j:Int)/\AZ B j (m-a.1))/\∀(j m:Nat),a.2=(j:Int)->AZ B j m->yn B k) (0,(k:Int)) ⟨abt _,λm h=>⟨abt _,k,rfl,h⟩,λj m e h=>by
  have:j=k:=by have:(k:Int)=(j:Int):=e;omega
  subst this;exact⟨m,h⟩⟩ rfl rfl ?_
 rintro⟨n,t⟩ ⟨hn,hA,hB⟩ nx hnx;refine vw ?_;dsimp only at *;by_cases h:n<=B.length
 .have d1:decide ((n:Int)<=(B.length:Int))=true:=decide_eq_true acN;have hw1:IntKind.i64.wrap ((n:Int)+1)=((n+1:Nat):Int):=by rw[abg _ acN];omega
  by_cases hr:0<=t/\t<B.length
  .obtain⟨j,rfl⟩:=abH hr.1;have hj:j<B.length:=by omega
   have hx:=aj (f:=cb.enc) hj;have G:B[j]? =some B[j]:=mt hj;have d2:decide ((j:Int)<0)=false:=decide_eq_false acN;have d3:decide ((j:Int)>=(B.length:Int))=false:=decide_eq_false acN;have hw2:IntKind.i64.wrap ((j:Int)+1)=((j+1:Nat):Int):=av hj acN;have hsi:=Mr B[j].op;generalize B[j]=i at *;have hsl:O8 i.op=true↔i.sil:=by unfold O8 cb.sil;simp
   cases S:O8 i.op with
   |false=>
    rw[S]at hsi;have hl:yn B k:=hB j 0 rfl (.ev j i G λh=>by rw[hsl.2 h]at S;cases S);obtain⟨op,ia,ib,ic,m,site⟩:=i;unfold cb.enc at hx;dsimp only at *
    repeat' (first|refine sy ?_|refine s2 ?_ ?_|intro)
    all_goals exact hq _ (iG hl)
   |true=>
    rw[S]at hsi;have hs:=hsl.1 S;have hgo:∀Z:Int,(i.op=5->Z=i.a)->(i.op≠5->Z=((j+1:Nat):Int))->nx [.lst (B.map cb.enc),.acU Z,.acU ((n+1:Nat):Int)] []:=λZ h5 hn5=>hnx (n+1,Z) ⟨by dsimp only;omega,λm N=>by
      obtain⟨h1,j2,e2,h2⟩:=hA m N;obtain rfl:j=j2:=by omega
      dsimp only;generalize hd:m-n=d at h2;cases h2 with
      |ev _ i' E hs'=>rw[G]at E;cases E;exact absurd hs hs'
      |go _ d' i' E hs' Y O=>rw[G]at E;cases E;exact⟨acN,j+1,hn5 Y,by rw[show m-(n+1)=d' by omega];exact O⟩
      |jump _ d' j' i' E Y ha' O=>rw[G]at E;cases E;exact⟨acN,j',by rw[h5 Y];exact ha',by rw[show m-(n+1)=d' by omega];exact O⟩,λj' m e N=>by
      dsimp only at e;by_cases D:i.op=5
      .exact hB j (m+1) rfl (.jump j m j' i G D (by rw[<-h5 D];exact e) N)
      .have:j'=j+1:=by have:=hn5 D;omega
       subst this;exact hB j (m+1) rfl (.go j m i G hs D N)⟩ (by dsimp only;omega)
    clear hnx hA hB hq;obtain⟨op,ia,ib,ic,m,site⟩:=i;unfold cb.enc at hx;dsimp only at *;by_cases D:op=5
    .subst D
     repeat' (first|refine sy ?_|refine s2 ?_ ?_|intro)
     all_goals exact hgo _ (λ_=>rfl) (λh=>absurd rfl h)
    .have d5:decide (op=5)=false:=decide_eq_false D
     repeat' (first|refine sy ?_|refine s2 ?_ ?_|intro)
     all_goals exact hgo _ (λh=>absurd h D) (λ_=>rfl)
  .have M:¬yn B k:=λ⟨m,N⟩=>by obtain⟨_,j,rfl,h2⟩:=hA m N;have:=h2.lt;exact hr ⟨acN,acN⟩
   repeat' (first|refine sy ?_|refine s2 ?_ ?_|intro)
   all_goals first
    |exact hq _ (gU M)
    |(exfalso;refine hr ?_;clear hnx hA hB hq M;simp only[decide_eq_true_eq,decide_eq_false_iff_not,ge_iff_le]at *;omega)
 .have d1:decide ((n:Int)<=(B.length:Int))=false:=decide_eq_false acN;have M:¬yn B k:=λ⟨m,N⟩=>by have:=(hA m N).1;have:=N.bound;omega
  repeat' (first|refine sy ?_|refine s2 ?_ ?_|intro)
  all_goals exact hq _ (gU M)
def yB(w:aF):aq Tryz.prog 95 [.agg w.enc] (.bool (lu (oK w))):=by
 refine sM _ _ _ ?_;refine vw ?_;generalize hQ:(λ(u:AV) (K:SH)=>u=AV.bool (lu (oK w))/\K=[])=Q;have Y:∀b,lu (oK w)=b->Q (.bool b) []:=λb B=>by subst hQ;exact⟨by rw[B],rfl⟩
 clear hQ;by_cases h0:w.cells.length<=12/\w.locks.length<=4/\w.conds.length<=2/\w.futures.length<=2/\w.sites.length<=60/\1<=w.threads.length/\w.threads.length<=4
 .obtain⟨c12,l4,d2,f2,s60,t1,t4⟩:=h0;have e1:decide ((w.cells.length:Int) > 12)=false:=decide_eq_false acN;have e2:decide ((w.locks.length:Int) > 4)=false:=decide_eq_false acN;have e3:decide ((w.conds.length:Int) > 2)=false:=decide_eq_false acN;have e4:decide ((w.futures.length:Int) > 2)=false:=decide_eq_false acN;have e5:decide ((w.sites.length:Int) > 60)=false:=decide_eq_false acN;have e6:decide ((w.threads.length:Int)<1)=false:=decide_eq_false acN;have e7:decide ((w.threads.length:Int) > 4)=false:=decide_eq_false acN;by_cases N:∃D,fo w.cells D
  .obtain⟨D,N⟩:=N;have hnm:=Pk c12 l4 d2 f2 t4 N;have hns:D.length<=12:=by have:=N.len;omega
   have hAl:(iP w D).length<=30:=by simp[iP];omega
   have j:¬H3 (iP w D)->Q (.bool false) []:=λh=>Y _ (gU λO=>by
    obtain⟨n2,h3,h4⟩:=O.names;obtain rfl:=N.uniq h3;exact h ⟨h4.1,h4.2⟩)
   have G:H3 (iP w D)->∃D,fo w.cells D/\(∀s∈iP w D,kL s=true)/\(iP w D).Nodup:=λh=>⟨D,N,h.1,h.2⟩
   clear N;generalize iP w D=A at *
   repeat' (first|refine sy ?_|refine s2 (λh=>?_) λh=>?_|intro)
   refine cT A.length (λi=>H3 (A.take i)) (λi=>[.pptr [w.enc] 0 0,.lst (A.map ay),.acU (i:Int)]) acN (by simp[H3]) rfl (λi S hd hi hG nx hn=>?_) (λi S hd hG nx=>?_)
   all_goals refine vw ?_
   .have hx:=aj (f:=ay) S;have hok:=B7 A[i];have ht:=Fn S;have hle:i<=A.length:=by omega
    have hat:=Zz (A.take i) A[i] (by rw[abm];omega);have Z:=Um (l:=A.take i) (s:=A[i]);have E:¬H3 (A.take (i+1))->Q (.bool false) []:=λB=>j λhN=>B ⟨λs hs=>hN.1 s (acv hs),hN.2.sublist (List.take_sublist _ _)⟩
    rw[ht]at E hn;clear G j Y ht;generalize A[i]=s at *;cases M:kL s with
    |false=>
     rw[M]at hok;have B:¬H3 (A.take i++[s]):=λB=>by have:=B.1 s acQ;rw[M]at this;cases this
     repeat' (first|refine sy ?_|refine s2 ?_ ?_|intro)
     all_goals exact E B
    |true=>
     rw[M]at hok;by_cases hm:s∈A.take i
     .rw[iG hm]at Z;have B:¬H3 (A.take i++[s]):=λB=>by have:=(acy.1 B.2).2.2 s hm s acQ;exact this rfl
      repeat' (first|refine sy ?_|refine zC ?_ hle|refine s2 ?_ ?_|intro)
      all_goals exact E B
     .rw[gU hm]at Z;have B:H3 (A.take i++[s]):=⟨λx hx=>by
       rcases aak.1 hx with h|h
       .exact hG.1 x h
       .rw[aag.1 h];exact M,acy.2 ⟨hG.2,acQ,λa ha b B=>by rw[aag.1 B];rintro rfl;exact hm ha⟩⟩
      repeat' (first|refine sy ?_|refine zC ?_ hle|refine s2 ?_ ?_|intro)
      all_goals exact hn B
   .subst S;rw[acx]at hG;have hN:=G hG;clear G j hnm
    repeat' (first|refine sy ?_|refine s2 ?_ ?_|intro)
    refine eO w.conds (λc=>!qG w c.mutex false) (λi=>[.pptr [w.enc] 0 0,.acU (i:Int)]) acN rfl (λi S hd hi E nx hn=>?_) (λi S hd E nx=>?_)
    all_goals refine vw ?_
    .have hx:=aj (f:=cM.enc) S;have j:qG w w.conds[i].mutex false=false->Q (.bool false) []:=λh=>Y _ (gU λO=>by rw[O.mtx _ (LT S)]at h;cases h)
     generalize w.conds[i]=c at *;obtain⟨nm,mx⟩:=c;unfold cM.enc at hx;dsimp only at *;clear E Y;cases O:inB mx w.locks.length with
     |false=>
      have hl:qG w mx false=false:=by simp[qG,O]
      have B:¬(0<=mx/\mx<w.locks.length):=λh=>by rw[ao.2 h]at O;cases O
      repeat' (first|refine sy ?_|refine s2 ?_ ?_|intro)
      all_goals first
       |exact j hl
       |(exfalso;refine B ?_;clear hn j;simp only[decide_eq_true_eq,decide_eq_false_iff_not,ge_iff_le]at *;omega)
     |true=>
      obtain⟨k,rfl⟩:=abH (dY O);have hk:k<w.locks.length:=by have:=(ao.1 O).2;omega
      have hx2:=aj (f:=bZ.enc) hk;have d2:decide ((k:Int)<0)=false:=decide_eq_false acN;have d3:decide ((k:Int)>=(w.locks.length:Int))=false:=decide_eq_false acN;have N:qG w (k:Int) false=!(w.locks[k].rw):=by unfold qG;rw[O,abw,acG,mt hk,abS];generalize w.locks[k].rw=r;cases r<;>rfl
      rw[N]at j hn;generalize w.locks[k]=c2 at *;obtain⟨nm2,r⟩:=c2;unfold bZ.enc at hx2;dsimp only at *;cases r with
      |true=>
       repeat' (first|refine sy ?_|refine s2 ?_ ?_|intro)
       all_goals exact j rfl
      |false=>
       repeat' (first|refine sy ?_|refine s2 ?_ ?_|intro)
       all_goals exact hn rfl
    .repeat' (first|refine sy ?_|refine s2 ?_ ?_|intro)
     refine ZA w s60 t4 λb B=>Y _ ?_
     cases b with
     |false=>exact gU λh=>by rw[iG h.sites]at B;cases B
     |true=>exact iG ⟨c12,l4,d2,f2,s60,t1,t4,hN,λc hc=>by simpa using E c hc,iH.1 B⟩
  .have hnm:=RE c12 l4 d2 f2 t4 λD h=>N ⟨D,h⟩
   repeat' (first|refine sy ?_|refine s2 ?_ ?_|intro)
   all_goals exact Y _ (gU λh=>by obtain⟨D,S,_⟩:=h.names;exact N ⟨D,S⟩)
 .have B:lu (oK w)=false:=gU λh=>h0 ⟨h.c12,h.l4,h.d2,h.f2,h.s60,h.t1,h.t4⟩
  repeat' (first|refine sy ?_|refine s2 ?_ ?_|intro)
  all_goals first
   |exact Y _ B
   |(exfalso;refine h0 ?_;clear Y B h0;simp only[decide_eq_true_eq,decide_eq_false_iff_not]at *;omega)
