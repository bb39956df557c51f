/- part -/
import Derived.Test.YtfckbjehkbhkgaaGreatQwk
set_option linter.all false
set_option maxRecDepth 100000
set_option maxHeartbeats 0
namespace Go.Proofs.YtfckbjehkbhkgaaGreat.Am
section
section
variable {w:aF} {s:SyncD} {t k o:Int} (hf:Ar w s) (hr:∀l∈s.locks,l.readers.length<2^40) (ha:allowedS w k o=true) {Q:R} (hq:∀b,df w s t k o=b->Q (.bool b) [])
include hf hr ha hq
theorem Rc(hk:6<=k/\k<=11):fj (.agg w.enc) (.agg s.enc) (.acU t) (.acU k) (.acU o) [] Q:=by
 have D:inB o s.locks.length=true:=by
  rw[hf.locks];have:k=6\/k=7\/k=8\/k=9\/k=10\/k=11:=by omega
  rcases this with rfl|rfl|rfl|rfl|rfl|rfl<;>(simp[allowedS]at ha;exact ha.1)
 have G:=cq (f:=LockD.enc) D;have Z:=dY D;have B:=J1 hr o;have j:aQ s o=s.locks.getD o.toNat default:=rfl;rw[<-j]at G;have S:k=6->df w s t k o=decide ((aQ s o).owner=-1):=λh=>by subst h;rfl
 have u:k=10->df w s t k o=(decide ((aQ s o).owner=-1)&&decide ((aQ s o).readers.length=0)):=λh=>by subst h;rfl
 have N:k=8->df w s t k o=(decide ((aQ s o).owner=-1)&&!(aQ s o).readers.contains t):=λh=>by subst h;rfl
 have O:k=7\/k=11->df w s t k o=decide ((aQ s o).owner=t):=λh=>by rcases h with rfl|rfl<;>rfl
 have M:k=9->df w s t k o=(aQ s o).readers.contains t:=λh=>by subst h;rfl
 clear j D ha;generalize aQ s o=ll at *;obtain⟨Y,E⟩:=ll;unfold LockD.enc at G;dsimp only at *;have hc:=zz E t B;generalize E.contains t=hcb at *;refine vw ?_
 repeat' (first|refine sy ?_|refine s2 ?_ ?_|intro)
 all_goals simp only[decide_eq_true_eq,decide_eq_false_iff_not]at *
 all_goals first
  |(exfalso;clear hq;omega)
  |exact hq _ ((S acN).trans (by first|rfl|(simp_all;done)))
  |exact hq _ ((O acN).trans (by first|rfl|(simp_all;done)))
  |exact hq _ ((N acN).trans (by first|rfl|(simp_all;done)))
  |exact hq _ ((M acN).trans (by first|rfl|(simp_all;done)))
  |exact hq _ ((u acN).trans (by first|rfl|(simp_all;done)))
theorem Rd(N:k=16\/k=18\/k=19):fj (.agg w.enc) (.agg s.enc) (.acU t) (.acU k) (.acU o) [] Q:=by
 have D:inB o w.conds.length=true:=by rcases N with rfl|rfl|rfl<;>simpa[allowedS]using ha
 have G:=Gf hf D;have M:=cq (f:=cM.enc) D;have ho:=dY D;have E:=dY G;have j:=cq (f:=LockD.enc) G;have v:k=16\/k=18\/k=19->df w s t k o=decide ((aQ s (jI w o)).owner=t):=λh=>by rcases h with rfl|rfl|rfl<;>rfl
 have B:aQ s (jI w o)=s.locks.getD (jI w o).toNat default:=rfl;rw[<-B]at j;clear B;generalize aQ s (jI w o)=ll at *;have u:jI w o=(w.conds.getD o.toNat default).mutex:=rfl;rw[u]at j E;generalize w.conds.getD o.toNat default=c at *;obtain⟨Y,Z⟩:=c;obtain⟨S,O⟩:=ll;unfold LockD.enc at j;unfold cM.enc at M;dsimp only at *;clear u G D ha;refine vw ?_
 repeat' (first|refine sy ?_|refine s2 ?_ ?_|intro)
 all_goals simp only[decide_eq_true_eq,decide_eq_false_iff_not]at *
 all_goals first
  |(exfalso;clear hq;omega)
  |exact hq _ ((v acN).trans (by first|rfl|(simp_all;done)))
theorem T7(M:k=20\/k=21):fj (.agg w.enc) (.agg s.enc) (.acU t) (.acU k) (.acU o) [] Q:=by
 have D:inB o s.threads.length=true:=by rw[hf.threads];rcases M with rfl|rfl<;>simpa[allowedS]using ha
 have E:=cq (f:=ThrD.enc) D;have O:=dY D;have B:k=20->df w s t k o=(decide (o≠t)&&decide ((a8 s o).status=0)):=λh=>by subst h;rfl
 have u:k=21->df w s t k o=(decide (o≠t)&&decide ((a8 s o).status=5)):=λh=>by subst h;rfl
 have j:a8 s o=s.threads.getD o.toNat default:=rfl;rw[<-j]at E;clear j D ha;generalize a8 s o=ll at *;obtain⟨G,N,at_⟩:=ll;unfold ThrD.enc at E;dsimp only at *;refine vw ?_
 repeat' (first|refine sy ?_|refine s2 ?_ ?_|intro)
 all_goals simp only[decide_eq_true_eq,decide_eq_false_iff_not]at *
 all_goals first
  |(exfalso;clear hq;omega)
  |exact hq _ ((B acN).trans (by first|rfl|(simp_all;done)))
  |exact hq _ ((u acN).trans (by first|rfl|(simp_all;done)))
theorem T8(G:k=22\/k=23):fj (.agg w.enc) (.agg s.enc) (.acU t) (.acU k) (.acU o) [] Q:=by
 have D:inB o s.done.length=true:=by rw[hf.done];rcases G with rfl|rfl<;>simpa[allowedS]using ha
 have E:=cq (f:=au) D;have M:=dY D;have B:k=22->df w s t k o=!qH s o:=λh=>by subst h;rfl
 have u:k=23->df w s t k o=qH s o:=λh=>by subst h;rfl
 have j:qH s o=s.done.getD o.toNat default:=rfl;rw[<-j]at E;clear j D ha;generalize qH s o=ll at *;unfold au at E;refine vw ?_
 repeat' (first|refine sy ?_|refine s2 ?_ ?_|intro)
 all_goals simp only[decide_eq_true_eq,decide_eq_false_iff_not]at *
 all_goals first
  |(exfalso;clear hq;omega)
  |exact hq _ ((B acN).trans (by first|rfl|(simp_all;done)))
  |exact hq _ ((u acN).trans (by first|rfl|(simp_all;done)))
theorem Re(ht:inB t w.threads.length=true)(Z:¬(6<=k/\k<=11)/\¬(k=16\/k=18\/k=19)/\¬(k=20\/k=21)/\¬(k=22\/k=23)):fj (.agg w.enc) (.agg s.enc) (.acU t) (.acU k) (.acU o) [] Q:=by
 have G:inB t s.threads.length=true:=by rw[hf.threads];exact ht
 have M:=cq (f:=ThrD.enc) G;have Y:=dY G;have E:k=12->df w s t k o=decide (s.tx=-1):=λh=>by subst h;rfl
 have D:k=13->df w s t k o=decide (s.tx=t):=λh=>by subst h;rfl
 have B:k=14->df w s t k o=!(a8 s t).atomic:=λh=>by subst h;rfl
 have u:k=15->df w s t k o=(a8 s t).atomic:=λh=>by subst h;rfl
 have N:k≠12/\k≠13/\k≠14/\k≠15->df w s t k o=true:=λh=>by
  obtain⟨a1,a2,a3,a4⟩:=h;unfold df
  repeat (rw[if_neg acN])
 have j:a8 s t=s.threads.getD t.toNat default:=rfl;rw[<-j]at M;clear j G ha;generalize a8 s t=ll at *;obtain⟨O,S,at_⟩:=ll;unfold ThrD.enc at M;dsimp only at *;refine vw ?_
 repeat' (first|refine sy ?_|refine s2 ?_ ?_|intro)
 all_goals simp only[decide_eq_true_eq,decide_eq_false_iff_not]at *
 all_goals first
  |(exfalso;clear hq;omega)
  |exact hq _ ((E acN).trans (by first|rfl|(simp_all;done)))
  |exact hq _ ((D acN).trans (by first|rfl|(simp_all;done)))
  |exact hq _ ((B acN).trans (by first|rfl|(simp_all;done)))
  |exact hq _ ((u acN).trans (by first|rfl|(simp_all;done)))
  |exact hq _ ((N acN).trans (by first|rfl|(simp_all;done)))
end
theorem Rf(w:aF)(s:SyncD)(t k o:Int)(hf:Ar w s)(ht:inB t w.threads.length=true)(hr:∀l∈s.locks,l.readers.length<2^40)(ha:allowedS w k o=true):aq Tryz.prog 74 [.agg w.enc,.agg s.enc,.acU t,.acU k,.acU o] (.bool (df w s t k o)):=by
 refine Aj _ _ _ _ _ _ _ ?_;have hq:∀b,df w s t k o=b->(λ(u:AV) (K:SH)=>u=AV.bool (df w s t k o)/\K=[]) (.bool b) []:=λb G=>⟨by rw[G],rfl⟩
 by_cases E:6<=k/\k<=11
 .exact Rc hf hr ha hq E
 by_cases D:k=16\/k=18\/k=19
 .exact Rd hf hr ha hq D
 by_cases B:k=20\/k=21
 .exact T7 hf hr ha hq B
 by_cases j:k=22\/k=23
 .exact T8 hf hr ha hq j
 exact Re hf hr ha hq ht ⟨E,D,B,j⟩
theorem CI(w:aF)(s:SyncD)(t k o:Int)(hcn:w.conds.length<2^62)(hr:∀l∈s.locks,l.readers.length<2^40):aq Tryz.prog 46 [.agg w.enc,.agg s.enc,.acU t,.acU k,.acU o] (.bool (aC w s t k o)):=by
 refine wB _ _ _ _ _ _ _ ?_;refine vw ?_;generalize hQ:(λ(u:AV) (K:SH)=>u=AV.bool (aC w s t k o)/\K=[])=Q;have hq:∀b,aC w s t k o=b->Q (.bool b) []:=λb N=>by subst hQ;exact⟨by rw[N],rfl⟩
 clear hQ;have c1:=T5 w s hcn;have c2:=ig t w.threads.length;have c3:=Mf w k o;cases M:fitsS w s with
 |false=>
  rw[M]at c1;have O:aC w s t k o=false:=by simp[aC,M]
  repeat' (first|refine sy ?_|refine s2 ?_ ?_|intro)
  all_goals exact hq _ O
 |true=>
  rw[M]at c1;cases D:inB t w.threads.length with
  |false=>
   rw[D]at c2;have O:aC w s t k o=false:=by simp[aC,D]
   repeat' (first|refine sy ?_|refine s2 ?_ ?_|intro)
   all_goals exact hq _ O
  |true=>
   rw[D]at c2;cases B:allowedS w k o with
   |false=>
    rw[B]at c3;have O:aC w s t k o=false:=by simp[aC,B]
    repeat' (first|refine sy ?_|refine s2 ?_ ?_|intro)
    all_goals exact hq _ O
   |true=>
    rw[B]at c3;have hf:=cH.1 M;have c4:=Rf w s t k o hf D hr B;have ht:inB t s.threads.length=true:=by rw[hf.threads];exact D
    have hx:=cq (f:=ThrD.enc) ht;have ht0:=dY ht;have j:a8 s t=s.threads.getD t.toNat default:=rfl;rw[<-j]at hx;have v1:k=1->aC w s t k o=decide ((a8 s t).status=1):=λh=>by subst h;simp[aC,M,D,B]
    have E:k=17->aC w s t k o=(decide ((a8 s t).status=4)&&decide ((a8 s t).cond=o)&&decide ((aQ s (jI w o)).owner=-1)):=λh=>by subst h;simp[aC,M,D,B]
    have v0:k≠1/\k≠17->aC w s t k o=(decide ((a8 s t).status=2)&&df w s t k o):=λh=>by simp[aC,M,D,B,h.1,h.2]
    clear j;generalize a8 s t=ll at *;generalize df w s t k o=rb at *;obtain⟨st_,cd_,at_⟩:=ll;unfold ThrD.enc at hx;dsimp only at *;by_cases hk:k=17
    .subst hk;have N:inB o w.conds.length=true:=by simpa[allowedS]using B
     have hm:=Gf hf N;have Y:=cq (f:=cM.enc) N;have ho:=dY N;have Z:=dY hm;have G:=cq (f:=LockD.enc) hm;have j:aQ s (jI w o)=s.locks.getD (jI w o).toNat default:=rfl;rw[<-j]at G;clear j;replace E:=E rfl;generalize aQ s (jI w o)=ll at *;have S:jI w o=(w.conds.getD o.toNat default).mutex:=rfl;rw[S]at G Z;generalize w.conds.getD o.toNat default=c at *;obtain⟨nm,mx⟩:=c;obtain⟨ow,rd⟩:=ll;unfold LockD.enc at G;unfold cM.enc at Y;dsimp only at *;clear S hm N B
     repeat' (first|refine sy ?_|refine s2 ?_ ?_|intro)
     all_goals exact hq _ (E.trans (by first|rfl|(simp_all;done)))
    .have e17:decide (k=17)=false:=decide_eq_false hk
     repeat' (first|refine sy ?_|refine s2 ?_ ?_|intro)
     all_goals simp only[decide_eq_true_eq,decide_eq_false_iff_not]at *
     all_goals first
      |(exfalso;clear hq;omega)
      |exact hq _ ((v1 acN).trans (by first|rfl|(simp_all;done)))
      |exact hq _ ((v0 acN).trans (by first|rfl|(simp_all;done)))
end
def C9{k:IntKind}{m d:Nat}:cE (some (.int k (m:Int))) d=some m:=by simp[cE,gQ]
def wU{α:Type}{f:α->List AV}{l:List α}{n i:Nat}{k:IntKind}{L:SH}{K:AV->Prop}(u:∀x,(f x).length=n)(B:i<=l.length)(h:K (.lst ((l.take i).map f))):W.slice n (.lst (l.map f)) none (some (.int k (i:Int))) none L K:=by
 refine ip (l:=0) (h:=i) rfl C9 (abt _) (by simpa using B) (λr j=>?_) ?_
 .cases l with
  |nil=>cases j
  |cons x l=>simp at j;rw[<-j];exact u x
 .rw[List.drop_zero,Nat.sub_zero,<-acD];exact h
def wV{α:Type}{f:α->List AV}{l:List α}{n i:Nat}{k:IntKind}{L:SH}{K:AV->Prop}(u:∀x,(f x).length=n)(B:i<=l.length)(h:K (.lst ((l.drop i).map f))):W.slice n (.lst (l.map f)) (some (.int k (i:Int))) none none L K:=by
 refine ip (l:=i) (h:=(l.map f).length) C9 rfl (by simpa using B) (Fd _) (λr j=>?_) ?_
 .cases l with
  |nil=>cases j
  |cons x l=>simp at j;rw[<-j];exact u x
 .rw[aaT acQ,<-List.map_drop];exact h
def Kv{b B i k n by_:Nat}{rows m:List (List AV)}{L D:SH}{KL:AV->SH->Prop}(N:(B,(⟨n,m⟩:Blk))∈L)(u:dF b ⟨n,rows⟩ L D)(E:rows.length=i)(G:k=m.length)(h2:2*(i+m.length)*by_<=2^48)(O:2*(i+m.length)<=2^62)(h4:(m.all λr=>r.all AV.one)=true)
  (h:∀j,j∉L.names->KL (.sl j 0 (i+m.length)) ((j,⟨n,rows++m⟩)::D)):W.append n by_ (.sl b 0 i) (.sl B 0 k) L KL:=by
 subst G;subst E;exact lJ (y:=⟨n,rows⟩) (l:=rows) u.mem' rfl acQ acQ (j7 N rfl rfl) h2 O h4 u (λj M=>h j M)
def Ik(l:List Int)(n:Int):List Int:=l.takeWhile λx=>decide (x<n)
def lU(l:List Int)(n:Int):List Int:=l.dropWhile λx=>decide (x<n)
def qY(l:List Int)(n:Int):List Int:=if(lU l n).head? =some n then l else Ik l n++n::lU l n
def Da(l:List Int)(n:Int):Ik l n++lU l n=l:=List.takeWhile_append_dropWhile
def Il:∀(l:List Int) (n:Int) (i:Nat),(∀x∈l.take i,x<n)->(∀x,(l.drop i).head? =some x->¬x<n)->Ik l n=l.take i/\lU l n=l.drop i
 |[],n,i,_,_=>by simp[Ik,lU]
 | x::l,n,0,_,h2=>by have:¬x<n:=h2 x rfl;simp[Ik,lU,this]
 | x::l,n,i+1,h1,h2=>by have D:x<n:=h1 x acQ;obtain⟨B,u⟩:=Il l n i (λy j=>h1 y (by simp[j])) (λy j=>h2 y (by simpa using j));unfold Ik at B ⊢;unfold lU at u ⊢;simp[D,B,u]
def N7(l:List Int)(n:Int)(hl:l.length<2^41):aq Tryz.prog 111 [.lst (l.map aa),.acU n] (.lst ((qY l n).map aa)):=by
 refine ac.fz (Ij _ _ _ _ ?_);refine vw ?_;generalize hQ:(λ(v:AV) (L:SH)=>∃S L2,ax [v] L [S] L2/\S=AV.lst ((qY l n).map aa)/\L2=[])=Q;refine qi l.length (λi=>([.lst (l.map aa),.acU n,.acU i],[])) (λi=>∀x∈l.take i,x<n) acQ rfl rfl ?_;intro i hi O;dsimp only;refine vw ?_;have fin:∀(b:Nat) (L:SH) (k:Nat),k=(l.take i).length+1+(l.drop i).length->Ik l n=l.take i/\lU l n=l.drop i->¬(lU l n).head? =some n->(b,(⟨1,((l.take i).map aa++[[.acU n]])++(l.drop i).map aa⟩:Blk))∈L->Q (.sl b 0 k) L:=λb L k hk j B hm=>by
  subst hQ;have e:qY l n=l.take i++n::l.drop i:=by unfold qY;rw[if_neg B,j.1,j.2]
  exact⟨_,[],ax.all (Fz.sls (l:=qY l n) hm (by rw[e];simp[aa]) acR (by rw[hk,e];simp;omega)),rfl,rfl⟩
 rcases LE i l.length with G|G
 .have hd:=aS G;have E:=aj (f:=aa) G;have N:l.take (i+1)=l.take i++[l[i]]:=Fn G;have u:(l.drop i).head? =some l[i]:=by rw[ack G];rfl
  have hlt:(l.take i).length=i:=by simp;omega
  cases Z:decide (l[i]<n)with
  |true=>
   repeat' (first|refine sy ?_|refine s2 (λh=>?_) λh=>?_|intro)
   exact⟨i+1,acN,acN,λx E=>by
    rw[N]at E;rcases aak.1 E with h|h
    .exact O x h
    .simp at h;subst h;exact of_decide_eq_true Z,fR (by rw[av G acN]<;>rfl) rfl⟩
  |false=>
   have j:=Il l n i O (λx E=>by rw[u]at E;cases E;exact of_decide_eq_false Z);cases Y:decide (l[i]=n)with
   |true=>
    repeat' (first|refine sy ?_|refine s2 ?_ ?_|intro)
    subst hQ;have e:qY l n=l:=by unfold qY;rw[if_pos];rw[j.2,u,of_decide_eq_true Y]
    exact⟨_,[],ax.all (.refl _),by rw[e]<;>rfl,rfl⟩
   |false=>
    have B:¬(lU l n).head? =some n:=by rw[j.2,u];intro h;cases h;simp at Y
    repeat' (first|refine sy ?_|refine wU (λ_=>rfl) acN ?_|refine wV (λ_=>rfl) acN ?_|refine dJ rp (λ_=>rfl) acQ acS acS (λ_=>rfl) (λM D=>?_)|refine Kv rp rp acQ acP acS acS acP (λM D=>?_)|refine s2 ?_ ?_|intro)
    exact fin _ _ _ acQ j B (by simp[co])
 .have hd:=aW G;have hi0:i=l.length:=by omega
  have u:(l.drop i).head? =none:=by rw[List.drop_eq_nil_of_le G];rfl
  have j:=Il l n i O (λx E=>by rw[u]at E;cases E);have B:¬(lU l n).head? =some n:=by rw[j.2,u];nofun
  repeat' (first|refine sy ?_|refine wU (λ_=>rfl) acN ?_|refine wV (λ_=>rfl) acN ?_|refine dJ rp (λ_=>rfl) acQ acS acS (λ_=>rfl) (λM D=>?_)|refine Kv rp rp acQ acP acS acS acP (λM D=>?_)|refine s2 ?_ ?_|intro)
  exact fin _ _ _ acQ j B (by simp[co])
def RJ(l:List Int)(n:Int):(qY l n).length<=l.length+1:=by
 unfold qY;split
 .omega
 .have:=congrArg List.length (Da l n);simp only[aal,abi]at this ⊢;omega
def RK{l:List Int}{n:Int}(h:l.Pairwise (·<·)):(qY l n).Pairwise (·<·):=by
 unfold qY;split
 .exact h
 .rename_i u;have Y:=Da l n;rw[<-Y]at h;obtain⟨h1,G,Z⟩:=List.pairwise_append.1 h;have B:∀x∈Ik l n,x<n:=λx D=>by unfold Ik at D;have:=abh.1 (List.all_takeWhile (p:=λx=>decide (x<n)) (l:=l)) x D;exact of_decide_eq_true this
  refine List.pairwise_append.2 ⟨h1,List.pairwise_cons.2 ⟨?_,G⟩,?_⟩
  .cases M:lU l n with
   |nil=>intro y j;cases j
   |cons x r=>
    rw[M]at u G;have D:¬x<n:=by
     have:(lU l n).head? =some x:=by rw[M];rfl
     unfold lU at this;have O:=List.head?_dropWhile_not (p:=λx=>decide (x<n)) l;rw[this]at O;simpa using O
    have S:x≠n:=λe=>u (by rw[e];rfl)
    intro y j;rcases aaj.1 j with rfl|j
    .omega
    .have:=(List.pairwise_cons.1 G).1 y j;omega
  .intro a N b E;rcases aaj.1 E with rfl|E
   .exact B a N
   .exact Z a N b E
def RL{l:List Int}{n x:Int}:x∈qY l n↔x∈l\/x=n:=by
 unfold qY;have j:=Da l n;split
 .rename_i u;constructor
  .exact .inl
  .rintro(h|rfl)
   .exact h
   .rw[<-j];exact aaY _ (List.mem_of_mem_head? u)
 .constructor
  .intro h;rcases aak.1 h with h|h
   .left;rw[<-j];exact abR _ h
   .rcases aaj.1 h with h|h
    .exact .inr h
    .left;rw[<-j];exact aaY _ h
  .rintro(h|rfl)
   .rw[<-j]at h;rcases aak.1 h with h|h
    .exact abR _ h
    .exact aaY _ (acb _ h)
   .exact aaY _ acJ
def puts(l m:List Int):List Int:=m.foldl qY l
def Kw:∀(m:List Int) {l:List Int},l.Pairwise (·<·)->(puts l m).Pairwise (·<·)
 |[],_,h=>h
 |x::m,_,h=>Kw m (RK h)
def Kx:∀(m:List Int) {l:List Int} {x:Int},x∈puts l m↔x∈l\/x∈m
 |[],l,x=>by simp[puts]
 | y::m,l,x=>by
  have:=Kx m (l:=qY l y) (x:=x);unfold puts at this ⊢;rw[acg,this,RL];simp only[aaj];constructor
  .rintro((h|h)|h)
   .exact .inl h
   .exact .inr (.inl h)
   .exact .inr (.inr h)
  .rintro(h|h|h)
   .exact .inl (.inl h)
   .exact .inl (.inr h)
   .exact .inr h
def Db:∀(m l:List Int),(puts l m).length<=l.length+m.length
 |[],l=>by simp[puts]
 | y::m,l=>by have j:=Db m (qY l y);have u:=RJ l y;unfold puts at j ⊢;rw[acg,abi];omega
def Up(m:List Int):puts [] m=Qj m:=Ub (Kw m .nil) (NX m) λx=>by rw[Kx,HU];simp
def Gt(l m:List Int)(x:Int):puts l (m++[x])=qY (puts l m) x:=by unfold puts;rw[acL];rfl
def RM(l m r:List Int):puts l (m++r)=puts (puts l m) r:=by unfold puts;rw[acL]
def Gu(a b:List Int)(ha:a.length<2^40)(hb:b.length<2^40):aq Tryz.prog 85 [.lst (a.map aa),.lst (b.map aa)] (.lst ((Qj (a++b)).map aa)):=by
 refine ac.fz (C8 _ _ _ _ ?_);refine vw ?_;generalize Z:(λ(v:AV) (L:SH)=>∃G O,ax [v] L [G] O/\G=AV.lst ((Qj (a++b)).map aa)/\O=[])=Q;refine aL a.length (λi (_:Unit)=>([.lst (a.map aa),.lst (b.map aa),.lst ((puts [] (a.take i)).map aa),.acU i],[])) (λ_ _=>True) () trivial (ax.vals (.cons (.refl _) (.cons (.refl _) (.cons .nils (.cons (.refl _) .nil))))) ?_;rintro i _ hi _;dsimp only;refine vw ?_;have D:=Db (a.take i) [];have Y:(a.take i).length<=a.length:=by rw[List.length_take];exact Nat.min_le_right _ _
 simp only[abq]at D;rcases LE i a.length with B|B
 .have E:=aS B;have S:=aj (f:=aa) B;have hp:=N7 (puts [] (a.take i)) a[i] acN
  repeat' (first|refine sy ?_|(refine pf 111 ?_;refine pm (hp) ?_)|refine s2 ?_ ?_|intro)
  exact⟨i+1,(),acN,acN,trivial,fR (by rw[av B acN,Fn B,Gt]<;>rfl) rfl⟩
 .have E:=aW B
  repeat' (first|refine sy ?_|refine s2 ?_ ?_|intro)
  rw[List.take_of_length_le B]at *;refine qi b.length (λi=>([.lst (b.map aa),.lst ((puts (puts [] a) (b.take i)).map aa),.acU i],[])) (λ_=>True) trivial rfl rfl ?_;intro j hj _;dsimp only;refine vw ?_;have N:=Db (b.take j) (puts [] a);have M:(b.take j).length<=b.length:=by rw[List.length_take];exact Nat.min_le_right _ _
  rcases LE j b.length with u|u
  .have E:=aS u;have S:=aj (f:=aa) u;have hp:=N7 (puts (puts [] a) (b.take j)) b[j] acN
   repeat' (first|refine sy ?_|(refine pf 111 ?_;refine pm (hp) ?_)|refine s2 ?_ ?_|intro)
   exact⟨j+1,acN,acN,trivial,fR (by rw[av u acN,Fn u,Gt]<;>rfl) rfl⟩
  .have E:=aW u;rw[aaT u,<-RM,Up]
   repeat' (first|refine sy ?_|refine s2 ?_ ?_|intro)
   subst Z;exact⟨_,[],ax.all (.refl _),rfl,rfl⟩
def tP:RF:=nv (bQ Tryz.prog Tryz.f204 [] [])
abbrev Fb(a:AV)(L:SH)(Q:R):Prop:=Pc tP 20 Q 0 [] [a] L
def Dc(j:AV)(L:SH)(Q:R)(h:Fb j L Q):ac Tryz.prog 204 [j] L Q:=
 fv tP Tryz.func204 h
def tQ:RF:=nv (bQ Tryz.prog Tryz.f194 [] [])
abbrev Fc(a b:AV)(L:SH)(Q:R):Prop:=Pc tQ 20 Q 0 [] [a,b] L
def Dd(u j:AV)(L:SH)(Q:R)(h:Fc u j L Q):ac Tryz.prog 194 [u,j] L Q:=
 fv tQ Tryz.func194 h
def re:RF:=nv (bQ Tryz.prog Tryz.f196 [] [])
abbrev De(a b c:AV)(L:SH)(Q:R):Prop:=Pc re 20 Q 0 [] [a,b,c] L
def AA(B u j:AV)(L:SH)(Q:R)(h:De B u j L Q):ac Tryz.prog 196 [B,u,j] L Q:=
 fv re Tryz.func196 h
def wW:RF:=nv (bQ Tryz.prog Tryz.f175 [(9,⟨[1,2,3,4],[],true,[]⟩)] [(0,[1])])
abbrev Im(a:AV)(L:SH)(Q:R):Prop:=Pc wW 20 Q 0 [] [a] L
def Fe(j:AV)(L:SH)(Q:R)(h:Im j L Q):ac Tryz.prog 175 [j] L Q:=
 fv wW Tryz.func175 h
def nG:RF:=nv (bQ Tryz.prog Tryz.f195 [] [])
abbrev yE(a:AV)(L:SH)(Q:R):Prop:=Pc nG 20 Q 0 [] [a] L
def wX(j:AV)(L:SH)(Q:R)(h:yE j L Q):ac Tryz.prog 195 [j] L Q:=
 fv nG Tryz.func195 h
def iI:RF:=nv (bQ Tryz.prog Tryz.f176 [(69034,⟨[2,3,4,8,9,10],[],true,[]⟩),(2102,⟨[2,3,4],[],true,[]⟩),(9,⟨[2,3,4,6,7],[],true,[]⟩)] [(0,[2])])
abbrev mv(Q:R):Vs->SH->Prop:=Jp iI 17 Q 69034 []
abbrev Ff(Q:R)(a:SH)(b c d:AV):Prop:=Pc iI 18 Q 2102 [] [b,c,d] a
abbrev Fg(Q:R):Vs->SH->Kn->Prop:=Lp iI 19 Q 9 []
abbrev In(a b:AV)(L:SH)(Q:R):Prop:=Pc iI 20 Q 0 [] [a,b] L
def g9(u j:AV)(L:SH)(Q:R)(h:In u j L Q):ac Tryz.prog 176 [u,j] L Q:=
 fv iI Tryz.func176 h
def kS:RF:=nv (bQ Tryz.prog Tryz.f152 [(15,⟨[2,3,4,6],[],true,[]⟩)] [(0,[2]),(9,[7]),(14,[8])])
abbrev AB(Q:R):Vs->SH->Kn->Prop:=Lp kS 19 Q 15 []
abbrev Df(a b:AV)(L:SH)(Q:R):Prop:=Pc kS 20 Q 0 [] [a,b] L
def AC(u j:AV)(L:SH)(Q:R)(h:Df u j L Q):ac Tryz.prog 152 [u,j] L Q:=
 fv kS Tryz.func152 h
