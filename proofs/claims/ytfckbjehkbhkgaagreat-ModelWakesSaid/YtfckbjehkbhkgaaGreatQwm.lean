/- part -/
import Derived.Test.YtfckbjehkbhkgaaGreatQwj
set_option linter.all false
set_option maxRecDepth 100000
set_option maxHeartbeats 0
namespace Go.Proofs.YtfckbjehkbhkgaaGreat.Am
section
section
variable {w:aF} {s:SyncD} {t k o:Int} (hf:Ar w s) (hr:∀l∈s.locks,l.readers.length<2^40) (ha:allowedS w k o=true) {Q:R} (hq:∀b,df w s t k o=b->Q (.bool b) [])
include hf hr ha hq
theorem Rc(hk:6<=k/\k<=11):fj (.agg w.enc) (.agg s.enc) (.acU t) (.acU k) (.acU o) [] Q:=by
 have D:inB o s.locks.length=true:=by
  rw[hf.locks];have:k=6\/k=7\/k=8\/k=9\/k=10\/k=11:=by omega
  rcases this with rfl|rfl|rfl|rfl|rfl|rfl<;>(simp[allowedS]at ha;exact ha.1)
 have G:=cq (f:=LockD.enc) D;have Z:=dY D;have B:=J1 hr o;have j:aQ s o=s.locks.getD o.toNat default:=rfl;rw[<-j]at G;have S:k=6->df w s t k o=decide ((aQ s o).owner=-1):=λh=>by subst h;rfl
 have u:k=10->df w s t k o=(decide ((aQ s o).owner=-1)&&decide ((aQ s o).readers.length=0)):=λh=>by subst h;rfl
 have N:k=8->df w s t k o=(decide ((aQ s o).owner=-1)&&!(aQ s o).readers.contains t):=λh=>by subst h;rfl
 have O:k=7\/k=11->df w s t k o=decide ((aQ s o).owner=t):=λh=>by rcases h with rfl|rfl<;>rfl
 have M:k=9->df w s t k o=(aQ s o).readers.contains t:=λh=>by subst h;rfl
 clear j D ha;generalize aQ s o=ll at *;obtain⟨Y,E⟩:=ll;unfold LockD.enc at G;dsimp only at *;have hc:=zz E t B;generalize E.contains t=hcb at *;refine vw ?_
 repeat' (first|refine sy ?_|refine s2 ?_ ?_|intro)
 all_goals simp only[decide_eq_true_eq,decide_eq_false_iff_not]at *
 all_goals first
  |(exfalso;clear hq;omega)
  |exact hq _ ((S acN).trans (by first|rfl|(simp_all;done)))
  |exact hq _ ((O acN).trans (by first|rfl|(simp_all;done)))
  |exact hq _ ((N acN).trans (by first|rfl|(simp_all;done)))
  |exact hq _ ((M acN).trans (by first|rfl|(simp_all;done)))
  |exact hq _ ((u acN).trans (by first|rfl|(simp_all;done)))
theorem Rd(N:k=16\/k=18\/k=19):fj (.agg w.enc) (.agg s.enc) (.acU t) (.acU k) (.acU o) [] Q:=by
 have D:inB o w.conds.length=true:=by rcases N with rfl|rfl|rfl<;>simpa[allowedS]using ha
 have G:=Gf hf D;have M:=cq (f:=cM.enc) D;have ho:=dY D;have E:=dY G;have j:=cq (f:=LockD.enc) G;have v:k=16\/k=18\/k=19->df w s t k o=decide ((aQ s (jI w o)).owner=t):=λh=>by rcases h with rfl|rfl|rfl<;>rfl
 have B:aQ s (jI w o)=s.locks.getD (jI w o).toNat default:=rfl;rw[<-B]at j;clear B;generalize aQ s (jI w o)=ll at *;have u:jI w o=(w.conds.getD o.toNat default).mutex:=rfl;rw[u]at j E;generalize w.conds.getD o.toNat default=c at *;obtain⟨Y,Z⟩:=c;obtain⟨S,O⟩:=ll;unfold LockD.enc at j;unfold cM.enc at M;dsimp only at *;clear u G D ha;refine vw ?_
 repeat' (first|refine sy ?_|refine s2 ?_ ?_|intro)
 all_goals simp only[decide_eq_true_eq,decide_eq_false_iff_not]at *
 all_goals first
  |(exfalso;clear hq;omega)
  |exact hq _ ((v acN).trans (by first|rfl|(simp_all;done)))
theorem T7(M:k=20\/k=21):fj (.agg w.enc) (.agg s.enc) (.acU t) (.acU k) (.acU o) [] Q:=by
 have D:inB o s.threads.length=true:=by rw[hf.threads];rcases M with rfl|rfl<;>simpa[allowedS]using ha
 have E:=cq (f:=ThrD.enc) D;have O:=dY D;have B:k=20->df w s t k o=(decide (o≠t)&&decide ((a8 s o).status=0)):=λh=>by subst h;rfl
 have u:k=21->df w s t k o=(decide (o≠t)&&decide ((a8 s o).status=5)):=λh=>by subst h;rfl
 have j:a8 s o=s.threads.getD o.toNat default:=rfl;rw[<-j]at E;clear j D ha;generalize a8 s o=ll at *;obtain⟨G,N,at_⟩:=ll;unfold ThrD.enc at E;dsimp only at *;refine vw ?_
 repeat' (first|refine sy ?_|refine s2 ?_ ?_|intro)
 all_goals simp only[decide_eq_true_eq,decide_eq_false_iff_not]at *
 all_goals first
  |(exfalso;clear hq;omega)
  |exact hq _ ((B acN).trans (by first|rfl|(simp_all;done)))
  |exact hq _ ((u acN).trans (by first|rfl|(simp_all;done)))
theorem T8(G:k=22\/k=23):fj (.agg w.enc) (.agg s.enc) (.acU t) (.acU k) (.acU o) [] Q:=by
 have D:inB o s.done.length=true:=by rw[hf.done];rcases G with rfl|rfl<;>simpa[allowedS]using ha
 have E:=cq (f:=au) D;have M:=dY D;have B:k=22->df w s t k o=!qH s o:=λh=>by subst h;rfl
 have u:k=23->df w s t k o=qH s o:=λh=>by subst h;rfl
 have j:qH s o=s.done.getD o.toNat default:=rfl;rw[<-j]at E;clear j D ha;generalize qH s o=ll at *;unfold au at E;refine vw ?_
 repeat' (first|refine sy ?_|refine s2 ?_ ?_|intro)
 all_goals simp only[decide_eq_true_eq,decide_eq_false_iff_not]at *
 all_goals first
  |(exfalso;clear hq;omega)
  |exact hq _ ((B acN).trans (by first|rfl|(simp_all;done)))
  |exact hq _ ((u acN).trans (by first|rfl|(simp_all;done)))
theorem Re(ht:inB t w.threads.length=true)(Z:¬(6<=k/\k<=11)/\¬(k=16\/k=18\/k=19)/\¬(k=20\/k=21)/\¬(k=22\/k=23)):fj (.agg w.enc) (.agg s.enc) (.acU t) (.acU k) (.acU o) [] Q:=by
 have G:inB t s.threads.length=true:=by rw[hf.threads];exact ht
 have M:=cq (f:=ThrD.enc) G;have Y:=dY G;have E:k=12->df w s t k o=decide (s.tx=-1):=λh=>by subst h;rfl
 have D:k=13->df w s t k o=decide (s.tx=t):=λh=>by subst h;rfl
 have B:k=14->df w s t k o=!(a8 s t).atomic:=λh=>by subst h;rfl
 have u:k=15->df w s t k o=(a8 s t).atomic:=λh=>by subst h;rfl
 have N:k≠12/\k≠13/\k≠14/\k≠15->df w s t k o=true:=λh=>by
  obtain⟨a1,a2,a3,a4⟩:=h;unfold df
  repeat (rw[if_neg acN])
 have j:a8 s t=s.threads.getD t.toNat default:=rfl;rw[<-j]at M;clear j G ha;generalize a8 s t=ll at *;obtain⟨O,S,at_⟩:=ll;unfold ThrD.enc at M;dsimp only at *;refine vw ?_
 repeat' (first|refine sy ?_|refine s2 ?_ ?_|intro)
 all_goals simp only[decide_eq_true_eq,decide_eq_false_iff_not]at *
 all_goals first
  |(exfalso;clear hq;omega)
  |exact hq _ ((E acN).trans (by first|rfl|(simp_all;done)))
  |exact hq _ ((D acN).trans (by first|rfl|(simp_all;done)))
  |exact hq _ ((B acN).trans (by first|rfl|(simp_all;done)))
  |exact hq _ ((u acN).trans (by first|rfl|(simp_all;done)))
  |exact hq _ ((N acN).trans (by first|rfl|(simp_all;done)))
end
theorem Rf(w:aF)(s:SyncD)(t k o:Int)(hf:Ar w s)(ht:inB t w.threads.length=true)(hr:∀l∈s.locks,l.readers.length<2^40)(ha:allowedS w k o=true):aq Tryz.prog 74 [.agg w.enc,.agg s.enc,.acU t,.acU k,.acU o] (.bool (df w s t k o)):=by
 refine Aj _ _ _ _ _ _ _ ?_;have hq:∀b,df w s t k o=b->(λ(u:AV) (K:SH)=>u=AV.bool (df w s t k o)/\K=[]) (.bool b) []:=λb G=>⟨by rw[G],rfl⟩
 by_cases E:6<=k/\k<=11
 .exact Rc hf hr ha hq E
 by_cases D:k=16\/k=18\/k=19
 .exact Rd hf hr ha hq D
 by_cases B:k=20\/k=21
 .exact T7 hf hr ha hq B
 by_cases j:k=22\/k=23
 .exact T8 hf hr ha hq j
 exact Re hf hr ha hq ht ⟨E,D,B,j⟩
theorem CI(w:aF)(s:SyncD)(t k o:Int)(hcn:w.conds.length<2^62)(hr:∀l∈s.locks,l.readers.length<2^40):aq Tryz.prog 46 [.agg w.enc,.agg s.enc,.acU t,.acU k,.acU o] (.bool (aC w s t k o)):=by
 refine wB _ _ _ _ _ _ _ ?_;refine vw ?_;generalize hQ:(λ(u:AV) (K:SH)=>u=AV.bool (aC w s t k o)/\K=[])=Q;have hq:∀b,aC w s t k o=b->Q (.bool b) []:=λb N=>by subst hQ;exact⟨by rw[N],rfl⟩
 clear hQ;have c1:=T5 w s hcn;have c2:=ig t w.threads.length;have c3:=Mf w k o;cases M:fitsS w s with
 |false=>
  rw[M]at c1;have O:aC w s t k o=false:=by simp[aC,M]
  repeat' (first|refine sy ?_|refine s2 ?_ ?_|intro)
  all_goals exact hq _ O
 |true=>
  rw[M]at c1;cases D:inB t w.threads.length with
  |false=>
   rw[D]at c2;have O:aC w s t k o=false:=by simp[aC,D]
   repeat' (first|refine sy ?_|refine s2 ?_ ?_|intro)
   all_goals exact hq _ O
  |true=>
   rw[D]at c2;cases B:allowedS w k o with
   |false=>
    rw[B]at c3;have O:aC w s t k o=false:=by simp[aC,B]
    repeat' (first|refine sy ?_|refine s2 ?_ ?_|intro)
    all_goals exact hq _ O
   |true=>
    rw[B]at c3;have hf:=cH.1 M;have c4:=Rf w s t k o hf D hr B;have ht:inB t s.threads.length=true:=by rw[hf.threads];exact D
    have hx:=cq (f:=ThrD.enc) ht;have ht0:=dY ht;have j:a8 s t=s.threads.getD t.toNat default:=rfl;rw[<-j]at hx;have v1:k=1->aC w s t k o=decide ((a8 s t).status=1):=λh=>by subst h;simp[aC,M,D,B]
    have E:k=17->aC w s t k o=(decide ((a8 s t).status=4)&&decide ((a8 s t).cond=o)&&decide ((aQ s (jI w o)).owner=-1)):=λh=>by subst h;simp[aC,M,D,B]
    have v0:k≠1/\k≠17->aC w s t k o=(decide ((a8 s t).status=2)&&df w s t k o):=λh=>by simp[aC,M,D,B,h.1,h.2]
    clear j;generalize a8 s t=ll at *;generalize df w s t k o=rb at *;obtain⟨st_,cd_,at_⟩:=ll;unfold ThrD.enc at hx;dsimp only at *;by_cases hk:k=17
    .subst hk;have N:inB o w.conds.length=true:=by simpa[allowedS]using B
     have hm:=Gf hf N;have Y:=cq (f:=cM.enc) N;have ho:=dY N;have Z:=dY hm;have G:=cq (f:=LockD.enc) hm;have j:aQ s (jI w o)=s.locks.getD (jI w o).toNat default:=rfl;rw[<-j]at G;clear j;replace E:=E rfl;generalize aQ s (jI w o)=ll at *;have S:jI w o=(w.conds.getD o.toNat default).mutex:=rfl;rw[S]at G Z;generalize w.conds.getD o.toNat default=c at *;obtain⟨nm,mx⟩:=c;obtain⟨ow,rd⟩:=ll;unfold LockD.enc at G;unfold cM.enc at Y;dsimp only at *;clear S hm N B
     repeat' (first|refine sy ?_|refine s2 ?_ ?_|intro)
     all_goals exact hq _ (E.trans (by first|rfl|(simp_all;done)))
    .have e17:decide (k=17)=false:=decide_eq_false hk
     repeat' (first|refine sy ?_|refine s2 ?_ ?_|intro)
     all_goals simp only[decide_eq_true_eq,decide_eq_false_iff_not]at *
     all_goals first
      |(exfalso;clear hq;omega)
      |exact hq _ ((v1 acN).trans (by first|rfl|(simp_all;done)))
      |exact hq _ ((v0 acN).trans (by first|rfl|(simp_all;done)))
end
def jV:RF:=nv (bQ Tryz.prog Tryz.f11 [] [(0,[2]),(3,[5])])
abbrev sX(a b:AV)(L:SH)(Q:R):Prop:=Pc jV 20 Q 0 [] [a,b] L
def gx(u j:AV)(L:SH)(Q:R)(h:sX u j L Q):ac Tryz.prog 11 [u,j] L Q:=
 fv jV Tryz.func11 h
section
open Go.ChangeShapes Go.WideShapes Go.ChangeAt Go.RowKit
def Lu:bO:=⟨λ_=>none,λ_=>False⟩
def Nf:Nat->Prop:=λ_=>False
def Wi{α:Type}(e:α->List AV)(G:α->Prop):Rel α:=λw _ x cs=>G x/\fX w Lu Nf (e x) cs
theorem fw{w:World}{σ:bO}{T:Nat->Prop}{a:AV}{v:Value}(h:bC w σ T a v):fX w σ T [a] [v]:=⟨rfl,λi x u j B=>by
 match i with
 |0=>cases j;cases B;exact h
 |i+1=>simp at j⟩
theorem bL{w:World}{σ:bO}{T:Nat->Prop}{a:AV}{v:Value}{l:List AV}{m:List Value}(h:fX w σ T [a] [v])(j:fX w σ T l m):fX w σ T (a::l) (v::m):=⟨by simp[j.1],λi x u D B=>by
 match i with
 |0=>exact h.2 0 x u D B
 |i+1=>exact j.2 i x u (by simpa using D) (by simpa using B)⟩
theorem hD{w:World}{σ:bO}{T:Nat->Prop}:fX w σ T [] []:=⟨rfl,λi x u j B=>by simp at j⟩
section
variable {H:Type} {enc:TypeId×Value->H} {P:Program} {w:World} {base:Nat} {spare:Nat->Bool} {held:Bool}
theorem zj{t:TypeId}{k:IntKind}(ht:P.underlying t=some (.int k)):Opens H enc P w base spare held t (Wi (λn:Int=>[.int k n]) λn=>(Lit.int k n).wf=true):=λj B x h=>by obtain⟨n,rfl,u⟩:=opens_int ht j B x h;exact⟨n,u,fw (.int k n)⟩
theorem Ed{α:Type}{t e:TypeId}{size:Nat}{f:α->List AV}{G:α->Prop}(ht:P.underlying t=some (.slice e))(hc:P.cellsOf e=size)(hs:0<size)(he:Opens H enc P w base spare held e (Wi f G)):
  Opens H enc P w base spare held t (Wi (λl:List α=>[.lst (l.map f)]) λl=>l.length<=maxLen/\∀x∈l,G x):=λS cs x h=>by
 obtain⟨l,A,c,rfl,h1,h2,h3⟩:=opens_slice ht hc hs he S cs x h;refine⟨l,⟨acN,λx M=>?_⟩,fw ?_⟩
 .obtain⟨i,hi,rfl⟩:=abC M;obtain⟨b,o,_,_,B⟩:=h3 acN;obtain⟨E,_,hR,_⟩:=B i l[i] (mt hi);exact hR.1
 .rcases abZ l.length with Y|Y
  .have:l=[]:=abU.1 Y;subst this;exact .lst0 A c h2
  .obtain⟨b,o,rfl,hb,B⟩:=h3 Y;have:=bC.lst (w:=w) (σ:=Lu) (T:=Nf) (l.map f) b o size c ⟨λh=>h,λi r D=>?_,λi j hi hj=>?_,hs,by simpa using Y⟩ (by simpa using h1) h2 (λi r j a u D ha hu=>?_)
   .simpa using this
   .rw[abn]at D;cases M:l[i]? with
    |none=>rw[M]at D;cases D
    |some y=>rw[M]at D;cases D;obtain⟨E,k1,N,_⟩:=B i y M;rw[N.2.1,k1]
   .have hi':i<l.length:=by simpa using hi
    obtain⟨E,k1,N,Z⟩:=B i l[i] (mt hi');exact⟨E[j],Z j _ (mt acN)⟩
   .rw[abn]at D;cases M:l[i]? with
    |none=>rw[M]at D;cases D
    |some y=>
     rw[M]at D;cases D;obtain⟨E,k1,N,Z⟩:=B i y M;have hj:j<E.length:=by rw[<-N.2.1];exact aH ha
     have O:=Z j _ (mt hj);rw[hu]at O;cases O;exact N.2.2 j a _ ha (mt hj)
theorem Lv{t:TypeId}{N:Array Field}(j:List TypeId){D:Nat}{cs:List Value}{x:DataW H×List MemPlace}(ht:P.underlying t=some (.struct N))(h:DataW.trod enc P w base spare held D t cs=some x)
  (Z:N.toList.map (λf=>(f.type,f.offset))=j.zipIdx) (M:j.all (λty=>P.cellsOf ty==1)=true) (S:P.cellsOf t=j.length) :
  cs.length=j.length/\∀(i:Nat) (ty:TypeId),j[i]? =some ty->∃c m y,cs[i]? =some c/\DataW.trod enc P w base spare held m ty [c]=some y:=by
 obtain⟨G,B⟩:=opens_fields ht h;rw[S]at G;refine⟨G,λi ty E=>?_⟩;have Y:=aH E;have u:i<cs.length:=by omega
 obtain⟨m,y,O⟩:=B i ty i 1 [cs[i]] (by
  have:=congrArg (λl=>l[i]?) Z;simp only[abn,List.getElem?_zipIdx,E,abv]at this;simpa using this) (by rw[abh]at M;simpa using M ty (abN E)) (by rw[ack u];rfl)
 exact⟨cs[i],m,y,mt u,O⟩
end
theorem iv{P:Program}{f:FuncId}{args:List AV}{vs:List Value}(h:aq P f args (.bool true))(w:World)(O:fX w Lu Nf args vs)(hG:kC w Nf:=by exact λg r h=>by cases h):Calls P f vs.toArray w λe w'=>e=.returned (.bool true)/\Below w.heap.size w w':=by
 obtain⟨v,H',L',h1,h2,rfl,rfl⟩:=h.2 ah.empty (λb _=>cS b) ⟨List.nodup_nil,λp hp=>by simp at hp⟩;have j:aX Lu ah.empty=Nf:=by
  funext c;apply propext;constructor
  .rintro(h|⟨b,x,D,E,_,_⟩)
   .exact h
   .rw[cS]at E;cases E
  .exact λh=>h.elim
 have Z:bJ w Lu ah.empty:=⟨λb D u=>(by cases u),λb D u=>(by cases u),λb x u=>(by rw[cS]at u;cases u),λc Y=>Y.elim,λb b' x x' D M u=>(by rw[cS]at u;cases u),by rw[j];exact hG⟩;refine(h1 w Lu vs Z (by rw[j];exact O)).mono ?_;rintro e w' ⟨v',G,rfl,N,k2,B,_⟩;cases N;rw[j]at B;exact⟨rfl,B.os,B.tape,B.output,B.size,λk S=>B.keep k S λh=>h⟩
end
section
def Qk(n:Int):List AV:=[.int .u8 n]
section
variable {Q:R} {n:Nat} {ins:List cb} {regs taint:List Int} {b2 bp bR bT:Nat} {pc:Int}
end
end
