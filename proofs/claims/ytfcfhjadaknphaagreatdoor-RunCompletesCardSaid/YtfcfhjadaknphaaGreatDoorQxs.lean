/- part -/
import Derived.Test.YtfcfhjadaknphaaGreatDoorQxq
set_option linter.all false
set_option maxRecDepth 100000
set_option maxHeartbeats 0
namespace Go.Proofs.YtfcfhjadaknphaaGreatDoor.Am
def qC(l:List aA)(s:aO):Option aA:=l.find? λx=>decide (x.name=s)
def lS(d:aA):Int:=bif decide (d.kind=1)then(bif decide (d.size≠0)then 2 else 1)else bif decide (d.kind=2)then 1 else bif decide (d.kind=3)then d.kind else bif decide (d.kind=4)then d.kind else bif decide (d.kind=5)then d.kind else bif decide (d.kind=6)then d.kind else 9
def Ie(p:aY)(s:aO):Option aA->Int
 |none=>bif decide (0<=dV p.threads s)then 7 else 0
 |some d=>lS d
def aV(p:aY)(loc:List aO)(s:aO):Int:=bif decide (0<=jx loc s)then 8 else Ie p s (qC p.decls s)
def Mb(p:aY)(t:Nat)(s:aO)(hw:p.wt<2^40)(ht:t<p.threads.length):ao Tryz.prog 180 [.agg p.enc,.YJ t,.str s] (.YJ (aV p p.threads[t].locals s)):=by
 have Y:=p.decls_len;have S:=p.threads_len;have M:=p.thread_wt ht;have O:p.threads[t].locals.length<p.threads[t].wt:=by unfold aj.wt;omega
 have c1:=oV p.threads[t].locals s YC;have G:=i4 p.decls s YC;have c3:=lR p.threads s YC;have d0:decide (0<=(t:Int))=true:=by simp
 have d1:=a8 ht;have hx:=aq (f:=aj.enc) ht;refine yO _ _ _ _ _ ?_;refine vw ?_;generalize E:(λ(u:AV) (K:SH)=>u=AV.YJ (aV p p.threads[t].locals s)/\K=[])=Q;have j:Q (.YJ (aV p p.threads[t].locals s)) []:=by subst E;exact⟨rfl,rfl⟩
 clear E;unfold aV at j;rcases gZ (p:=λx:aA=>decide (x.name=s)) p.decls 0 with⟨h1,h2⟩|⟨k,h1,h2,h3⟩
 .have D:cH p.decls s=-1:=h1;have B:qC p.decls s=none:=h2;rw[D]at G;rw[B,Ie]at j;clear D B h1 h2
  repeat' (first|refine sy ?_|refine s2 ?_ ?_|intro)
  all_goals
   refine Eq.mp (congrArg (λb=>Q (AV.YJ b) []) ?_) j;simp only[*,cond_true,cond_false]
 .have D:cH p.decls s=(k:Nat):=by rw[cH,h2];simp
  have B:qC p.decls s=some p.decls[k]:=h3;rw[D]at G;rw[B]at j;have d2:decide ((k:Int)<0)=false:=by simp
  have Z:=aq (f:=aA.enc) h1;rw[Ie]at j;clear D B h2 h3;generalize p.decls[k]=d at *;unfold lS at j
  repeat' (first|refine sy ?_|refine s2 ?_ ?_|intro)
  all_goals
   refine Eq.mp (congrArg (λb=>Q (AV.YJ b) []) ?_) j;simp only[*,cond_true,cond_false]
def gj(k a b:Int):Int:=if k=0 then 5 else if k≠a/\k≠b then 6 else 0
def FP(p:aY)(t:Nat)(s:aO)(a b:Int)(j:p.wt<2^40)(ht:t<p.threads.length):ao Tryz.prog 139 [.agg p.enc,.YJ t,.str s,.YJ a,.YJ b] (.YJ (gj (aV p p.threads[t].locals s) a b)):=by
 have u:=Mb p t s j ht;refine CB _ _ _ _ _ _ _ ?_;refine vw ?_;generalize aV p p.threads[t].locals s=k at *
 repeat' (first|refine sy ?_|refine s2 ?_ ?_|intro)
 all_goals (refine⟨?_,rfl⟩;simp_all[gj])
mutual
def ae.nd:ae->Nat
 |.mk _ _ _ l=>1+ae.nds l
def ae.nds:List ae->Nat
 |[]=>0
 |x::l=>x.nd+ae.nds l
end
mutual
def ae.dp:ae->Nat
 |.mk _ _ _ l=>1+ae.dps l
def ae.dps:List ae->Nat
 |[]=>0
 |x::l=>max x.dp (ae.dps l)
end
def ae.nd_eq(x:ae):x.nd=1+(x.l.map ae.nd).sum:=by
 have:∀l,ae.nds l=(l.map ae.nd).sum:=λl=>by induction l with
  |nil=>rfl
  |cons x l j=>rw[ae.nds,j];rfl
 cases x;rw[ae.nd,this];rfl
def ae.dp_eq(x:ae):x.dp=1+ae.dps x.l:=by cases x;rfl
mutual
def ae.nd_wt:∀x:ae,x.nd<=x.wt
 |.mk a b c l=>by have:=ae.nds_wt l;simp only[ae.nd,ae.wt];omega
def ae.nds_wt:∀l:List ae,ae.nds l<=ae.wts l
 |[]=>Fd _
 |x::l=>by have:=ae.nd_wt x;have:=ae.nds_wt l;simp only[ae.nds,ae.wts];omega
end
mutual
def ae.dp_wt:∀x:ae,x.dp<=x.wt
 |.mk a b c l=>by have:=ae.dps_wt l;simp only[ae.dp,ae.wt];omega
def ae.dps_wt:∀l:List ae,ae.dps l<=ae.wts l
 |[]=>Fd _
 |x::l=>by have:=ae.dp_wt x;have:=ae.dps_wt l;simp only[ae.dps,ae.wts];omega
end
def ae.dps_succ{l:List ae}{i:Nat}(h:i<l.length):ae.dps (l.take (i+1))=max (ae.dps (l.take i)) l[i].dp:=by
 rw[LE h];generalize l.take i=m
 induction m with
 |nil=>simp[ae.dps]
 |cons x m j=>simp only[XS,ae.dps,j];omega
def ae.dps_take(l:List ae)(i:Nat):ae.dps (l.take i)<=ae.dps l:=by
 induction l generalizing i with
 |nil=>simp
 | cons x l j=>cases i with
  |zero=>simp[ae.dps]
  |succ i=>have:=j i;simp only[YA,ae.dps];omega
def O1:∀(k:Nat) (x:ae),x.wt<=k->k<2^40->ao Tryz.prog 181 [.agg x.row] (.tup [.YJ (x.nd:Nat),.YJ (x.dp:Nat)]):=by
 intro k
 induction k with
 |zero=>intro x h;have:=x.wt_eq;omega
 |succ k M=>
  intro x hk hb;have E:=x.len;have B:=x.nd_eq;have O:=x.nd_wt;have D:=x.dp_eq;have S:=x.dp_wt;refine AS _ _ _ ?_;refine vw ?_
  repeat' (first|refine sy ?_|refine s2 ?_ ?_|intro)
  refine cS x.l.length (λ_=>True) (λi=>[.pptr [x.row] 0 0,.YJ ((1+((x.l.take i).map ae.nd).sum:Nat):Int),.YJ ((ae.dps (x.l.take i):Nat):Int),.YJ i]) YC trivial rfl (λi j Y hi _ G u=>?_) (λi j Y _ G=>?_)
  all_goals refine vw ?_
  .have Z:=GO j;have hc:=M x.l[i] (by have:=x.kid j;omega) YC;have hs:=qv (f:=ae.nd) x.l i j;have e1:=jY (a:=1+((x.l.take i).map ae.nd).sum) (b:=x.l[i].nd) YC;have u:=u trivial;rw[l8 j,ae.dps_succ j,<-Nat.add_assoc]at u
   repeat' (first|refine sy ?_|refine VD ?_|refine s2 ?_ ?_|intro)
   exact u
  .have e2:=jY (a:=ae.dps (x.l.take i)) (b:=1) (by have:=ae.dps_take x.l i;omega)
   repeat' (first|refine sy ?_|refine s2 ?_ ?_|intro)
   refine⟨?_,rfl⟩;subst j;rw[XT,B,D,Nat.add_comm 1 (ae.dps _)]
def qD(p:aY)(loc:List aO)(op:Int)(s:aO):Int:=if op=2 then gj (aV p loc s) 8 1 else if op=3 then gj (aV p loc s) 2 2 else 0
mutual
def gI(p:aY)(loc:List aO):ae->Int
 |.mk op _ name l=>if qD p loc op name=0 then namesL p loc l else qD p loc op name
def namesL(p:aY)(loc:List aO):List ae->Int
 |[]=>0
 |x::l=>if gI p loc x=0 then namesL p loc l else gI p loc x
end
def Mc(p:aY)(loc:List aO)(x:ae):gI p loc x=if qD p loc x.op x.name=0 then namesL p loc x.l else qD p loc x.op x.name:=by cases x;rw[gI];rfl
def md(p:aY)(loc:List aO):∀l m:List ae,namesL p loc (l++m)=if namesL p loc l=0 then namesL p loc m else namesL p loc l
 |[],m=>by simp[namesL]
 | x::l,m=>by
  rw[XS,namesL,md p loc l m,namesL];by_cases h:gI p loc x=0
  .simp[h]
  .simp[h]
def If{p:aY}{loc:List aO}{l:List ae}{i:Nat}(h:i<l.length)(j:namesL p loc (l.take i)=0):namesL p loc (l.take (i+1))=gI p loc l[i]:=by rw[LE h,md,if_pos j,namesL,namesL];split<;>simp_all
def Ig{p:aY}{loc:List aO}{l:List ae}(i:Nat)(j:¬namesL p loc (l.take i)=0):namesL p loc l=namesL p loc (l.take i):=by have:=md p loc (l.take i) (l.drop i);rw[List.take_append_drop,if_neg j]at this;exact this
def O2(p:aY)(t:Nat)(Z:p.wt<2^40)(ht:t<p.threads.length):∀(k:Nat) (x:ae),x.wt<=k->k<2^40->ao Tryz.prog 182 [.agg p.enc,.YJ t,.agg x.row] (.YJ (gI p p.threads[t].locals x)):=by
 intro k
 induction k with
 |zero=>intro x h;have:=x.wt_eq;omega
 |succ k Y=>
  intro x hk hb;have hlen:=x.len;have c1:=FP p t x.name 8 1 Z ht;have c2:=FP p t x.name 2 2 Z ht;generalize p.threads[t].locals=loc at *;refine AU _ _ _ _ _ ?_;refine vw ?_;generalize hQ:(λ(u:AV) (K:SH)=>u=AV.YJ (gI p loc x)/\K=[])=Q;have j:Q (.YJ (gI p loc x)) []:=by subst hQ;exact⟨rfl,rfl⟩
  clear hQ;rw[Mc]at j;have D:∀r:Int,r=qD p loc x.op x.name->AT Q [.YJ t,.pptr [p.enc] 0 0,.pptr [x.row] 0 0,.YJ r] []:=by
   intro r hr;rw[<-hr]at j;refine vw ?_
   repeat' (first|refine sy ?_|refine s2 ?_ ?_|intro)
   by_cases M:r=0
   .rw[if_pos M]at j;subst M;refine cS x.l.length (λ_=>True) (λi=>[.YJ t,.pptr [p.enc] 0 0,.pptr [x.row] 0 0,.YJ (namesL p loc (x.l.take i)),.YJ i]) YC trivial (by simp[namesL]) (λi B S hi _ O E=>?_) (λi B S _ O=>?_)
    all_goals refine vw ?_
    .have hx:=GO B;have hc:=Y x.l[i] (by have:=x.kid B;omega) YC;have E:=E trivial;by_cases G:namesL p loc (x.l.take i)=0
     .rw[If B G]at E;have d1:decide (namesL p loc (x.l.take i)=0)=true:=by simpa using G
      repeat' (first|refine sy ?_|refine s2 ?_ ?_|intro)
      exact E
     .have d1:decide (namesL p loc (x.l.take i)=0)=false:=by simpa using G
      repeat' (first|refine sy ?_|refine s2 ?_ ?_|intro)
      rw[Ig i G]at j;exact j
    .repeat' (first|refine sy ?_|refine s2 ?_ ?_|intro)
     rw[B,XT];exact j
   .rw[if_neg M]at j;have d1:decide (r=0)=false:=by simpa using M
    refine cS 0 (λ_=>True) (λi=>[.YJ t,.pptr [p.enc] 0 0,.pptr [x.row] 0 0,.YJ r,.YJ i]) YC trivial rfl (λi B S hi _ O E=>by omega) (λi B S _ O=>?_);refine vw ?_
    repeat' (first|refine sy ?_|refine s2 ?_ ?_|intro)
    all_goals exact j
  clear j
  repeat' (first|with_reducible refine D _ ?_|refine sy ?_|refine s2 ?_ ?_|intro)
  all_goals (clear Y D c1 c2;simp_all[qD])
def kS(p:aY)(loc:List aO)(x:ae):Int:=bif !Cl x then 3 else bif decide (24<(x.nd:Int))||decide (6<(x.dp:Int))then 2 else gI p loc x
def QB(p:aY)(t:Nat)(x:ae)(M:p.wt<2^40)(ht:t<p.threads.length)(j:x.wt<2^40):ao Tryz.prog 140 [.agg p.enc,.YJ t,.agg x.row] (.YJ (kS p p.threads[t].locals x)):=by
 have Y:=mc _ x (Fd _) j;have S:=O1 _ x (Fd _) j;have O:=O2 p t M ht _ x (Fd _) j;generalize p.threads[t].locals=loc at *;refine CE _ _ _ _ _ ?_;refine vw ?_;generalize G:(λ(u:AV) (K:SH)=>u=AV.YJ (kS p loc x)/\K=[])=Q;have E:Q (.YJ (kS p loc x)) []:=by subst G;exact⟨rfl,rfl⟩
 clear G;unfold kS at E;generalize Cl x=A at *;generalize gI p loc x=B at *;generalize((x.nd:Nat):Int)=C at *;generalize((x.dp:Nat):Int)=D at *
 repeat' (first|refine sy ?_|refine s2 ?_ ?_|intro)
 all_goals
  refine Eq.mp (congrArg (λb=>Q (AV.YJ b) []) ?_) E;simp only[*,cond_true,cond_false,Yx,Bool.not_false,X8,Yb,Yy,Yt,Bool.or_true,Bool.or_false,Bool.true_or,Bool.false_or]
