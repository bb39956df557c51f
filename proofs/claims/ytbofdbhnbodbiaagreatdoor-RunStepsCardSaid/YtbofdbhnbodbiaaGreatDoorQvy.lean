/- A part of the proof; the statement is proved in the last part. -/
import Derived.Test.YtbofdbhnbodbiaaGreatDoorQvx
set_option linter.all false
set_option maxRecDepth 100000
set_option maxHeartbeats 20000000
namespace Go.Proofs.YtbofdbhnbodbiaaGreatDoor.Am
section
theorem Ik(i n:Int):aq Tryz.prog 72 [.Uf i,.Uf n] (.Uf (ixS i n)):=by
 refine zd _ _ _ _ ?_;refine vw ?_;generalize M:(λ(u:AV) (K:SH)=>u=AV.Uf (ixS i n)/\K=[])=Q;have G:∀b,ixS i n=b->Q (.Uf b) []:=λb N=>by subst M;exact⟨by rw[N],rfl⟩
 clear M;by_cases h:n<1
 .have S:decide (n<1)=true:=decide_eq_true h
  repeat' (first|refine st ?_|refine sb λB j=>?_|refine s2 (λh=>?_) λh=>?_|fail)
  exact G _ (by rw[ixS,if_pos h])
 .have S:decide (n<1)=false:=decide_eq_false h;have D:n≠0:=by omega
  by_cases E:i.tmod n<0
  .have O:decide (i.tmod n<0)=true:=decide_eq_true E
   repeat' (first|refine st ?_|refine jt (DH D ?_)|refine sb λB j=>?_|refine s2 (λh=>?_) λh=>?_|fail)
   exact G _ (by rw[ixS,if_neg h,if_pos E])
  .have O:decide (i.tmod n<0)=false:=decide_eq_false E
   repeat' (first|refine st ?_|refine jt (DH D ?_)|refine sb λB j=>?_|refine s2 (λh=>?_) λh=>?_|fail)
   exact G _ (by rw[ixS,if_neg h,if_neg E])
theorem s9{op:Int}(h:op<6\/28<op):eU op=0:=by
 unfold eU;rcases Fn op.toNat 29 with g|g
 .have j:∀k:Nat,k<6->gD.getD k 0=0:=by decide
  exact j _ Ua
 .rw[List.getD,LE (by exact g)];rfl
theorem lq(op:Int):aq Tryz.prog 40 [.Uf op] (.Uf (eU op)):=by
 refine ac.fz (Av _ _ _ ?_);refine vw ?_;generalize N:(λ(v:AV) (L:SH)=>∃M O,az [v] L [M] O/\M=AV.Uf (eU op)/\O=[])=Q;have B:∀b L,eU op=b->Q (.Uf b) L:=λb L h=>by subst N;exact⟨_,[],az.all (.refl _),by rw[h],rfl⟩
 clear N;by_cases D:6<=op/\op<=28
 .rcases ops op Ua D.2 with rfl|rfl|rfl|rfl|rfl|rfl|rfl|rfl|rfl|rfl|rfl|rfl|rfl|rfl|rfl|rfl|rfl|rfl|rfl|rfl|rfl|rfl|rfl|rfl|rfl|rfl|rfl|rfl
  all_goals first
   |(exfalso;omega)
   |skip
  all_goals
   clear D
   repeat' (first|refine B4 Ue Ue rp rfl ?_|refine st ?_|refine sb λu j=>?_|refine s2 (λh=>?_) λh=>?_|fail)
   exact B _ _ rfl
 .by_cases G:op<6
  .have S:decide (op<6)=true:=decide_eq_true G;have E:=λL=>B 0 L (s9 (.inl G))
   clear B D
   repeat' (first|refine st ?_|refine sb λu j=>?_|refine s2 (λh=>?_) λh=>?_|fail)
   exact E _
  .have S:decide (op<6)=false:=decide_eq_false G;have Y:decide (op > 28)=true:=decide_eq_true Ua;have E:=λL=>B 0 L (s9 (.inr Ua))
   clear B D
   repeat' (first|refine st ?_|refine sb λu j=>?_|refine s2 (λh=>?_) λh=>?_|fail)
   exact E _
theorem F8(i:aS)(s:aC)(t:Int)(G:1<=i.op)(h2:i.op<=28)(O:∀r∈aN i,0<=r/\r<s.regs.length):aq Tryz.prog 41 [.agg i.enc,.agg s.enc] (.Uf (cQ i s t).obj):=by
 obtain⟨op,E,D,u,m,j⟩:=i;refine ac.fz (wG _ _ _ _ ?_);refine vw ?_;generalize hQ:(λ(v:AV) (L:SH)=>∃Y L2,az [v] L [Y] L2/\Y=AV.Uf (cQ ⟨op,E,D,u,m,j⟩ s t).obj/\L2=[])=Q;have Z:∀b L,(cQ ⟨op,E,D,u,m,j⟩ s t).obj=b->Q (.Uf b) L:=λb L h=>by subst hQ;exact⟨_,[],az.all (.refl _),by rw[h],rfl⟩
 clear hQ;dsimp only at G h2;rw[show aS.enc ⟨op,E,D,u,m,j⟩=[.Uf op,.Uf E,.Uf D,.Uf u,.Uf m,.Uf j]from rfl];unfold aC.enc;by_cases S:op=7\/op=9
 .have N:0<=u/\u<s.regs.length:=by rcases S with rfl|rfl<;>exact O u (by simp[aN])
  obtain⟨c0,c1⟩:=N;have y:=i9 (s:=s) c0 c1;have hi:=Ik (s.reg u) m;clear O G h2;rcases S with rfl|rfl
  all_goals
   repeat' (first|refine st ?_|(refine pf 72 ?_;refine pm (hi) ?_)|refine sb λM B=>?_|refine s2 (λh=>?_) λh=>?_|fail)
   exact Z _ _ (by simp[cQ])
 .clear O;rcases ops op G h2 with rfl|rfl|rfl|rfl|rfl|rfl|rfl|rfl|rfl|rfl|rfl|rfl|rfl|rfl|rfl|rfl|rfl|rfl|rfl|rfl|rfl|rfl|rfl|rfl|rfl|rfl|rfl|rfl
  all_goals first
   |(exfalso;omega)
   |skip
  all_goals
   clear S G h2
   repeat' (first|refine st ?_|refine sb λM B=>?_|refine s2 (λh=>?_) λh=>?_|fail)
   exact Z _ _ (by simp[cQ])
structure Ml(c:aZ)(s:cm):Prop where
 fit:wi c.w s.sync
 nc:s.cells.length=c.w.cells.length
 nf:s.futures.length=c.w.futures.length
 nt:s.threads.length=c.ts.length
 sy:s.sync.threads.length=c.ts.length
 pc:∀t:Nat,t<c.ts.length->inB (ay s t).pc (am c t).ins.length=true/\((ay s t).regs.length:Int)=(am c t).regs/\((ay s t).taint.length:Int)=(am c t).regs
section
variable (c:aZ) (s:cm)
theorem Kz(G:aq Tryz.prog 29 [.agg c.enc] (.bool false)):aq Tryz.prog 39 [.agg c.enc,.agg s.enc] (.bool false):=by
 refine ac.fz (qj _ _ _ _ ?_);refine vw ?_;generalize B:(λ(v:AV) (L:SH)=>∃j D,az [v] L [j] D/\j=AV.bool false/\D=[])=Q;have M:∀L,Q (.bool false) L:=λL=>by subst B;exact⟨_,[],az.all (.refl _),rfl,rfl⟩
 clear B
 repeat' (first|refine st ?_|(refine pf 29 ?_;refine pm (G) ?_)|refine sb λE u=>?_|refine s2 (λh=>?_) λh=>?_|fail)
 exact M _
theorem KA(G:aq Tryz.prog 29 [.agg c.enc] (.bool true))(H:Ml c s)(O:c.w.conds.length<2^62)(vS:c.ts.length<2^62):aq Tryz.prog 39 [.agg c.enc,.agg s.enc] (.bool true):=by
 refine ac.fz (qj _ _ _ _ ?_);refine vw ?_;generalize hQ:(λ(v:AV) (L:SH)=>∃Z L2,az [v] L [Z] L2/\Z=AV.bool true/\L2=[])=Q;have M:∀L,Q (.bool true) L:=λL=>by subst hQ;exact⟨_,[],az.all (.refl _),rfl,rfl⟩
 clear hQ;have D:=EC c.w s.sync O;rw[fO.2 H.fit]at D;have d1:decide ((s.cells.length:Int)≠c.w.cells.length)=false:=decide_eq_false (by have:=H.nc;omega);have d2:decide ((s.futures.length:Int)≠c.w.futures.length)=false:=decide_eq_false (by have:=H.nf;omega);have d3:decide ((s.threads.length:Int)≠c.ts.length)=false:=decide_eq_false (by have:=H.nt;omega);have lp:∀L:SH,W.loop (Au Q) [.pptr [c.enc] 0 0,.pptr [s.enc] 0 0,.Uf (0:Nat)] L:=λL=>by
  refine eB c.ts.length (λ_=>True) (λi=>[.pptr [c.enc] 0 0,.pptr [s.enc] 0 0,.Uf i]) vS trivial rfl (λi u hd hi _ nx N=>?_) (λi u hd _ nx=>?_)
  all_goals refine vw ?_
  .obtain⟨a,b,d⟩:=H.pc i u;have e1:ay s i=s.threads[i]'(by rw[H.nt];exact u):=by simp[ay,show i<s.threads.length by rw[H.nt];exact u]
   have e2:am c i=c.ts[i]:=by simp[am,u]
   have Y:=ao (f:=eb.enc) u;have S:=ao (f:=aC.enc) (show i<s.threads.length by rw[H.nt];exact u);rw[<-e1]at S;rw[<-e2]at Y;have N:=N trivial;clear e1 e2 H D M G;obtain⟨a1,a2⟩:=av.1 a;generalize ay s i=th at *;generalize am c i=cd at *;obtain⟨pc,rg,tn,ev⟩:=th;obtain⟨cr,E⟩:=cd;unfold aC.enc at S;unfold eb.enc at Y;dsimp only at *;have f1:decide (pc<0)=false:=decide_eq_false Ua;have f2:decide (pc>=(E.length:Int))=false:=decide_eq_false Ua;have f3:decide ((rg.length:Int)≠cr)=false:=decide_eq_false (by simpa using b);have f4:decide ((tn.length:Int)≠cr)=false:=decide_eq_false (by simpa using d);clear a a1 a2 b d;unfold cm.enc aZ.enc at *
   repeat' (first|refine st ?_|refine sb λB j=>?_|refine s2 (λh=>?_) λh=>?_|fail)
   exact N
  .clear H D G;unfold cm.enc aZ.enc at *
   repeat' (first|refine st ?_|refine sb λB j=>?_|refine s2 (λh=>?_) λh=>?_|fail)
   exact M _
 clear H M;unfold cm.enc aZ.enc at *;rw[show c.w.enc=[.lst (c.w.cells.map aH.enc),.lst (c.w.locks.map bC.enc),.lst (c.w.conds.map bR.enc),.lst (c.w.futures.map au),.lst (c.w.threads.map au),.lst (c.w.sites.map bU.enc)]from rfl,show s.sync.enc=[.lst (s.sync.locks.map LockD.enc),.Uf s.sync.tx,.lst (s.sync.done.map aB),.lst (s.sync.threads.map ThrD.enc)]from rfl]at D
 repeat' (first|exact lp _|refine st ?_|(refine pf 29 ?_;refine pm (G) ?_)|(refine pf 71 ?_;refine pm (D) ?_)|refine sb λB j=>?_|refine s2 (λh=>?_) λh=>?_|fail)
end
theorem oH{α:Type}{f:α->List AV}{l:List α}{n by_:Nat}{L:SH}{KL:AV->SH->Prop}(u:∀x,(f x).length=n)(h2:2*l.length*by_<=2^48)(D:2*l.length<=2^62)(h4:∀x,(f x).all AV.one=true)
  (E:l=[]->KL .nils L) (h:∀b,b∉L.names->KL (.sl b 0 l.length) ((b,⟨n,l.map f⟩)::L)):W.append n by_ .nils (.lst (l.map f)) L KL:=by
 refine⟨[],l.map f,rfl,oU u,by simpa using h2,by simpa using D,?_,λe=>E (by simpa using e),λe b B=>by simpa using h b B⟩;rw[SM];intro r j;obtain⟨x,_,rfl⟩:=Tl.1 j;exact h4 x
theorem OF{c:aZ}{s:cm}(H:Ml c s)(t:Int):gN c s t=inB t c.ts.length:=by
 unfold gN;rw[H.nt,H.sy];cases h:inB t c.ts.length with
 |false=>rfl
 |true=>obtain⟨u,B⟩:=av.1 h;obtain⟨j,rfl⟩:=SZ u;obtain⟨a,b,d⟩:=H.pc j Ua;rw[a,decide_eq_true b,decide_eq_true d];rfl
theorem vF(c:aZ)(s:cm)(t:Int)(M:aq Tryz.prog 29 [.agg c.enc] (.bool false)):aq Tryz.prog 17 [.agg c.enc,.agg s.enc,.Uf t] (eD none):=by
 have N:=Kz c s M;refine ac.fz (lf _ _ _ _ _ ?_);refine vw ?_;generalize B:(λ(v:AV) (L:SH)=>∃j D,az [v] L [j] D/\j=eD none/\D=[])=Q;have G:∀L,Q (.tup [.agg [.Uf 0,.Uf 0,.Uf 0,.Uf 0,.Uf 0,.nils,.nils],.bool false]) L:=λL=>by subst B;exact⟨_,[],az.all (Fz.tups (.cons (Fz.aggs (m:=da.zero.enc) (by exact fl)) (.cons (.refl _) .nil))),rfl,rfl⟩
 clear B;unfold cm.enc aZ.enc at *
 repeat' (first|refine st ?_|(refine pf 39 ?_;refine pm (N) ?_)|refine sb λE u=>?_|refine s2 (λh=>?_) λh=>?_|fail)
 exact G _
end
def EF(l:List Int)(n:Int)(hl:l.length<2^40):aq Tryz.prog 79 [.lst (l.map ah),.Uf n] (.lst ((l.filter λy=>!decide (y=n)).map ah)):=by
 refine ac.fz (uF _ _ _ _ ?_);refine vw ?_;generalize O:(λ(v:AV) (L:SH)=>∃N S,az [v] L [N] S/\N=AV.lst ((l.filter λy=>!decide (y=n)).map ah)/\S=[])=Q;have E:∀v L,Fz L v (.lst ((l.filter λy=>!decide (y=n)).map ah))->Q v L:=λv L h=>by subst O;exact⟨_,[],az.all h,rfl,rfl⟩
 clear O;refine bD l.length (λi (o:Option Nat)=>([.lst (l.map ah),.Uf n,aj o ((l.take i).filter λy=>!decide (y=n)).length,.Uf i],ab o 1 (((l.take i).filter λy=>!decide (y=n)).map ah))) (λi o=>o=none->((l.take i).filter λy=>!decide (y=n))=[]) none (λ_=>rfl) (az.vals (.cons (.refl _) (.cons (.refl _) (.cons .nile (.cons (.refl _) .nil))))) ?_;intro i o hi M;dsimp only;refine vw ?_;have Z:((l.take i).filter λy=>!decide (y=n)).length<=i:=Nat.le_trans (List.length_filter_le _ _) (by simp;omega);rcases Nat.lt_or_ge i l.length with D|D
 .have hd:=aW D;have hx:=ao (f:=ah) D;have j:((l.take (i+1)).filter λy=>!decide (y=n))=if l[i]=n then((l.take i).filter λy=>!decide (y=n))else((l.take i).filter λy=>!decide (y=n))++[l[i]]:=by rw[Sw D,List.filter_append];by_cases h:l[i]=n<;>simp[h]
  clear E;by_cases h:l[i]=n
  .have h1:decide (l[i]≠n)=false:=decide_eq_false (λe=>e h);rw[if_pos h]at j
   repeat' (first|refine st ?_|refine sb λu B=>?_|refine s2 (λh=>?_) λh=>?_|fail)
   exact⟨i+1,o,Ua,Ua,by rw[j];exact M,df (by rw[ax D Ua,j]) (by rw[j])⟩
  .have h1:decide (l[i]≠n)=true:=decide_eq_true h;rw[if_neg h]at j;have G:o=none->(((l.take i).filter λy=>!decide (y=n)).map ah)=[]:=λe=>by rw[M e];rfl
   repeat' (first|refine st ?_|refine bF rp rp Ud G Uc Ud (by simp;omega) (by simp;omega) Uc (λu B=>?_)|refine sb λu B=>?_|refine s2 (λh=>?_) λh=>?_|fail)
   exact⟨i+1,some u,Ua,Ua,nofun,az.pickE (R:=[(u,_)]) rp (by rw[ax D Ua,j];simp[cF,aj]) (by rw[j];simp[ab,ah])⟩
 .have hd:=aX D;rw[SX D]at *;have fin:∀L,(∀q∈ab o 1 ((l.filter λy=>!decide (y=n)).map ah),q∈L)->Q (aj o (l.filter λy=>!decide (y=n)).length) L:=λL Y=>E _ _ (by
   cases o with
   |none=>rw[M rfl];exact .emp
   |some b=>exact Fz.sls (Y _ (.head _)) rfl Ue rfl)
  clear E
  repeat' (first|refine st ?_|refine sb λu B=>?_|refine s2 (λh=>?_) λh=>?_|fail)
  exact fin _ λq h=>h
def rq(i:Nat):List AV:=[.Uf (i:Int)]
def vG(a b d:AV)(bt:Nat)(T:List ThrD)(c:Int)(hT:T.length<2^40)(O:([a,b,d,.sl bt 0 T.length]:List AV).all AV.one=true):
  ac Tryz.prog 80 [.agg [a,b,d,.sl bt 0 T.length],.Uf c] [(bt,⟨3,T.map ThrD.enc⟩)] λv L=>v=.lst ((aG T c T.length).map rq)/\L=[(bt,⟨3,T.map ThrD.enc⟩)]:=by
 refine ac.fz (uG _ _ _ _ ?_);refine vw ?_;generalize hQ:(λ(v:AV) (L:SH)=>∃v2 L2,az [v] L [v2] L2/\v2=AV.lst ((aG T c T.length).map rq)/\L2=[(bt,(⟨3,T.map ThrD.enc⟩:Blk))])=Q
 repeat' (first|refine xU ?_ rfl O (by exact T8 _)|refine st ?_|refine sb λB u=>?_|refine s2 (λh=>?_) λh=>?_|fail)
 refine bD T.length (λi (o:Option Nat)=>([.Uf c,.pptr [[a,b,d,.sl bt 0 T.length]] 0 0,aj o (aG T c i).length,.Uf i],(bt,⟨3,T.map ThrD.enc⟩)::ab o 1 ((aG T c i).map rq))) (λi o=>o=none->aG T c i=[]) none (λ_=>rfl) (az.vals (.cons (.refl _) (.cons (.refl _) (.cons .nile (.cons (.refl _) .nil))))) ?_;intro i o hi ho;dsimp only;refine vw ?_;have hle:(aG T c i).length<=i:=Nat.le_trans (List.length_filter_le _ _) Ud;rcases Nat.lt_or_ge i T.length with G|G
 .have hd:=aW G;have hx:=ao (f:=ThrD.enc) G;have D:=lR T c i;rw[show fF T c i=cU T[i] c by simp[fF,G]]at D;have ho2:o=none->(aG T c i).map rq=[]:=λe=>by rw[ho e];rfl
  have E:cU T[i] c=false->∃j o',i<j/\j<=T.length/\(o'=none->aG T c j=[])/\az [.Uf c,.pptr [[a,b,d,.sl bt 0 T.length]] 0 0,aj o (aG T c i).length,.Uf (IntKind.i64.wrap ((i:Int)+1))] ((bt,⟨3,T.map ThrD.enc⟩)::ab o 1 ((aG T c i).map rq))
    [.Uf c,.pptr [[a,b,d,.sl bt 0 T.length]] 0 0,aj o' (aG T c j).length,.Uf j] ((bt,⟨3,T.map ThrD.enc⟩)::ab o' 1 ((aG T c j).map rq)):=λh=>by
   rw[h]at D;simp only[SO,if_false,Ta]at D;exact⟨i+1,o,Ua,Ua,by rw[D];exact ho,df (by rw[ax G Ua,D]) (by rw[D])⟩
  generalize T[i]=y at *;obtain⟨M,N,Z⟩:=y;rw[show ThrD.enc ⟨M,N,Z⟩=[.Uf M,.Uf N,.bool Z]from rfl]at hx;by_cases Y:M=3
  .have d1:decide (M=3)=true:=decide_eq_true Y;by_cases S:N=c
   .have d2:decide (N=c)=true:=decide_eq_true S;rw[show cU ⟨M,N,Z⟩ c=true by simp[cU,Y,S],if_pos rfl]at D
    repeat' (first|refine st ?_|refine bF rp rp Ud ho2 Uc Ud (by simp;omega) (by simp;omega) Uc (λB u=>?_)|refine sb λB u=>?_|refine s2 (λh=>?_) λh=>?_|fail)
    exact⟨i+1,some B,Ua,Ua,nofun,az.pickE (R:=[(bt,_),(B,_)]) rp (by rw[ax G Ua,D];simp[cF,aj]) (by rw[D];simp[ab,rq])⟩
   .have d2:decide (N=c)=false:=decide_eq_false S;have sk:=E (by simp[cU,S])
    repeat' (first|refine st ?_|refine sb λB u=>?_|refine s2 (λh=>?_) λh=>?_|fail)
    exact sk
  .have d1:decide (M=3)=false:=decide_eq_false Y;have sk:=E (by simp[cU,Y])
   repeat' (first|refine st ?_|refine sb λB u=>?_|refine s2 (λh=>?_) λh=>?_|fail)
   exact sk
 .have hd:=aX G;have hi0:i=T.length:=by omega
  subst hi0;have fin:Q (aj o (aG T c T.length).length) ((bt,⟨3,T.map ThrD.enc⟩)::ab o 1 ((aG T c T.length).map rq)):=by
   subst hQ;refine⟨.lst ((aG T c T.length).map rq),_,az.drop (K:=ab o 1 ((aG T c T.length).map rq)) (R:=[(bt,⟨3,T.map ThrD.enc⟩)]) (SG (l₁:=[(bt,(⟨3,T.map ThrD.enc⟩:Blk))])) rfl (fU.at_ (.cons ?_ .nil)).2,rfl,rfl⟩;cases o with
   |none=>rw[ho rfl];exact .emp
   |some b=>exact Fz.sls (.head _) rfl Ue rfl
  clear hQ
  repeat' (first|refine st ?_|refine sb λB u=>?_|refine s2 (λh=>?_) λh=>?_|fail)
  exact fin
def EG(s:SyncD)(h1:s.locks.length<2^40)(h2:s.done.length<=140737488351232)(h3:s.threads.length<2^40)(Y:∀l∈s.locks,l.readers.length<2^40):
  ac Tryz.prog 77 [.agg s.enc] [] λv L=>∃(M:Option Nat) (E bt:Nat),v=.agg [aj M s.locks.length,.Uf s.tx,.sl E 0 s.done.length,.sl bt 0 s.threads.length]/\L=ab M 2 (s.locks.map LockD.enc)++[(bt,⟨3,s.threads.map ThrD.enc⟩),(E,⟨1,s.done.map aB⟩)]/\(M=none->s.locks=[]):=by
 refine ac.fz (Ay _ _ _ ?_);refine vw ?_;generalize hQ:(λ(v:AV) (L:SH)=>∃v2 L2,az [v] L [v2] L2/\∃(M:Option Nat) (E bt:Nat),v2=.agg [aj M s.locks.length,.Uf s.tx,.sl E 0 s.done.length,.sl bt 0 s.threads.length]/\L2=ab M 2 (s.locks.map LockD.enc)++[(bt,(⟨3,s.threads.map ThrD.enc⟩:Blk)),(E,⟨1,s.done.map aB⟩)]/\(M=none->s.locks=[]))=Q
 repeat' (first|refine st ?_|refine ga rp (λ_=>rfl) Uc (by simp;omega) (by simp;omega) (λ_=>rfl) (λB u=>?_)|refine sb λB u=>?_|refine s2 (λh=>?_) λh=>?_|fail)
 rename_i a5 _ b2 _ a3 _ E _ a1 _ bt _;rw[Nat.zero_add,Nat.zero_add];revert B;intro b3 _;refine bD s.locks.length (λi (o:Option Nat)=>([.pptr [s.enc] 0 0,.ptr b2 0 0,.ptr b3 0 0,.Uf i],(b3,⟨4,[[aj o i,.Uf s.tx,.sl E 0 s.done.length,.sl bt 0 s.threads.length]]⟩)::(bt,⟨3,s.threads.map ThrD.enc⟩)::(E,⟨1,s.done.map aB⟩)::(b2,⟨4,[[.nils,.Uf 0,.nils,.nils]]⟩)::ab o 2 ((s.locks.take i).map LockD.enc))) (λi o=>o=none->i=0) none (λ_=>rfl) (az.box (K:=[]) (.refl _) (.cons .nile (.cons (.refl _) (.cons (.refl _) (.cons (.refl _) .nil))))) ?_;intro i o hi ho;dsimp only;refine vw ?_;have D:((s.locks.take i).map LockD.enc).length=i:=by simp;omega
 have h0:o=none->(s.locks.take i).map LockD.enc=[]:=λe=>by rw[ho e];rfl
 rcases Fn i s.locks.length with N|N
 .have hd:=aW N;have hx:=ao (f:=LockD.enc) N;have hr:=Y _ (Sy N)
  repeat' (first|refine st ?_|refine ga rp (λ_=>rfl) Uc (by simp;omega) (by simp;omega) (λ_=>rfl) (λB u=>?_)|refine bF rp rp D h0 Uc Ud (by simp;omega) (by simp;omega) Uc (λB u=>?_)|refine sb λB u=>?_|refine s2 (λh=>?_) λh=>?_|fail)
  rename_i br _ _ _;refine⟨i+1,some B,Ua,Ua,nofun,?_⟩;refine az.rowA (A:=[(b3,_),(bt,_),(E,_),(b2,_)]) (b:=B) (R:=[]) (rows':=(s.locks.take (i+1)).map LockD.enc) rp ?_ ?_ (by rw[ax N Ua]<;>rfl)
  .simp;omega
  .intro j r r' O G;rw[Sw N,LT]at G;rcases Fn j i with Z|Z
   .rw[SE (by rw[D];exact Z)]at O G;rw[O]at G;cases G;exact fU.refl _ _
   .rw[SA (by rw[D];exact Z),D]at O G;generalize j-i=k at O G
    match k with
    |0=>cases O;cases G;exact .cons (.refl _) (.cons (Fz.sls (l:=s.locks[i].readers) mm rfl Ue Ud) .nil)
    |k+1=>simp at O
 .have hd:=aX N;have hi0:i=s.locks.length:=by omega
  subst hi0;rw[SX (Fd _)];have S:o=none->s.locks=[]:=λe=>Tp.1 (ho e)
  cases o with
  |none=>
   dsimp only[aj,ab]
   repeat' (first|refine st ?_|refine sb λB u=>?_|refine s2 (λh=>?_) λh=>?_|fail)
   subst hQ;exact⟨_,_,az.pick (R:=[(bt,_),(E,_)]) rp rfl,none,E,bt,rfl,rfl,S⟩
  |some bl=>
   dsimp only[aj,ab]
   repeat' (first|refine st ?_|refine sb λB u=>?_|refine s2 (λh=>?_) λh=>?_|fail)
   subst hQ;exact⟨_,_,az.pick (R:=[(bl,_),(bt,_),(E,_)]) rp rfl,some bl,E,bt,rfl,rfl,S⟩
end Go.Proofs.YtbofdbhnbodbiaaGreatDoor.Am
