/- A part of the proof; the statement is proved in the last part. -/
import Derived.Test.YtbofdbhnbodbiaaGreatDoorQux
set_option linter.all false
set_option maxRecDepth 100000
set_option maxHeartbeats 20000000
namespace Go.Proofs.YtbofdbhnbodbiaaGreatDoor.Am
section
theorem IT(i n:Int):aq Tryz.prog 72 [.U1 i,.U1 n] (.U1 (ixS i n)):=by
 refine zz _ _ _ _ ?_;refine vw ?_;generalize M:(λ(u:AV) (K:SH)=>u=AV.U1 (ixS i n)/\K=[])=Q;have G:∀b,ixS i n=b->Q (.U1 b) []:=λb N=>by subst M;exact⟨by rw[N],rfl⟩
 clear M;by_cases h:n<1
 .have S:decide (n<1)=true:=decide_eq_true h
  repeat' (first|refine st ?_|refine sb λB j=>?_|refine s2 (λh=>?_) λh=>?_|fail)
  exact G _ (by rw[ixS,if_pos h])
 .have S:decide (n<1)=false:=decide_eq_false h;have D:n≠0:=by omega
  by_cases E:i.tmod n<0
  .have O:decide (i.tmod n<0)=true:=decide_eq_true E
   repeat' (first|refine st ?_|refine g9 (Ed D ?_)|refine sb λB j=>?_|refine s2 (λh=>?_) λh=>?_|fail)
   exact G _ (by rw[ixS,if_neg h,if_pos E])
  .have O:decide (i.tmod n<0)=false:=decide_eq_false E
   repeat' (first|refine st ?_|refine g9 (Ed D ?_)|refine sb λB j=>?_|refine s2 (λh=>?_) λh=>?_|fail)
   exact G _ (by rw[ixS,if_neg h,if_neg E])
theorem tF{op:Int}(h:op<6\/28<op):eZ op=0:=by
 unfold eZ;rcases Tf op.toNat 29 with g|g
 .have j:∀k:Nat,k<6->gI.getD k 0=0:=by decide
  exact j _ UW
 .rw[List.getD,Tg (by exact g)];rfl
theorem lD(op:Int):aq Tryz.prog 40 [.U1 op] (.U1 (eZ op)):=by
 refine ac.fz (AO _ _ _ ?_);refine vw ?_;generalize N:(λ(v:AV) (L:SH)=>∃M O,az [v] L [M] O/\M=AV.U1 (eZ op)/\O=[])=Q;have B:∀b L,eZ op=b->Q (.U1 b) L:=λb L h=>by subst N;exact⟨_,[],az.all (.refl _),by rw[h],rfl⟩
 clear N;by_cases D:6<=op/\op<=28
 .rcases ops op UW D.2 with rfl|rfl|rfl|rfl|rfl|rfl|rfl|rfl|rfl|rfl|rfl|rfl|rfl|rfl|rfl|rfl|rfl|rfl|rfl|rfl|rfl|rfl|rfl|rfl|rfl|rfl|rfl|rfl
  all_goals first
   |(exfalso;omega)
   |skip
  all_goals
   clear D
   repeat' (first|refine Cw U0 U0 rp rfl ?_|refine st ?_|refine sb λu j=>?_|refine s2 (λh=>?_) λh=>?_|fail)
   exact B _ _ rfl
 .by_cases G:op<6
  .have S:decide (op<6)=true:=decide_eq_true G;have E:=λL=>B 0 L (tF (.inl G))
   clear B D
   repeat' (first|refine st ?_|refine sb λu j=>?_|refine s2 (λh=>?_) λh=>?_|fail)
   exact E _
  .have S:decide (op<6)=false:=decide_eq_false G;have Y:decide (op > 28)=true:=decide_eq_true UW;have E:=λL=>B 0 L (tF (.inr UW))
   clear B D
   repeat' (first|refine st ?_|refine sb λu j=>?_|refine s2 (λh=>?_) λh=>?_|fail)
   exact E _
theorem GF(i:aT)(s:aD)(t:Int)(G:1<=i.op)(h2:i.op<=28)(O:∀r∈aO i,0<=r/\r<s.regs.length):aq Tryz.prog 41 [.agg i.enc,.agg s.enc] (.U1 (cS i s t).obj):=by
 obtain⟨op,E,D,u,m,j⟩:=i;refine ac.fz (wY _ _ _ _ ?_);refine vw ?_;generalize hQ:(λ(v:AV) (L:SH)=>∃Y L2,az [v] L [Y] L2/\Y=AV.U1 (cS ⟨op,E,D,u,m,j⟩ s t).obj/\L2=[])=Q;have Z:∀b L,(cS ⟨op,E,D,u,m,j⟩ s t).obj=b->Q (.U1 b) L:=λb L h=>by subst hQ;exact⟨_,[],az.all (.refl _),by rw[h],rfl⟩
 clear hQ;dsimp only at G h2;rw[show aT.enc ⟨op,E,D,u,m,j⟩=[.U1 op,.U1 E,.U1 D,.U1 u,.U1 m,.U1 j]from rfl];unfold aD.enc;by_cases S:op=7\/op=9
 .have N:0<=u/\u<s.regs.length:=by rcases S with rfl|rfl<;>exact O u (by simp[aO])
  obtain⟨c0,c1⟩:=N;have y:=ji (s:=s) c0 c1;have hi:=IT (s.reg u) m;clear O G h2;rcases S with rfl|rfl
  all_goals
   repeat' (first|refine st ?_|(refine pf 72 ?_;refine pm (hi) ?_)|refine sb λM B=>?_|refine s2 (λh=>?_) λh=>?_|fail)
   exact Z _ _ (by simp[cS])
 .clear O;rcases ops op G h2 with rfl|rfl|rfl|rfl|rfl|rfl|rfl|rfl|rfl|rfl|rfl|rfl|rfl|rfl|rfl|rfl|rfl|rfl|rfl|rfl|rfl|rfl|rfl|rfl|rfl|rfl|rfl|rfl
  all_goals first
   |(exfalso;omega)
   |skip
  all_goals
   clear S G h2
   repeat' (first|refine st ?_|refine sb λM B=>?_|refine s2 (λh=>?_) λh=>?_|fail)
   exact Z _ _ (by simp[cS])
structure MU(c:aY)(s:cy):Prop where
 fit:wK c.w s.sync
 nc:s.cells.length=c.w.cells.length
 nf:s.futures.length=c.w.futures.length
 nt:s.threads.length=c.ts.length
 sy:s.sync.threads.length=c.ts.length
 pc:∀t:Nat,t<c.ts.length->inB (ay s t).pc (ao c t).ins.length=true/\((ay s t).regs.length:Int)=(ao c t).regs/\((ay s t).taint.length:Int)=(ao c t).regs
section
variable (c:aY) (s:cy)
theorem Le(G:aq Tryz.prog 29 [.agg c.enc] (.bool true))(H:MU c s)(O:c.w.conds.length<2^62)(wx:c.ts.length<2^62):aq Tryz.prog 39 [.agg c.enc,.agg s.enc] (.bool true):=by
 refine ac.fz (AN _ _ _ _ ?_);refine vw ?_;generalize hQ:(λ(v:AV) (L:SH)=>∃Z L2,az [v] L [Z] L2/\Z=AV.bool true/\L2=[])=Q;have M:∀L,Q (.bool true) L:=λL=>by subst hQ;exact⟨_,[],az.all (.refl _),rfl,rfl⟩
 clear hQ;have D:=E7 c.w s.sync O;rw[fW.2 H.fit]at D;have d1:decide ((s.cells.length:Int)≠c.w.cells.length)=false:=decide_eq_false (by have:=H.nc;omega);have d2:decide ((s.futures.length:Int)≠c.w.futures.length)=false:=decide_eq_false (by have:=H.nf;omega);have d3:decide ((s.threads.length:Int)≠c.ts.length)=false:=decide_eq_false (by have:=H.nt;omega);have lp:∀L:SH,W.loop (AM Q) [.pptr [c.enc] 0 0,.pptr [s.enc] 0 0,.U1 (0:Nat)] L:=λL=>by
  refine dw c.ts.length (λ_=>True) (λi=>[.pptr [c.enc] 0 0,.pptr [s.enc] 0 0,.U1 i]) wx trivial rfl (λi u hd hi _ nx N=>?_) (λi u hd _ nx=>?_)
  all_goals refine vw ?_
  .obtain⟨a,b,d⟩:=H.pc i u;have e1:ay s i=s.threads[i]'(by rw[H.nt];exact u):=by simp[ay,show i<s.threads.length by rw[H.nt];exact u]
   have e2:ao c i=c.ts[i]:=by simp[ao,u]
   have Y:=am (f:=eB.enc) u;have S:=am (f:=aD.enc) (show i<s.threads.length by rw[H.nt];exact u);rw[<-e1]at S;rw[<-e2]at Y;have N:=N trivial;clear e1 e2 H D M G;obtain⟨a1,a2⟩:=av.1 a;generalize ay s i=th at *;generalize ao c i=cd at *;obtain⟨pc,rg,tn,ev⟩:=th;obtain⟨cr,E⟩:=cd;unfold aD.enc at S;unfold eB.enc at Y;dsimp only at *;have f1:decide (pc<0)=false:=decide_eq_false UW;have f2:decide (pc>=(E.length:Int))=false:=decide_eq_false UW;have f3:decide ((rg.length:Int)≠cr)=false:=decide_eq_false (by simpa using b);have f4:decide ((tn.length:Int)≠cr)=false:=decide_eq_false (by simpa using d);clear a a1 a2 b d;unfold cy.enc aY.enc at *
   repeat' (first|refine st ?_|refine sb λB j=>?_|refine s2 (λh=>?_) λh=>?_|fail)
   exact N
  .clear H D G;unfold cy.enc aY.enc at *
   repeat' (first|refine st ?_|refine sb λB j=>?_|refine s2 (λh=>?_) λh=>?_|fail)
   exact M _
 clear H M;unfold cy.enc aY.enc at *;rw[show c.w.enc=[.lst (c.w.cells.map aF.enc),.lst (c.w.locks.map bn.enc),.lst (c.w.conds.map bP.enc),.lst (c.w.futures.map au),.lst (c.w.threads.map au),.lst (c.w.sites.map bQ.enc)]from rfl,show s.sync.enc=[.lst (s.sync.locks.map LockD.enc),.U1 s.sync.tx,.lst (s.sync.done.map aB),.lst (s.sync.threads.map ThrD.enc)]from rfl]at D
 repeat' (first|exact lp _|refine st ?_|(refine pf 29 ?_;refine pm (G) ?_)|(refine pf 71 ?_;refine pm (D) ?_)|refine sb λB j=>?_|refine s2 (λh=>?_) λh=>?_|fail)
end
theorem oS{α:Type}{f:α->List AV}{l:List α}{n by_:Nat}{L:SH}{KL:AV->SH->Prop}(u:∀x,(f x).length=n)(h2:2*l.length*by_<=2^48)(D:2*l.length<=2^62)(h4:∀x,(f x).all AV.one=true)
  (E:l=[]->KL .nils L) (h:∀b,b∉L.names->KL (.sl b 0 l.length) ((b,⟨n,l.map f⟩)::L)):W.append n by_ .nils (.lst (l.map f)) L KL:=by
 refine⟨[],l.map f,rfl,pe u,by simpa using h2,by simpa using D,?_,λe=>E (by simpa using e),λe b B=>by simpa using h b B⟩;rw[Tv];intro r j;obtain⟨x,_,rfl⟩:=TR.1 j;exact h4 x
theorem Pk{c:aY}{s:cy}(H:MU c s)(t:Int):gT c s t=inB t c.ts.length:=by
 unfold gT;rw[H.nt,H.sy];cases h:inB t c.ts.length with
 |false=>rfl
 |true=>obtain⟨u,B⟩:=av.1 h;obtain⟨j,rfl⟩:=TM u;obtain⟨a,b,d⟩:=H.pc j UW;rw[a,decide_eq_true b,decide_eq_true d];rfl
end
def Fa(l:List Int)(n:Int)(hl:l.length<2^40):aq Tryz.prog 79 [.lst (l.map ah),.U1 n] (.lst ((l.filter λy=>!decide (y=n)).map ah)):=by
 refine ac.fz (uY _ _ _ _ ?_);refine vw ?_;generalize O:(λ(v:AV) (L:SH)=>∃N S,az [v] L [N] S/\N=AV.lst ((l.filter λy=>!decide (y=n)).map ah)/\S=[])=Q;have E:∀v L,Fz L v (.lst ((l.filter λy=>!decide (y=n)).map ah))->Q v L:=λv L h=>by subst O;exact⟨_,[],az.all h,rfl,rfl⟩
 clear O;refine bz l.length (λi (o:Option Nat)=>([.lst (l.map ah),.U1 n,aj o ((l.take i).filter λy=>!decide (y=n)).length,.U1 i],ab o 1 (((l.take i).filter λy=>!decide (y=n)).map ah))) (λi o=>o=none->((l.take i).filter λy=>!decide (y=n))=[]) none (λ_=>rfl) (az.vals (.cons (.refl _) (.cons (.refl _) (.cons .nile (.cons (.refl _) .nil))))) ?_;intro i o hi M;dsimp only;refine vw ?_;have Z:((l.take i).filter λy=>!decide (y=n)).length<=i:=Nat.le_trans (List.length_filter_le _ _) (by simp;omega);rcases Nat.lt_or_ge i l.length with D|D
 .have hd:=aS D;have hx:=am (f:=ah) D;have j:((l.take (i+1)).filter λy=>!decide (y=n))=if l[i]=n then((l.take i).filter λy=>!decide (y=n))else((l.take i).filter λy=>!decide (y=n))++[l[i]]:=by rw[Th D,List.filter_append];by_cases h:l[i]=n<;>simp[h]
  clear E;by_cases h:l[i]=n
  .have h1:decide (l[i]≠n)=false:=decide_eq_false (λe=>e h);rw[if_pos h]at j
   repeat' (first|refine st ?_|refine sb λu B=>?_|refine s2 (λh=>?_) λh=>?_|fail)
   exact⟨i+1,o,UW,UW,by rw[j];exact M,dq (by rw[aw D UW,j]) (by rw[j])⟩
  .have h1:decide (l[i]≠n)=true:=decide_eq_true h;rw[if_neg h]at j;have G:o=none->(((l.take i).filter λy=>!decide (y=n)).map ah)=[]:=λe=>by rw[M e];rfl
   repeat' (first|refine st ?_|refine bA rp rp UZ G UY UZ (by simp;omega) (by simp;omega) UY (λu B=>?_)|refine sb λu B=>?_|refine s2 (λh=>?_) λh=>?_|fail)
   exact⟨i+1,some u,UW,UW,nofun,az.pickE (R:=[(u,_)]) rp (by rw[aw D UW,j];simp[cF,aj]) (by rw[j];simp[ab,ah])⟩
 .have hd:=aX D;rw[TH D]at *;have fin:∀L,(∀q∈ab o 1 ((l.filter λy=>!decide (y=n)).map ah),q∈L)->Q (aj o (l.filter λy=>!decide (y=n)).length) L:=λL Y=>E _ _ (by
   cases o with
   |none=>rw[M rfl];exact .emp
   |some b=>exact Fz.sls (Y _ (.head _)) rfl U0 rfl)
  clear E
  repeat' (first|refine st ?_|refine sb λu B=>?_|refine s2 (λh=>?_) λh=>?_|fail)
  exact fin _ λq h=>h
def rK(i:Nat):List AV:=[.U1 (i:Int)]
def wa(a b d:AV)(bt:Nat)(T:List ThrD)(c:Int)(hT:T.length<2^40)(O:([a,b,d,.sl bt 0 T.length]:List AV).all AV.one=true):
  ac Tryz.prog 80 [.agg [a,b,d,.sl bt 0 T.length],.U1 c] [(bt,⟨3,T.map ThrD.enc⟩)] λv L=>v=.lst ((aI T c T.length).map rK)/\L=[(bt,⟨3,T.map ThrD.enc⟩)]:=by
 refine ac.fz (uZ _ _ _ _ ?_);refine vw ?_;generalize hQ:(λ(v:AV) (L:SH)=>∃v2 L2,az [v] L [v2] L2/\v2=AV.lst ((aI T c T.length).map rK)/\L2=[(bt,(⟨3,T.map ThrD.enc⟩:Blk))])=Q
 repeat' (first|refine yn ?_ rfl O (by exact UU _)|refine st ?_|refine sb λB u=>?_|refine s2 (λh=>?_) λh=>?_|fail)
 refine bz T.length (λi (o:Option Nat)=>([.U1 c,.pptr [[a,b,d,.sl bt 0 T.length]] 0 0,aj o (aI T c i).length,.U1 i],(bt,⟨3,T.map ThrD.enc⟩)::ab o 1 ((aI T c i).map rK))) (λi o=>o=none->aI T c i=[]) none (λ_=>rfl) (az.vals (.cons (.refl _) (.cons (.refl _) (.cons .nile (.cons (.refl _) .nil))))) ?_;intro i o hi ho;dsimp only;refine vw ?_;have hle:(aI T c i).length<=i:=Nat.le_trans (List.length_filter_le _ _) UZ;rcases Nat.lt_or_ge i T.length with G|G
 .have hd:=aS G;have hx:=am (f:=ThrD.enc) G;have D:=l6 T c i;rw[show fN T c i=cW T[i] c by simp[fN,G]]at D;have ho2:o=none->(aI T c i).map rK=[]:=λe=>by rw[ho e];rfl
  have E:cW T[i] c=false->∃j o',i<j/\j<=T.length/\(o'=none->aI T c j=[])/\az [.U1 c,.pptr [[a,b,d,.sl bt 0 T.length]] 0 0,aj o (aI T c i).length,.U1 (IntKind.i64.wrap ((i:Int)+1))] ((bt,⟨3,T.map ThrD.enc⟩)::ab o 1 ((aI T c i).map rK))
    [.U1 c,.pptr [[a,b,d,.sl bt 0 T.length]] 0 0,aj o' (aI T c j).length,.U1 j] ((bt,⟨3,T.map ThrD.enc⟩)::ab o' 1 ((aI T c j).map rK)):=λh=>by
   rw[h]at D;simp only[Tz,if_false,TZ]at D;exact⟨i+1,o,UW,UW,by rw[D];exact ho,dq (by rw[aw G UW,D]) (by rw[D])⟩
  generalize T[i]=y at *;obtain⟨M,N,Z⟩:=y;rw[show ThrD.enc ⟨M,N,Z⟩=[.U1 M,.U1 N,.bool Z]from rfl]at hx;by_cases Y:M=3
  .have d1:decide (M=3)=true:=decide_eq_true Y;by_cases S:N=c
   .have d2:decide (N=c)=true:=decide_eq_true S;rw[show cW ⟨M,N,Z⟩ c=true by simp[cW,Y,S],if_pos rfl]at D
    repeat' (first|refine st ?_|refine bA rp rp UZ ho2 UY UZ (by simp;omega) (by simp;omega) UY (λB u=>?_)|refine sb λB u=>?_|refine s2 (λh=>?_) λh=>?_|fail)
    exact⟨i+1,some B,UW,UW,nofun,az.pickE (R:=[(bt,_),(B,_)]) rp (by rw[aw G UW,D];simp[cF,aj]) (by rw[D];simp[ab,rK])⟩
   .have d2:decide (N=c)=false:=decide_eq_false S;have sk:=E (by simp[cW,S])
    repeat' (first|refine st ?_|refine sb λB u=>?_|refine s2 (λh=>?_) λh=>?_|fail)
    exact sk
  .have d1:decide (M=3)=false:=decide_eq_false Y;have sk:=E (by simp[cW,Y])
   repeat' (first|refine st ?_|refine sb λB u=>?_|refine s2 (λh=>?_) λh=>?_|fail)
   exact sk
 .have hd:=aX G;have hi0:i=T.length:=by omega
  subst hi0;have fin:Q (aj o (aI T c T.length).length) ((bt,⟨3,T.map ThrD.enc⟩)::ab o 1 ((aI T c T.length).map rK)):=by
   subst hQ;refine⟨.lst ((aI T c T.length).map rK),_,az.drop (K:=ab o 1 ((aI T c T.length).map rK)) (R:=[(bt,⟨3,T.map ThrD.enc⟩)]) (Tt (l₁:=[(bt,(⟨3,T.map ThrD.enc⟩:Blk))])) rfl (eP.at_ (.cons ?_ .nil)).2,rfl,rfl⟩;cases o with
   |none=>rw[ho rfl];exact .emp
   |some b=>exact Fz.sls (.head _) rfl U0 rfl
  clear hQ
  repeat' (first|refine st ?_|refine sb λB u=>?_|refine s2 (λh=>?_) λh=>?_|fail)
  exact fin
def Fb(s:SyncD)(h1:s.locks.length<2^40)(h2:s.done.length<=140737488351232)(h3:s.threads.length<2^40)(Y:∀l∈s.locks,l.readers.length<2^40):
  ac Tryz.prog 77 [.agg s.enc] [] λv L=>∃(M:Option Nat) (E bt:Nat),v=.agg [aj M s.locks.length,.U1 s.tx,.sl E 0 s.done.length,.sl bt 0 s.threads.length]/\L=ab M 2 (s.locks.map LockD.enc)++[(bt,⟨3,s.threads.map ThrD.enc⟩),(E,⟨1,s.done.map aB⟩)]/\(M=none->s.locks=[]):=by
 refine ac.fz (AU _ _ _ ?_);refine vw ?_;generalize hQ:(λ(v:AV) (L:SH)=>∃v2 L2,az [v] L [v2] L2/\∃(M:Option Nat) (E bt:Nat),v2=.agg [aj M s.locks.length,.U1 s.tx,.sl E 0 s.done.length,.sl bt 0 s.threads.length]/\L2=ab M 2 (s.locks.map LockD.enc)++[(bt,(⟨3,s.threads.map ThrD.enc⟩:Blk)),(E,⟨1,s.done.map aB⟩)]/\(M=none->s.locks=[]))=Q
 repeat' (first|refine st ?_|refine gp rp (λ_=>rfl) UY (by simp;omega) (by simp;omega) (λ_=>rfl) (λB u=>?_)|refine sb λB u=>?_|refine s2 (λh=>?_) λh=>?_|fail)
 rename_i a5 _ b2 _ a3 _ E _ a1 _ bt _;rw[Nat.zero_add,Nat.zero_add];revert B;intro b3 _;refine bz s.locks.length (λi (o:Option Nat)=>([.pptr [s.enc] 0 0,.ptr b2 0 0,.ptr b3 0 0,.U1 i],(b3,⟨4,[[aj o i,.U1 s.tx,.sl E 0 s.done.length,.sl bt 0 s.threads.length]]⟩)::(bt,⟨3,s.threads.map ThrD.enc⟩)::(E,⟨1,s.done.map aB⟩)::(b2,⟨4,[[.nils,.U1 0,.nils,.nils]]⟩)::ab o 2 ((s.locks.take i).map LockD.enc))) (λi o=>o=none->i=0) none (λ_=>rfl) (az.box (K:=[]) (.refl _) (.cons .nile (.cons (.refl _) (.cons (.refl _) (.cons (.refl _) .nil))))) ?_;intro i o hi ho;dsimp only;refine vw ?_;have D:((s.locks.take i).map LockD.enc).length=i:=by simp;omega
 have h0:o=none->(s.locks.take i).map LockD.enc=[]:=λe=>by rw[ho e];rfl
 rcases Tf i s.locks.length with N|N
 .have hd:=aS N;have hx:=am (f:=LockD.enc) N;have hr:=Y _ (Tk N)
  repeat' (first|refine st ?_|refine gp rp (λ_=>rfl) UY (by simp;omega) (by simp;omega) (λ_=>rfl) (λB u=>?_)|refine bA rp rp D h0 UY UZ (by simp;omega) (by simp;omega) UY (λB u=>?_)|refine sb λB u=>?_|refine s2 (λh=>?_) λh=>?_|fail)
  rename_i br _ _ _;refine⟨i+1,some B,UW,UW,nofun,?_⟩;refine az.rowA (A:=[(b3,_),(bt,_),(E,_),(b2,_)]) (b:=B) (R:=[]) (rows':=(s.locks.take (i+1)).map LockD.enc) rp ?_ ?_ (by rw[aw N UW]<;>rfl)
  .simp;omega
  .intro j r r' O G;rw[Th N,Ti]at G;rcases Tf j i with Z|Z
   .rw[Tq (by rw[D];exact Z)]at O G;rw[O]at G;cases G;exact eP.refl _ _
   .rw[Tm (by rw[D];exact Z),D]at O G;generalize j-i=k at O G
    match k with
    |0=>cases O;cases G;exact .cons (.refl _) (.cons (Fz.sls (l:=s.locks[i].readers) mm rfl U0 UZ) .nil)
    |k+1=>simp at O
 .have hd:=aX N;have hi0:i=s.locks.length:=by omega
  subst hi0;rw[TH (Te _)];have S:o=none->s.locks=[]:=λe=>T9.1 (ho e)
  cases o with
  |none=>
   dsimp only[aj,ab]
   repeat' (first|refine st ?_|refine sb λB u=>?_|refine s2 (λh=>?_) λh=>?_|fail)
   subst hQ;exact⟨_,_,az.pick (R:=[(bt,_),(E,_)]) rp rfl,none,E,bt,rfl,rfl,S⟩
  |some bl=>
   dsimp only[aj,ab]
   repeat' (first|refine st ?_|refine sb λB u=>?_|refine s2 (λh=>?_) λh=>?_|fail)
   subst hQ;exact⟨_,_,az.pick (R:=[(bl,_),(bt,_),(E,_)]) rp rfl,some bl,E,bt,rfl,rfl,S⟩
end Go.Proofs.YtbofdbhnbodbiaaGreatDoor.Am
