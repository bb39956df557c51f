/- part -/
import Derived.Test.YtfcfhjadaknphaaGreatDoorQxAb
import Derived.Test.YtfcfhjadaknphaaGreatDoorQxAe
set_option linter.all false
set_option maxRecDepth 100000
set_option maxHeartbeats 0
namespace Go.Proofs.YtfcfhjadaknphaaGreatDoor.Am
section
theorem LF(i n:Int):ao Tryz.prog 114 [.YJ i,.YJ n] (.YJ (ixS i n)):=by
 refine Bk _ _ _ _ ?_;refine vw ?_;generalize E:(λ(u:AV) (K:SH)=>u=AV.YJ (ixS i n)/\K=[])=Q;have D:∀b,ixS i n=b->Q (.YJ b) []:=λb G=>by subst E;exact⟨by rw[G],rfl⟩
 clear E;by_cases h:n<1
 .have O:decide (n<1)=true:=decide_eq_true h
  repeat' (first|refine sy ?_|refine s2 (λh=>?_) λh=>?_|intro)
  exact D _ (by rw[ixS,if_pos h])
 .have O:decide (n<1)=false:=decide_eq_false h;have j:n≠0:=by omega
  by_cases B:i.tmod n<0
  .have M:decide (i.tmod n<0)=true:=decide_eq_true B
   repeat' (first|refine sy ?_|refine ep (Gw j ?_)|refine s2 (λh=>?_) λh=>?_|intro)
   exact D _ (by rw[ixS,if_neg h,if_pos B])
  .have M:decide (i.tmod n<0)=false:=decide_eq_false B
   repeat' (first|refine sy ?_|refine ep (Gw j ?_)|refine s2 (λh=>?_) λh=>?_|intro)
   exact D _ (by rw[ixS,if_neg h,if_neg B])
theorem vr{op:Int}(h:op<6\/28<op):gF op=0:=by
 unfold gF;rcases Fn op.toNat 29 with g|g
 .have j:∀k:Nat,k<6->iP.getD k 0=0:=by decide
  exact j _ YC
 .rw[List.getD,ST (by exact g)];rfl
theorem mQ(op:Int):ao Tryz.prog 125 [.YJ op] (.YJ (gF op)):=by
 refine Wn (AV.int .i64) λQ j=>CS _ _ _ ?_
 refine vw ?_;by_cases u:6<=op/\op<=28
 .rcases ops op YC u.2 with rfl|rfl|rfl|rfl|rfl|rfl|rfl|rfl|rfl|rfl|rfl|rfl|rfl|rfl|rfl|rfl|rfl|rfl|rfl|rfl|rfl|rfl|rfl|rfl|rfl|rfl|rfl|rfl
  all_goals first
   |(exfalso;omega)
   |skip
  all_goals
   clear u
   repeat' (first|refine Ew YG YG rp rfl ?_|refine sy ?_|refine s2 ?_ ?_|intro)
   exact j _ _ rfl
 .by_cases D:op<6
  .have E:decide (op<6)=true:=decide_eq_true D;have B:=λL=>j 0 L (vr (.inl D))
   clear j u
   repeat' (first|refine sy ?_|refine s2 ?_ ?_|intro)
   exact B _
  .have E:decide (op<6)=false:=decide_eq_false D;have G:decide (op > 28)=true:=decide_eq_true YC;have B:=λL=>j 0 L (vr (.inr YC))
   clear j u
   repeat' (first|refine sy ?_|refine s2 ?_ ?_|intro)
   exact B _
theorem Je(i:az)(s:aG)(t:Int)(B:1<=i.op)(h2:i.op<=28)(E:∀r∈aC i,0<=r/\r<s.regs.length):ao Tryz.prog 126 [.agg i.enc,.agg s.enc] (.YJ (dM i s t).obj):=by
 obtain⟨op,O,M,u,m,j⟩:=i;refine Wn (AV.int .i64) λQ S=>yW _ _ _ _ ?_
 refine vw ?_;dsimp only at B h2;rw[show az.enc ⟨op,O,M,u,m,j⟩=[.YJ op,.YJ O,.YJ M,.YJ u,.YJ m,.YJ j]from rfl];unfold aG.enc;by_cases G:op=7\/op=9
 .have D:0<=u/\u<s.regs.length:=by rcases G with rfl|rfl<;>exact E u (by simp[aC])
  obtain⟨Z,Y⟩:=D;have y:=ky (s:=s) Z Y;have hi:=LF (s.reg u) m;clear E B h2;rcases G with rfl|rfl
  all_goals
   repeat' (first|refine sy ?_|refine s2 ?_ ?_|intro)
   exact S _ _ (by simp[dM])
 .clear E;rcases ops op B h2 with rfl|rfl|rfl|rfl|rfl|rfl|rfl|rfl|rfl|rfl|rfl|rfl|rfl|rfl|rfl|rfl|rfl|rfl|rfl|rfl|rfl|rfl|rfl|rfl|rfl|rfl|rfl|rfl
  all_goals first
   |(exfalso;omega)
   |skip
  all_goals
   clear G B h2
   repeat' (first|refine sy ?_|refine s2 ?_ ?_|intro)
   exact S _ _ (by simp[dM])
structure Qf(c:aL)(s:bU):Prop where
 fit:yE c.w s.sync
 nc:s.cells.length=c.w.cells.length
 nf:s.futures.length=c.w.futures.length
 nt:s.threads.length=c.ts.length
 sy:s.sync.threads.length=c.ts.length
 pc:∀t:Nat,t<c.ts.length->inB (aB s t).pc (au c t).ins.length=true/\((aB s t).regs.length:Int)=(au c t).regs/\((aB s t).taint.length:Int)=(au c t).regs
section
variable (c:aL) (s:bU)
theorem NZ(Y:ao Tryz.prog 34 [.agg c.enc] (.bool true))(H:Qf c s)(G:c.w.conds.length<2^62)(Cj:c.ts.length<2^62):ao Tryz.prog 124 [.agg c.enc,.agg s.enc] (.bool true):=by
 refine Pi λQ D=>CR _ _ _ _ ?_
 refine vw ?_;have u:=Hy c.w s.sync G;rw[fE.2 H.fit]at u;have d1:decide ((s.cells.length:Int)≠c.w.cells.length)=false:=decide_eq_false (by have:=H.nc;omega);have d2:decide ((s.futures.length:Int)≠c.w.futures.length)=false:=decide_eq_false (by have:=H.nf;omega);have d3:decide ((s.threads.length:Int)≠c.ts.length)=false:=decide_eq_false (by have:=H.nt;omega);have lp:∀L:SH,W.loop (CQ Q) [.pptr [c.enc] 0 0,.pptr [s.enc] 0 0,.YJ (0:Nat)] L:=λL=>by
  refine cS c.ts.length (λ_=>True) (λi=>[.pptr [c.enc] 0 0,.pptr [s.enc] 0 0,.YJ i]) Cj trivial rfl (λi j hd hi _ nx E=>?_) (λi j hd _ nx=>?_)
  all_goals refine vw ?_
  .obtain⟨a,b,d⟩:=H.pc i j;have e1:aB s i=s.threads[i]'(by rw[H.nt];exact j):=by simp[aB,show i<s.threads.length by rw[H.nt];exact j]
   have Z:au c i=c.ts[i]:=by simp[au,j]
   have O:=aq (f:=eG.enc) j;have M:=aq (f:=aG.enc) (show i<s.threads.length by rw[H.nt];exact j);rw[<-e1]at M;rw[<-Z]at O;have E:=E trivial;clear e1 Z H u D Y;obtain⟨a1,a2⟩:=aw.1 a;generalize aB s i=th at *;generalize au c i=cd at *;obtain⟨S,rg,tn,ev⟩:=th;obtain⟨cr,B⟩:=cd;unfold aG.enc at M;unfold eG.enc at O;dsimp only at *;have f1:decide (S<0)=false:=decide_eq_false YC;have f2:decide (S>=(B.length:Int))=false:=decide_eq_false YC;have f3:decide ((rg.length:Int)≠cr)=false:=decide_eq_false (by simpa using b);have f4:decide ((tn.length:Int)≠cr)=false:=decide_eq_false (by simpa using d);clear a a1 a2 b d;unfold bU.enc aL.enc at *
   repeat' (first|refine sy ?_|refine s2 ?_ ?_|intro)
   exact E
  .clear H u Y;unfold bU.enc aL.enc at *
   repeat' (first|refine sy ?_|refine s2 ?_ ?_|intro)
   exact D _
 clear H D;unfold bU.enc aL.enc at *;rw[show c.w.enc=[.lst (c.w.cells.map aH.enc),.lst (c.w.locks.map bv.enc),.lst (c.w.conds.map bO.enc),.lst (c.w.futures.map av),.lst (c.w.threads.map av),.lst (c.w.sites.map bM.enc)]from rfl,show s.sync.enc=[.lst (s.sync.locks.map LockD.enc),.YJ s.sync.tx,.lst (s.sync.done.map aD),.lst (s.sync.threads.map ThrD.enc)]from rfl]at u
 repeat' (first|exact lp _|refine sy ?_|refine s2 ?_ ?_|intro)
end
theorem qn{α:Type}{f:α->List AV}{l:List α}{n by_:Nat}{L:SH}{KL:AV->SH->Prop}(u:∀x,(f x).length=n)(h2:2*l.length*by_<=2^48)(D:2*l.length<=2^62)(h4:∀x,(f x).all AV.one=true)
  (E:l=[]->KL .nils L) (h:∀b,b∉L.names->KL (.sl b 0 l.length) ((b,⟨n,l.map f⟩)::L)):W.append n by_ .nils (.lst (l.map f)) L KL:=by
 refine⟨[],l.map f,rfl,qI u,by simpa using h2,by simpa using D,?_,λe=>E (by simpa using e),λe b B=>by simpa using h b B⟩;rw[W2];intro r j;obtain⟨x,_,rfl⟩:=Xi.1 j;exact h4 x
theorem SQ{c:aL}{s:bU}(H:Qf c s)(t:Int):gX c s t=inB t c.ts.length:=by
 unfold gX;rw[H.nt,H.sy];cases h:inB t c.ts.length with
 |false=>rfl
 |true=>obtain⟨u,B⟩:=aw.1 h;obtain⟨j,rfl⟩:=Xg u;obtain⟨a,b,d⟩:=H.pc j YC;rw[a,decide_eq_true b,decide_eq_true d];rfl
end
def Fo.fit9{c:aL}{s:bU}(H:Be c s)(R:Fo c s):Qf c s:=
 ⟨R.fit,R.nc,R.nf,H.th,H.sy,λt j=>⟨(H.pc t j).1,(H.pc t j).2,by rw[R.tl t j];exact(H.pc t j).2⟩⟩
