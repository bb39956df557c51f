/- part -/
import Derived.Test.YtfckbjehkbhkgaaGreatQwo
import Derived.Test.YtfckbjehkbhkgaaGreatQwq
set_option linter.all false
set_option maxRecDepth 100000
set_option maxHeartbeats 0
namespace Go.Proofs.YtfckbjehkbhkgaaGreat.Am
section
theorem Pn(i n:Int):aq Tryz.prog 193 [.acU i,.acU n] (.acU (ixS i n)):=by
 refine CZ _ _ _ _ ?_;refine vw ?_;generalize E:(λ(u:AV) (K:SH)=>u=AV.acU (ixS i n)/\K=[])=Q;have D:∀b,ixS i n=b->Q (.acU b) []:=λb G=>by subst E;exact⟨by rw[G],rfl⟩
 clear E;by_cases h:n<1
 .have N:decide (n<1)=true:=decide_eq_true h
  repeat' (first|refine sy ?_|refine s2 (λh=>?_) λh=>?_|intro)
  exact D _ (by rw[ixS,if_pos h])
 .have N:decide (n<1)=false:=decide_eq_false h;have j:n≠0:=by omega
  by_cases B:i.tmod n<0
  .have M:decide (i.tmod n<0)=true:=decide_eq_true B
   repeat' (first|refine sy ?_|refine kH (NE j ?_)|refine s2 (λh=>?_) λh=>?_|intro)
   exact D _ (by rw[ixS,if_neg h,if_pos B])
  .have M:decide (i.tmod n<0)=false:=decide_eq_false B
   repeat' (first|refine sy ?_|refine kH (NE j ?_)|refine s2 (λh=>?_) λh=>?_|intro)
   exact D _ (by rw[ixS,if_neg h,if_neg B])
theorem wT{op:Int}(h:op<6\/28<op):jv op=0:=by
 unfold jv;rcases LE op.toNat 29 with g|g
 .have j:∀k:Nat,k<6->Bi.getD k 0=0:=by decide
  exact j _ acN
 .rw[List.getD,aah (by exact g)];rfl
theorem nE(op:Int):aq Tryz.prog 173 [.acU op] (.acU (jv op)):=by
 refine NQ (AV.int .i64) λQ j=>E1 _ _ _ ?_
 refine vw ?_;by_cases u:6<=op/\op<=28
 .rcases ops op acN u.2 with rfl|rfl|rfl|rfl|rfl|rfl|rfl|rfl|rfl|rfl|rfl|rfl|rfl|rfl|rfl|rfl|rfl|rfl|rfl|rfl|rfl|rfl|rfl|rfl|rfl|rfl|rfl|rfl
  all_goals first
   |(exfalso;omega)
   |skip
  all_goals
   clear u
   repeat' (first|refine Hf acR acR rp rfl ?_|refine sy ?_|refine s2 ?_ ?_|intro)
   exact j _ _ rfl
 .by_cases D:op<6
  .have E:decide (op<6)=true:=decide_eq_true D;have B:=λL=>j 0 L (wT (.inl D))
   clear j u
   repeat' (first|refine sy ?_|refine s2 ?_ ?_|intro)
   exact B _
  .have E:decide (op<6)=false:=decide_eq_false D;have G:decide (op > 28)=true:=decide_eq_true acN;have B:=λL=>j 0 L (wT (.inr acN))
   clear j u
   repeat' (first|refine sy ?_|refine s2 ?_ ?_|intro)
   exact B _
theorem Mt(i:cb)(s:bI)(t:Int)(B:1<=i.op)(h2:i.op<=28)(E:∀r∈bS i,0<=r/\r<s.regs.length):aq Tryz.prog 174 [.agg i.enc,.agg s.enc] (.acU (fN i s t).obj):=by
 obtain⟨op,N,M,u,m,j⟩:=i;refine NQ (AV.int .i64) λQ O=>Aw _ _ _ _ ?_
 refine vw ?_;dsimp only at B h2;rw[show cb.enc ⟨op,N,M,u,m,j⟩=[.acU op,.acU N,.acU M,.acU u,.acU m,.acU j]from rfl];unfold bI.enc;by_cases G:op=7\/op=9
 .have D:0<=u/\u<s.regs.length:=by rcases G with rfl|rfl<;>exact E u (by simp[bS])
  obtain⟨Y,S⟩:=D;have y:=Mn (s:=s) Y S;have Z:=Pn (s.reg u) m;clear E B h2;rcases G with rfl|rfl
  all_goals
   repeat' (first|refine sy ?_|refine s2 ?_ ?_|intro)
   exact O _ _ (by simp[fN])
 .clear E;rcases ops op B h2 with rfl|rfl|rfl|rfl|rfl|rfl|rfl|rfl|rfl|rfl|rfl|rfl|rfl|rfl|rfl|rfl|rfl|rfl|rfl|rfl|rfl|rfl|rfl|rfl|rfl|rfl|rfl|rfl
  all_goals first
   |(exfalso;omega)
   |skip
  all_goals
   clear G B h2
   repeat' (first|refine sy ?_|refine s2 ?_ ?_|intro)
   exact O _ _ (by simp[fN])
structure Uo(c:bP)(s:eE):Prop where
 fit:Ar c.w s.sync
 nc:s.cells.length=c.w.cells.length
 nf:s.futures.length=c.w.futures.length
 nt:s.threads.length=c.ts.length
 sy:s.sync.threads.length=c.ts.length
 pc:∀t:Nat,t<c.ts.length->inB (aI s t).pc (aE c t).ins.length=true/\((aI s t).regs.length:Int)=(aE c t).regs/\((aI s t).taint.length:Int)=(aE c t).regs
section
variable (c:bP) (s:eE)
theorem RI(S:aq Tryz.prog 101 [.agg c.enc] (.bool true))(H:Uo c s)(G:c.w.conds.length<2^62)(zV:c.ts.length<2^62):aq Tryz.prog 172 [.agg c.enc,.agg s.enc] (.bool true):=by
 refine L6 λQ D=>E0 _ _ _ _ ?_
 refine vw ?_;have u:=CD c.w s.sync G;rw[cH.2 H.fit]at u;have d1:decide ((s.cells.length:Int)≠c.w.cells.length)=false:=decide_eq_false (by have:=H.nc;omega);have d2:decide ((s.futures.length:Int)≠c.w.futures.length)=false:=decide_eq_false (by have:=H.nf;omega);have d3:decide ((s.threads.length:Int)≠c.ts.length)=false:=decide_eq_false (by have:=H.nt;omega);have lp:∀L:SH,W.loop (EZ Q) [.pptr [c.enc] 0 0,.pptr [s.enc] 0 0,.acU (0:Nat)] L:=λL=>by
  refine cT c.ts.length (λ_=>True) (λi=>[.pptr [c.enc] 0 0,.pptr [s.enc] 0 0,.acU i]) zV trivial rfl (λi j hd hi _ nx E=>?_) (λi j hd _ nx=>?_)
  all_goals refine vw ?_
  .obtain⟨a,b,d⟩:=H.pc i j;have Z:aI s i=s.threads[i]'(by rw[H.nt];exact j):=by simp[aI,show i<s.threads.length by rw[H.nt];exact j]
   have Y:aE c i=c.ts[i]:=by simp[aE,j]
   have N:=aj (f:=i6.enc) j;have M:=aj (f:=bI.enc) (show i<s.threads.length by rw[H.nt];exact j);rw[<-Z]at M;rw[<-Y]at N;have E:=E trivial;clear Z Y H u D S;obtain⟨a1,a2⟩:=ao.1 a;generalize aI s i=th at *;generalize aE c i=cd at *;obtain⟨O,rg,tn,ev⟩:=th;obtain⟨cr,B⟩:=cd;unfold bI.enc at M;unfold i6.enc at N;dsimp only at *;have f1:decide (O<0)=false:=decide_eq_false acN;have f2:decide (O>=(B.length:Int))=false:=decide_eq_false acN;have f3:decide ((rg.length:Int)≠cr)=false:=decide_eq_false (by simpa using b);have f4:decide ((tn.length:Int)≠cr)=false:=decide_eq_false (by simpa using d);clear a a1 a2 b d;unfold eE.enc bP.enc at *
   repeat' (first|refine sy ?_|refine s2 ?_ ?_|intro)
   exact E
  .clear H u S;unfold eE.enc bP.enc at *
   repeat' (first|refine sy ?_|refine s2 ?_ ?_|intro)
   exact D _
 clear H D;unfold eE.enc bP.enc at *;rw[show c.w.enc=[.lst (c.w.cells.map aU.enc),.lst (c.w.locks.map bZ.enc),.lst (c.w.conds.map cM.enc),.lst (c.w.futures.map ay),.lst (c.w.threads.map ay),.lst (c.w.sites.map cF.enc)]from rfl,show s.sync.enc=[.lst (s.sync.locks.map LockD.enc),.acU s.sync.tx,.lst (s.sync.done.map au),.lst (s.sync.threads.map ThrD.enc)]from rfl]at u
 repeat' (first|exact lp _|refine sy ?_|refine s2 ?_ ?_|intro)
end
theorem qX{α:Type}{f:α->List AV}{l:List α}{n by_:Nat}{L:SH}{KL:AV->SH->Prop}(u:∀x,(f x).length=n)(h2:2*l.length*by_<=2^48)(D:2*l.length<=2^62)(h4:∀x,(f x).all AV.one=true)
  (E:l=[]->KL .nils L) (h:∀b,b∉L.names->KL (.sl b 0 l.length) ((b,⟨n,l.map f⟩)::L)):W.append n by_ .nils (.lst (l.map f)) L KL:=by
 refine⟨[],l.map f,rfl,vG u,by simpa using h2,by simpa using D,?_,λe=>E (by simpa using e),λe b B=>by simpa using h b B⟩;rw[abh];intro r j;obtain⟨x,_,rfl⟩:=abP.1 j;exact h4 x
theorem W3{c:bP}{s:eE}(H:Uo c s)(t:Int):uF c s t=inB t c.ts.length:=by
 unfold uF;rw[H.nt,H.sy];cases h:inB t c.ts.length with
 |false=>rfl
 |true=>obtain⟨u,B⟩:=ao.1 h;obtain⟨j,rfl⟩:=abH u;obtain⟨a,b,d⟩:=H.pc j acN;rw[a,decide_eq_true b,decide_eq_true d];rfl
end
structure yY(c:bP)(s:eE):Prop where
 fit:Ar c.w s.sync
 nc:s.cells.length=c.w.cells.length
 nf:s.futures.length=c.w.futures.length
 tl:∀t:Nat,t<c.ts.length->(aI s t).taint.length=(aI s t).regs.length
 wt:∀t:Nat,t<c.ts.length->(a8 s.sync t).status=3\/(a8 s.sync t).status=4->jv (cK (aE c t) (aI s t).pc).op=16
def yY.fit9{c:bP}{s:eE}(H:rF c s)(R:yY c s):Uo c s:=
 ⟨R.fit,R.nc,R.nf,H.th,H.sy,λt j=>⟨(H.pc t j).1,(H.pc t j).2,by rw[R.tl t j];exact(H.pc t j).2⟩⟩
def U7{w:aF}{s:SyncD}(t k o wake:Int)(h:Ar w s):Ar w (bF w s t k o wake).1:=by
 have u:(bF w s t k o wake).1.locks.length=s.locks.length:=by
  unfold bF
  repeat' refine iteInduction (motive:=λx:SyncD×Int=>x.1.locks.length=s.locks.length) (λ_=>?_) (λ_=>?_)
  all_goals simp[cY]
 have j:(bF w s t k o wake).1.done.length=s.done.length:=by
  unfold bF
  repeat' refine iteInduction (motive:=λx:SyncD×Int=>x.1.done.length=s.done.length) (λ_=>?_) (λ_=>?_)
  all_goals simp
 exact⟨by rw[u];exact h.locks,by rw[j];exact h.done,by rw[Lg];exact h.threads,h.conds⟩
def Lj{T:List ThrD}{o wake:Int}{j:Nat}(h:((fI T o wake).getD j default).status=3\/((fI T o wake).getD j default).status=4):(T.getD j default).status=3\/(T.getD j default).status=4:=by
 unfold fI at h;split at h
 .rename_i D;unfold gj at h;by_cases e:(da T o wake).toNat=j
  .have B:=uD (l:=aJ T o T.length) (wake:=wake) D;have u:eR T o (da T o wake).toNat=true:=by have:=B;simp only[aJ,acn]at this;exact this.2
   rw[e]at u;unfold eR bH at u;simp only[aas,decide_eq_true_eq]at u;exact .inl u.1
  .simpa[List.getD,abs,e]using h
 .exact h
def Lk{T:List ThrD}{o:Int}{j:Nat}(h:((dt T o T.length).getD j default).status=3\/((dt T o T.length).getD j default).status=4):(T.getD j default).status=3\/(T.getD j default).status=4:=by
 rcases LE j T.length with g|g
 .simp only[List.getD,eW _ _ _ _ g,abS]at h;split at h
  .rename_i u;simp only[aas,bH,decide_eq_true_eq]at u;simp only[List.getD,g,mt,abS];exact .inl u.2.1
  .simpa[List.getD,g]using h
 .have:(dt T o T.length)[j]? =none:=aah (by rw[c9];exact g);simp[List.getD,this]at h;simp[List.getD,aah g];exact h
def XN{w:aF}{s:SyncD}{t k o wake:Int}(he:aC w s t k o=true)(j:Nat)(h:(a8 (bF w s t k o wake).1 j).status=3∨(a8 (bF w s t k o wake).1 j).status=4):((j:Int)=t∧k=16)∨((j:Int)≠t∧((a8 s j).status=3∨(a8 s j).status=4)):=by
  have he0:=he;unfold aC at he;simp only[aas]at he;obtain⟨⟨⟨hfi,hti⟩,hal⟩,hst⟩:=he;have hin:=ao.1 hti;have hfl:=(cH.1 hfi).threads;have hset:∀x:ThrD,(j:Int)≠t→(s.threads.set t.toNat x).getD j default=s.threads.getD j default:=λx hj=>by
    have:t.toNat≠j:=by omega
    simp[List.getD,abs,this]
  have hself:∀x:ThrD,(j:Int)=t→(s.threads.set t.toNat x).getD j default=x:=λx hj=>by
    have e:t.toNat=j:=by omega
    have:j<s.threads.length:=by omega
    simp[List.getD,e,this]
  rcases wF k with g|g
  · rw[fD g]at hal;cases hal
  by_cases hj:(j:Int)=t
  · by_cases k16:k=16
    · exact .inl ⟨hj,k16⟩
    exfalso;have hjt:a8 s t=s.threads.getD j default:=by unfold a8;rw[←hj,abw]
    rw[hjt]at hst;rcases g with rfl|rfl|rfl|rfl|rfl|rfl|rfl|rfl|rfl|rfl|rfl|rfl|rfl|rfl|rfl|rfl|rfl|rfl|rfl|rfl|rfl|rfl|rfl
    all_goals simp only[bF,Int.reduceEq,if_true,if_false,or_true,true_or,or_false,or_self,↓reduceIte,a8,abw,dZ,aas,decide_eq_true_eq]at h hst
    all_goals try rw[hself _ hj]at h
    all_goals try dsimp only at h
    all_goals first
      |omega
      |(have h:=Lj h;omega)
      |(have h:=Lk h;omega)
      |skip
    all_goals try (have e : t.toNat = j := by omega
                   rw[e]at h;omega)
    · have hr:=hst.2
      have hne:o≠t:=by simp[df]at hr;exact hr.1
      have ho:=ao.1 (show inB o w.threads.length=true by simpa[allowedS]using hal);have e2:o.toNat≠j:=by omega
      have h1:=hst.1;simp[List.getD,abs,e2]at h h1;omega
  · refine .inr ⟨hj,?_⟩
    rcases g with rfl|rfl|rfl|rfl|rfl|rfl|rfl|rfl|rfl|rfl|rfl|rfl|rfl|rfl|rfl|rfl|rfl|rfl|rfl|rfl|rfl|rfl|rfl
    all_goals simp only[bF,Int.reduceEq,if_true,if_false,or_true,true_or,or_false,or_self,↓reduceIte,a8,abw,dZ]at h ⊢
    all_goals try rw[hset _ hj]at h
    all_goals first
      |exact h
      |exact Lj h
      |exact Lk h
      |skip
    · by_cases e:o.toNat=j
      · rw[e]at h
        rcases LE j s.threads.length with g|g
        · simp[List.getD,g]at h
        · simp[List.getD,abs,g]at h
          simp[List.getD,aah g];exact h
      · simpa[List.getD,abs,e]using h
def XO(i:cb)(e:bA)(s:eE)(th:bI)(sv:Int):((fe i e s th sv).thread.pc=th.pc/\(e.kind=1\/e.kind=16\/e.kind=2))\/((fe i e s th sv).thread.pc=i.b/\e.kind=5)\/((fe i e s th sv).thread.pc=IntKind.i64.wrap (th.pc+1)/\¬(e.kind=1\/e.kind=16\/e.kind=2)):=by
 unfold fe;dsimp only
 repeat' split
 all_goals first
  |exact .inl ⟨rfl,acO⟩
  |exact .inr (.inr ⟨rfl,acN⟩)
  |exact .inr (.inl ⟨rfl,acO⟩)
def XP(i:cb)(e:bA)(s:eE)(th:bI)(sv:Int):(fe i e s th sv).thread.regs.length=th.regs.length/\(fe i e s th sv).thread.taint.length=th.taint.length:=by
 unfold fe;dsimp only
 repeat' split
 all_goals simp
def SO{op:Int}(h:jv op≠2):op≠28:=λe=>by subst e;exact h rfl
def Z4{op:Int}(j:1<=op)(h2:op<=28)(h:jv op=5):op=10:=by rcases ops op j h2 with rfl|rfl|rfl|rfl|rfl|rfl|rfl|rfl|rfl|rfl|rfl|rfl|rfl|rfl|rfl|rfl|rfl|rfl|rfl|rfl|rfl|rfl|rfl|rfl|rfl|rfl|rfl|rfl<;>first|rfl|(exfalso;revert h;decide)
def GR{c:bP}{s:eE}{t:Int}{e:bA}(hp:eI c s t=some e):(e.kind=1/\(a8 s.sync t).status=1)\/(e.kind=17/\(a8 s.sync t).status=4)\/e.kind=jv (cK (aE c t) (aI s t).pc).op:=by
 unfold eI at hp;split at hp
 .dsimp only at hp;split at hp
  .cases hp;exact .inl ⟨rfl,acO⟩
  .split at hp
   .cases hp;exact .inr (.inl ⟨rfl,acO⟩)
   .split at hp
    .split at hp
     .cases hp;exact .inr (.inr (Gq _ _ _))
     .cases hp
    .cases hp
 .cases hp
def settles{c:bP}{s:eE}{t sv:Int}{e:bA}(hc:lx c)(hl:∀t∈c.ts,t.ins.length<2^40)(H:rF c s)(R:yY c s)(hp:eI c s t=some e)(hen:aC c.w s.sync t e.kind e.obj=true)(hk:e.kind≠16/\e.kind≠2):(cD (aE c t) (fe (cK (aE c t) (aI s t).pc) e s (aI s t) sv).thread).2=true:=by
 have htl:inB t c.ts.length=true:=by
  unfold eI at hp;split at hp
  .rename_i hr;exact(gk hr).1
  .cases hp
 obtain⟨t0,t1⟩:=ao.1 htl;obtain⟨j,rfl⟩:=abH t0;have M:j<c.ts.length:=by omega
 obtain⟨p1,p2⟩:=H.pc j M;have p3:=R.tl j M;have hce:=uY M;have hP:=hc.thr j M;have O:=hl _ (LT M);rw[<-hce]at hP O;obtain⟨q1,q2⟩:=XP (cK (aE c j) (aI s j).pc) e s (aI s j) sv;have S:=XO (cK (aE c j) (aI s j).pc) e s (aI s j) sv;obtain⟨a0,a1⟩:=ao.1 p1;obtain⟨k,D⟩:=abH a0;have B:k<(aE c j).ins.length:=by omega
 have Z:=hP.ins k B;have hia:cK (aE c j) (aI s j).pc=(aE c j).ins[k]:=by unfold cK;rw[D];simp[List.getD,B]
 have u:=GR hp;have hW:=R.wt j M;rw[hia]at S u hW q1 q2 ⊢;have fin:∀N:Nat,N<(aE c j).ins.length->(fe (aE c j).ins[k] e s (aI s j) sv).thread.pc=N->(cD (aE c j) (fe (aE c j).ins[k] e s (aI s j) sv).thread).2=true:=λN G Y=>by obtain⟨_,_,s2,h,_⟩:=Li hP O G Y ⟨by rw[q1];exact p2,by rw[q2,p3];exact p2⟩;rw[h]
 have nx:(aE c j).ins[k].op≠28->IntKind.i64.wrap ((aI s j).pc+1)=((k+1:Nat):Int)/\k+1<(aE c j).ins.length:=λh=>by
  have:k+1≠(aE c j).ins.length:=λe=>h (Z.last.2 e)
  rw[D];exact⟨av (n:=(aE c j).ins.length) B acN,acN⟩
 rcases S with⟨G,Y⟩|⟨G,Y⟩|⟨G,Y⟩
 .exact fin k B (by rw[G,D])
 .rcases u with⟨g,_⟩|⟨g,_⟩|g
  .omega
  .omega
  .have h10:=Z4 Z.lo Z.hi (by rw[<-g];exact Y);have E:=Z.jmp;unfold Rs at E;rw[if_neg acN,if_pos h10]at E;obtain⟨b0,b1⟩:=ao.1 E;obtain⟨N,hk'⟩:=abH b0;exact fin N acN (by rw[G,hk'])
 .have h28:(aE c j).ins[k].op≠28:=by
   rcases u with⟨g,_⟩|⟨g,g2⟩|g
   .omega
   .exact SO (by rw[hW (.inr g2)];decide)
   .exact SO (by rw[<-g];exact hk.2)
  obtain⟨n1,n2⟩:=nx h28;exact fin (k+1) n2 (by rw[G,n1])
def V9{c:bP}{s:eE}{n:Nat}(H:rF c s)(I:pR c n s):∀t:Nat,t<c.ts.length->(aI s t).taint.length=(aI s t).regs.length:=λt u=>by
 have j:t<s.threads.length:=by rw[H.th];exact u
 have e:aI s t=s.threads[t]:=by simp[aI,j]
 rw[e];exact(I.thr _ (LT j)).1.len
def PW{c:bP}(B:lx c):yY c (du c):=by
 refine⟨⟨by simp[du,bM],by simp[du,bM],by simp[du,bM],λx D=>?_⟩,by simp[du],by simp[du],V9 (GQ B) (A4 B),λt E u=>?_⟩
 .have:=B.world.mtx x D;unfold qG at this;rw[aas]at this;exact this.1
 .exfalso;unfold du bM a8 at u;dsimp only at u;rw[Int.toNat_natCast]at u;have j:t<c.w.threads.length:=by have:=B.len;omega
  rcases t with _|t
  .simp[List.getD,j]at u
  .simp[List.getD,abs,j]at u
def SP{c:bP}{s j:eE}{t wake:Int}{u:bA}(h:nz c s t wake=some (j,u)):j.cells.length=s.cells.length/\j.futures.length=s.futures.length:=by
 rw[wL]at h;cases hp:eI c s t with
 |none=>rw[hp]at h;cases h
 |some e=>
  rw[hp]at h;dsimp only at h;split at h
  .split at h
   .unfold Au at h;split at h
    .split at h
     .cases h;exact⟨oM.2.2.1,oM.2.2.2⟩
     .cases h
    .cases h;exact⟨oM.2.2.1,oM.2.2.2⟩
   .cases h
  .cases h
def PX{c:bP}{s u:eE}{t wake:Int}{e B:bA}(hp:eI c s t=some e)(h:nz c s t wake=some (u,B))(k:e.kind=16):∃j,u.threads=s.threads.set t.toNat j/\j.pc=(aI s t).pc:=by
 rw[wL,hp]at h;dsimp only at h;split at h
 .split at h
  .unfold Au at h;rw[if_neg acN]at h;cases h;refine⟨_,rfl,?_⟩;unfold fe;rw[if_neg acN,if_neg acN,if_neg acN,if_neg acN,if_neg acN,if_neg acN,if_pos acN]
  .cases h
 .cases h
def SQ{c:bP}{s D:eE}{t wake:Int}{e':bA}{n:Nat}(hc:lx c)(H:rF c s)(R:yY c s)(h:nz c s t wake=some (D,e'))(I:pR c n D):yY c D:=by
 have H':=Lh hc H h;obtain⟨l1,l2⟩:=SP h;obtain⟨e,O,hp,Z,G,B,hz⟩:=GP h;have S:inB t c.ts.length=true:=by
  unfold eI at hp;split at hp
  .rename_i hr;exact(gk hr).1
  .cases hp
 obtain⟨t0,t1⟩:=ao.1 S;have u:∀(x:bI) (j:Nat),D.threads=s.threads.set t.toNat x->aI D j=if(j:Int)=t then x else aI s j:=λx j B=>by
  unfold aI;rw[B,abw];by_cases e:(j:Int)=t
  .have:t.toNat=j:=by omega
   have Y:j<s.threads.length:=by rw[H.th];omega
   rw[if_pos e,this];simp[List.getD,Y]
  .have:t.toNat≠j:=by omega
   rw[if_neg e];simp[List.getD,abs,this]
 refine⟨by rw[G];exact U7 _ _ _ _ R.fit,by rw[l1];exact R.nc,by rw[l2];exact R.nf,V9 H' I,λj Y hs=>?_⟩;rw[G]at hs;rcases XN Z j hs with⟨M,E⟩|⟨M,h34⟩
 .obtain⟨N,q1,q2⟩:=PX hp h E;rw[u N j q1,if_pos M,M,q2];rcases GR hp with⟨g,_⟩|⟨g,_⟩|g
  .omega
  .omega
  .rw[<-g];exact E
 .rw[u O j B,if_neg M];exact R.wt j Y h34
def XQ{c:bP}{p:List bA×eE}{ch:aD}(B:lx c)(E:∀t∈c.ts,t.ins.length<2^40)(h:rF c p.2)(R:yY c p.2)(I:pR c p.1.length p.2)(D:p.1.length<=400):yY c (IU c p ch).2:=by
 have j:=(H4 (ch:=ch) (nA B E) I D).1;unfold IU at j ⊢;split
 .exact R
 .rename_i G;rw[if_neg G]at j;split
  .exact R
  .rename_i n e u;rw[u]at j;exact SQ B h R u j
def U8{c:bP}(j:lx c)(B:∀t∈c.ts,t.ins.length<2^40)(l:List aD){p:List bA×eE}(h:rF c p.2)(R:yY c p.2)(I:pR c p.1.length p.2)(u:p.1.length<=400):yY c (gV c l p).2:=by
 induction l generalizing p with
 |nil=>exact R
 |cons ch l D=>obtain⟨a,b⟩:=H4 (ch:=ch) (nA j B) I u;exact D (SL j h) (XQ j B h R I u) a b
