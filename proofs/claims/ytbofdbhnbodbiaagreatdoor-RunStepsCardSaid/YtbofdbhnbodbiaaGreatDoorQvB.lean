/- A part of the proof; the statement is proved in the last part. -/
import Derived.Test.YtbofdbhnbodbiaaGreatDoorQvA
set_option linter.all false
set_option maxRecDepth 100000
set_option maxHeartbeats 20000000
namespace Go.Proofs.YtbofdbhnbodbiaaGreatDoor.Am
section
section
variable (c:aZ) (l:List aC) (t wake:Int) (h1:inB t l.length=true) (hc:inB t c.ts.length=true) (sy:SyncD) (e:da) (a:aC) (ev0 pc0:Int) (ce fu:List Int) (g1 g2:AV) (K A:SH) (hA:A=[]\/∃q,A=[q]) (b74 be b8 b6 bs bt bc bf:Nat)
 (hg:∀L:SH,(∀q∈A++K,q∈L)->Fz L g1 (.lst (a.regs.map ah))) (hg2:∀L:SH,(∀q∈A++K,q∈L)->Fz L g2 (.lst (a.taint.map bz))) (hev:a.ev=IntKind.i64.wrap (ev0+1)) (g1o:g1.one=true) (g2o:g2.one=true)
def qz(r:List AV)(ev:da)(T:SH):SH:=(b74,⟨4,[r]⟩)::(be,⟨7,[ev.enc]⟩)::(b8,⟨7,[co]⟩)::(b6,⟨7,[aO]⟩)::(bs,⟨7,[[.lst (sy.locks.map LockD.enc),.Uf sy.tx,.lst (sy.done.map aB),.lst (sy.threads.map ThrD.enc),.sl bc 0 ce.length,.sl bf 0 fu.length,.sl bt 0 l.length]]⟩)::(bt,⟨4,(l.map aC.enc).set t.toNat [.Uf pc0,g1,g2,.Uf ev0]⟩)::T
variable (hnd:(A++qz l t sy ev0 pc0 ce fu g1 g2 b74 be b8 b6 bs bt bc bf [] e ([]:SH)).names.Nodup) (th:aC) (Q:R)
 (hq:∀v L,Fz L v (iK (some (⟨sy,ce,fu,l.set t.toNat th⟩,e)))->Q v L)
include h1 hA hnd hq
theorem Rb(r:List AV)(T L:SH)(hL:L=A++qz l t sy ev0 pc0 ce fu g1 g2 b74 be b8 b6 bs bt bc bf r e (T++[(bf,⟨1,fu.map ah⟩),(bc,⟨1,ce.map ah⟩)]))(hr:∃x y z w,r=[x,y,z,w])(u:r.all AV.one=true)(Z:∀L,(∀q∈A++T,q∈L)->fU L r th.enc):
  fy Q [.ptr bs 0 0,.pptr [[.Uf t,.Uf wake]] 0 0,.ptr b6 0 0,.ptr b8 0 0,.ptr be 0 0,.ptr b74 0 0] L:=by
 subst hL;obtain⟨Y,t1⟩:=av.1 h1;have S:t.toNat<(l.map aC.enc).length:=by simp;omega
 have j:t.toNat<l.length:=by omega
 have x2:=dC [AV.Uf pc0,g1,g2,.Uf ev0] S;obtain⟨x,y,z,w,rfl⟩:=hr;have fin:∀L,(∀q∈A++T,q∈L)->(bf,(⟨1,fu.map ah⟩:Blk))∈L->(bc,(⟨1,ce.map ah⟩:Blk))∈L->(bt,(⟨4,((l.map aC.enc).set t.toNat [.Uf pc0,g1,g2,.Uf ev0]).set t.toNat [x,y,z,w]⟩:Blk))∈L->
   Q (.tup [.agg [.lst (sy.locks.map LockD.enc),.Uf sy.tx,.lst (sy.done.map aB),.lst (sy.threads.map ThrD.enc),.sl bc 0 ce.length,.sl bf 0 fu.length,.sl bt 0 l.length],.agg e.enc,.bool true]) L:=λL h1 h2 h3 h4=>by
  rw[List.set_set]at h4;exact hq _ _ (Fz.tups (.cons (Fz.aggs (.cons (.refl _) (.cons (.refl _) (.cons (.refl _) (.cons (.refl _) (.cons (Fz.sls h3 rfl Ue rfl) (.cons (Fz.sls h2 rfl Ue rfl) (.cons (FX j h4 (Z L h1)) .nil)))))))) (.cons (.refl _) (.cons (.refl _) .nil))))
 clear hq Z;refine vw ?_;unfold qz aO co at *;obtain⟨e1,ek,eo,ev,es,d,f⟩:=e;rw[show∀k v,da.enc ⟨e1,k,eo,v,es,d,f⟩=[.Uf e1,.Uf k,.Uf eo,.Uf v,.Uf es,.lst (d.map ah),.lst (f.map ah)]from λ_ _=>rfl]at *;rcases hA with rfl|⟨q,rfl⟩
 all_goals
  simp only[SH.names,Sx,S6,Tc,SB,Th,or_false,not_or,Tu,TF]at hnd
 .obtain⟨⟨n1,n2,n3,n4,n5⟩,⟨n6,n7,n8,n9⟩,⟨O,N,M⟩,⟨G,E⟩,n15,_⟩:=hnd;dsimp only[List.nil_append,List.cons_append]at fin ⊢
  repeat' (first|refine aU Y j rp rfl ?_|refine st ?_|refine cj rp Ub rfl rfl u Ud ?_|refine sb λD B=>?_|refine s2 (λh=>?_) λh=>?_|fail)
  exact fin _ (λq hq=>by simp[hq]) Ud Ud mm
 .obtain⟨⟨m1,m2,m3,m4,m5,m6⟩,⟨n1,n2,n3,n4,n5⟩,⟨n6,n7,n8,n9⟩,⟨O,N,M⟩,⟨G,E⟩,n15,_⟩:=hnd;obtain⟨qb,qx⟩:=q;dsimp only[List.nil_append,List.cons_append]at fin m1 m2 m3 m4 m5 m6 ⊢
  repeat' (first|refine aU Y j rp rfl ?_|refine st ?_|refine cj rp Ub rfl rfl u Ud ?_|refine sb λD B=>?_|refine s2 (λh=>?_) λh=>?_|fail)
  exact fin _ (λq hq=>by simp at hq ⊢;rcases hq with rfl|hq<;>simp[*]) Ud Ud mm
include hc hg hg2 hev g1o g2o
theorem Si(E:aq Tryz.prog 45 [.agg (am c t).enc,.agg a.enc] (lT (aT (am c t) a)))(O:((e.kind=16\/e.kind=2)/\th=a)\/((e.kind≠16/\e.kind≠2)/\aT (am c t) a=(th,true))):
  kj Q [.pptr [c.enc] 0 0,.ptr bs 0 0,.pptr [[.Uf t,.Uf wake]] 0 0,.ptr b6 0 0,.ptr b8 0 0,.ptr be 0 0,.ptr b74 0 0,.Uf a.pc] (A++qz l t sy ev0 pc0 ce fu g1 g2 b74 be b8 b6 bs bt bc bf [.Uf pc0,g1,g2,.Uf ev0] e (K++[(bf,⟨1,fu.map ah⟩),(bc,⟨1,ce.map ah⟩)])):=by
 have N:SH.names (([]:SH)++qz l t sy ev0 pc0 ce fu g1 g2 b74 be b8 b6 bs bt bc bf [] e ([]:SH)) |>.Nodup:=by have:=hnd;unfold SH.names at this ⊢;rw[LT]at this;exact(TN.1 this).2.1
 have j:th=a->∀L,L=A++qz l t sy ev0 pc0 ce fu g1 g2 b74 be b8 b6 bs bt bc bf [.Uf a.pc,g1,g2,.Uf a.ev] e (K++[(bf,⟨1,fu.map ah⟩),(bc,⟨1,ce.map ah⟩)])->fy Q [.ptr bs 0 0,.pptr [[.Uf t,.Uf wake]] 0 0,.ptr b6 0 0,.ptr b8 0 0,.ptr be 0 0,.ptr b74 0 0] L:=λY L Z=>
  Rb l t wake h1 sy e ev0 pc0 ce fu g1 g2 A hA b74 be b8 b6 bs bt bc bf hnd th Q hq _ K L Z ⟨_,_,_,_,rfl⟩ (by show(true&&(g1.one&&(g2.one&&(true&&true))))=true;rw[g1o,g2o];rfl) λL2 h2=>by rw[Y];exact .cons (.refl _) (.cons (hg L2 h2) (.cons (hg2 L2 h2) (.cons (.refl _) .nil)))
 have M:∀L,L=([]:SH)++qz l t sy ev0 pc0 ce fu g1 g2 b74 be b8 b6 bs bt bc bf th.enc e (([]:SH)++[(bf,⟨1,fu.map ah⟩),(bc,⟨1,ce.map ah⟩)])->fy Q [.ptr bs 0 0,.pptr [[.Uf t,.Uf wake]] 0 0,.ptr b6 0 0,.ptr b8 0 0,.ptr be 0 0,.ptr b74 0 0] L:=λL Z=>
  Rb l t wake h1 sy e ev0 pc0 ce fu g1 g2 [] (.inl rfl) b74 be b8 b6 bs bt bc bf N th Q hq _ [] L Z ⟨_,_,_,_,rfl⟩ rfl λL Z=>fU.refl _ _
 obtain⟨u0,u1⟩:=av.1 hc;have x1:(c.ts.map eb.enc)[t.toNat]? =some (am c t).enc:=gk hc;obtain⟨J,hJ⟩:∃J,J=fy Q:=⟨_,rfl⟩;refine vw ?_;unfold fy at hJ j M;rw[<-hJ]at j M ⊢;have S:∀B:SH,az [.agg (am c t).enc,.agg [.Uf a.pc,g1,g2,.Uf a.ev]] (A++(B++(K++[(bf,⟨1,fu.map ah⟩),(bc,⟨1,ce.map ah⟩)]))) [.agg (am c t).enc,.agg a.enc] (B++[(bf,⟨1,fu.map ah⟩),(bc,⟨1,ce.map ah⟩)]):=λB=>
  az.drop (K:=A++K) (by
   rw[S3];refine List.Perm.append_left A ?_;exact List.perm_append_comm_assoc _ _ _) rfl (fU.at_ (.cons (.refl _) (.cons (Fz.aggs (.cons (.refl _) (.cons (hg _ λq h=>h) (.cons (hg2 _ λq h=>h) (.cons (.refl _) .nil))))) .nil))).2
 clear hq hJ hg hg2 hc N h1;rw[hev]at j S;unfold qz aO co at *;obtain⟨e1,ek,eo,ev,es,d,f⟩:=e;rw[show∀k v,da.enc ⟨e1,k,eo,v,es,d,f⟩=[.Uf e1,.Uf k,.Uf eo,.Uf v,.Uf es,.lst (d.map ah),.lst (f.map ah)]from λ_ _=>rfl]at *;unfold aZ.enc at *;dsimp only at O;have hnd2:=hnd;rcases hA with rfl|⟨q,rfl⟩
 all_goals
  simp only[SH.names,Sx,S6,Tc,SB,Th,or_false,not_or,Tu,TF]at hnd
 .obtain⟨⟨n1,n2,n3,n4,n5⟩,⟨n6,n7,n8,n9⟩,⟨n10,n11,n12⟩,⟨n13,n14⟩,n15,_⟩:=hnd;dsimp only[List.nil_append,List.cons_append]at j M S ⊢;rcases O with⟨G,Y⟩|⟨G,hs⟩
  .have j:=j Y;rcases G with rfl|rfl
   all_goals
    repeat' (first|refine st ?_|refine sb λD u=>?_|refine s2 (λh=>?_) λh=>?_|fail)
    exact j _ rfl
  .have d1:decide (ek≠16)=true:=decide_eq_true G.1;have d2:decide (ek≠2)=true:=decide_eq_true G.2;rw[hs]at E
   repeat' (first|refine st ?_|refine sb λD u=>?_|refine s2 (λh=>?_) λh=>?_|fail)
   refine lQ (ac.pre (S [_,_,_,_,_,_]) (E.call (KL:=λv K'=>v=_/\K'=_) ⟨rfl,rfl⟩)) ?_;rintro _ _ ⟨rfl,rfl⟩;unfold lT;dsimp only[List.nil_append,List.cons_append];unfold aC.enc at M ⊢
   repeat' (first|refine st ?_|refine sb λD u=>?_|refine s2 (λh=>?_) λh=>?_|fail)
   exact M _ rfl
 .obtain⟨⟨m1,m2,m3,m4,m5,m6⟩,⟨n1,n2,n3,n4,n5⟩,⟨n6,n7,n8,n9⟩,⟨n10,n11,n12⟩,⟨n13,n14⟩,n15,_⟩:=hnd;obtain⟨qb,qx⟩:=q;dsimp only[List.nil_append,List.cons_append]at j M S m1 m2 m3 m4 m5 m6 ⊢;rcases O with⟨G,Y⟩|⟨G,hs⟩
  .have j:=j Y;rcases G with rfl|rfl
   all_goals
    repeat' (first|refine st ?_|refine sb λD u=>?_|refine s2 (λh=>?_) λh=>?_|fail)
    exact j _ rfl
  .have d1:decide (ek≠16)=true:=decide_eq_true G.1;have d2:decide (ek≠2)=true:=decide_eq_true G.2;rw[hs]at E
   repeat' (first|refine st ?_|refine sb λD u=>?_|refine s2 (λh=>?_) λh=>?_|fail)
   refine lQ (ac.pre (S [_,_,_,_,_,_]) (E.call (KL:=λv K'=>v=_/\K'=_) ⟨rfl,rfl⟩)) ?_;rintro _ _ ⟨rfl,rfl⟩;unfold lT;dsimp only[List.nil_append,List.cons_append];unfold aC.enc at M ⊢
   repeat' (first|refine st ?_|refine sb λD u=>?_|refine s2 (λh=>?_) λh=>?_|fail)
   exact M _ rfl
end
end
def Ip{j:List aS}:∀(k:Nat) {s y:aC},dQ j k s=(y,true)->inB y.pc j.length=true/\((j.getD y.pc.toNat default).op<1\/5<(j.getD y.pc.toNat default).op):=by
 intro k
 induction k with
 |zero=>
  intro s y h;unfold dQ at h
  repeat' split at h
  all_goals first
   |(cases h;exact⟨Ub,Ub⟩)
   |cases h
 |succ k u=>
  intro s y h;unfold dQ at h;split at h
  .split at h
   .cases h;exact⟨Ub,Ub⟩
   .split at h
    .cases h
    .exact u h
  .cases h
def vJ{c:eb}{s y:aC}(h:aT c s=(y,true)):inB y.pc c.ins.length=true/\((bH c y.pc).op<1\/5<(bH c y.pc).op)/\(y.regs.length:Int)=c.regs:=by
 have u:=Bx h;unfold aT at h;split at h
 .rename_i j;have:=Ip _ h;exact⟨this.1,this.2,by rw[u.2];exact j.1⟩
 .cases h
def OL{w:aI}{s:SyncD}{t k o wake:Int}(B:aE w s t k o=true)(j:Nat)(E:(j:Int)≠t)(h:(aR (bG w s t k o wake).1 j).status=2):(aR s j).status=2:=by
 unfold aE at B;simp only[SN]at B;have D:=av.1 B.1.1.2;have u:∀x:ThrD,(s.threads.set t.toNat x).getD j default=s.threads.getD j default:=λx=>by
  have:t.toNat≠j:=by omega
  simp[List.getD,SS,this]
 rcases kinds k with g|g
 .rw[eQ g]at B;exact absurd B.1.2 Ud
 rcases g with rfl|rfl|rfl|rfl|rfl|rfl|rfl|rfl|rfl|rfl|rfl|rfl|rfl|rfl|rfl|rfl|rfl|rfl|rfl|rfl|rfl|rfl|rfl
 all_goals simp only[bG,Int.reduceEq,if_true,if_false,or_true,true_or,or_false,or_self,↓reduceIte,aR,Td,cY]at h ⊢
 all_goals try rw[u]at h
 all_goals first
  |exact h
  |skip
 ·
  unfold eR at h;split at h
  .unfold fh at h;by_cases e:(cH s.threads o wake).toNat=j
   .rw[e]at h;rcases Fn j s.threads.length with g|g
    .simp[List.getD,g]at h
    .simp[List.getD,SS,g]at h;simp[List.getD,LE g];exact h
   .simpa[List.getD,SS,e]using h
  .exact h
 ·
  unfold Bo at h;rcases Fn j s.threads.length with g|g
  .simp only[List.getD,ed _ _ _ _ g,TC]at h;split at h
   .exact absurd h Ud
   .simpa[List.getD,g]using h
  .have:(cM s.threads o s.threads.length)[j]? =none:=LE (by rw[cB];exact g);simp[List.getD,this]at h;simp[List.getD,LE g];exact h
 ·
  by_cases e:o.toNat=j
  .rw[e]at h;rcases Fn j s.threads.length with g|g
   .simp[List.getD,g]at h
   .simp[List.getD,SS,g]at h;simp[List.getD,LE g];exact h
  .simpa[List.getD,SS,e]using h
structure zo(c:aZ)(s:cm):Prop where
 th:s.threads.length=c.ts.length
 sy:s.sync.threads.length=c.ts.length
 pc:∀t:Nat,t<c.ts.length->inB (ay s t).pc (am c t).ins.length=true/\((ay s t).regs.length:Int)=(am c t).regs
 run:∀t:Nat,t<c.ts.length->(aR s.sync t).status=2->eU (bH (am c t) (ay s t).pc).op≠0
def OM{op:Int}(j:6<=op)(h2:op<=28):eU op≠0:=by
 have:∀k:Nat,k<29->6<=k->gD.getD k 0≠0:=by decide
 unfold eU;exact this op.toNat Ua Ua
def BE{c:aZ}{s D:cm}{t wake:Int}{N:da}(h:gy c s t wake=some (D,N)):∃(e:da) (j:aC),bL c s t=some e/\aE c.w s.sync t e.kind e.obj=true/\D.sync=(bG c.w s.sync t e.kind e.obj wake).1/\D.threads=s.threads.set t.toNat j/\
  ((e.kind=16\/e.kind=2)/\j.pc=(ay s t).pc/\j.regs.length=(ay s t).regs.length\/∃a,aT (am c t) a=(j,true)):=by
 rw[jQ]at h;cases hp:bL c s t with
 |none=>rw[hp]at h;cases h
 |some e=>
  rw[hp]at h;dsimp only at h;split at h
  .split at h
   .rename_i E;have u:aE c.w s.sync t e.kind e.obj=true:=by
     unfold dE at E;split at E
     .assumption
     .cases E
    have B:(dE c.w s.sync t e.kind e.obj wake).1=(bG c.w s.sync t e.kind e.obj wake).1:=by unfold dE;rw[if_pos u]
    unfold kh at h;split at h
    .split at h
     .rename_i M;cases h;exact⟨e,_,rfl,u,B,rfl,.inr ⟨_,Prod.ext rfl M⟩⟩
     .cases h
    .rename_i O;cases h;have G:e.kind=16\/e.kind=2:=by omega
     refine⟨e,_,rfl,u,B,rfl,.inl ⟨G,?_,l6.2.1⟩⟩;unfold bY;rw[if_neg Ua,if_neg Ua,if_neg Ua,if_neg Ua,if_neg Ua,if_neg Ua,if_pos Ua]
   .cases h
  .cases h
def EM(w:aI)(s:SyncD)(t k o wake:Int):(bG w s t k o wake).1.threads.length=s.threads.length:=by
 unfold bG
 repeat' refine iteInduction (motive:=λx:SyncD×Int=>x.1.threads.length=s.threads.length) (λ_=>?_) (λ_=>?_)
 all_goals simp[cY,ue,cB,Bo]
def rt{c:aZ}{t:Nat}(h:t<c.ts.length):am c t=c.ts[t]:=by simp[am,h]
def EN{c:aZ}{s s':cm}{t wake:Int}{e':da}(hc:lZ c)(H:zo c s)(h:gy c s t wake=some (s',e')):zo c s':=by
 obtain⟨e,u,hp,hen,B,G,hz⟩:=BE h;have htl:inB t c.ts.length=true:=by
  unfold bL at hp;split at hp
  .rename_i hr;exact(dX hr).1
  .cases hp
 obtain⟨t0,t1⟩:=av.1 htl;have vS:∀j:Nat,ay s' j=if(j:Int)=t then u else ay s j:=λj=>by
  unfold ay;rw[G,Td];by_cases e:(j:Int)=t
  .have:t.toNat=j:=by omega
   have S:j<s.threads.length:=by rw[H.th];omega
   rw[if_pos e,this];simp[List.getD,S]
  .have:t.toNat≠j:=by omega
   rw[if_neg e];simp[List.getD,SS,this]
 have M:=H.pc t.toNat Ua;rw[Int.toNat_of_nonneg t0]at M;have key:inB u.pc (am c t).ins.length=true/\(u.regs.length:Int)=(am c t).regs:=by
  rcases hz with⟨_,E,h2⟩|⟨a,E⟩
  .rw[E,h2];exact M
  .obtain⟨Z,_,q3⟩:=vJ E;exact⟨Z,q3⟩
 refine⟨by rw[G,TS];exact H.th,by rw[B,EM];exact H.sy,λj S=>?_,λj S D=>?_⟩
 .rw[vS];by_cases e:(j:Int)=t
  .rw[if_pos e,e];exact key
  .rw[if_neg e];exact H.pc j S
 .rw[vS];by_cases Y:(j:Int)=t
  .rw[if_pos Y,Y];rw[B,Y]at D;rcases hz with⟨N,_,_⟩|⟨a,E⟩
   .exfalso;have O:t.toNat<s.sync.threads.length:=by rw[H.sy];omega
    rcases N with N|N
    .rw[N]at D;simp[bG,aR,cY,O]at D
    .rw[N]at D;simp[bG,aR,cY,O]at D
   .obtain⟨Z,q2,q3⟩:=vJ E;obtain⟨p0,p1⟩:=av.1 Z;have hT:=hc.thr t.toNat Ua;have hce:am c t=c.ts[t.toNat]'Ua:=by have:=rt (c:=c) (t:=t.toNat) Ua;rw[Int.toNat_of_nonneg t0]at this;exact this
    rw[hce]at Z q2 p1 ⊢;have hi:=hT.ins u.pc.toNat Ua;have hia:bH (c.ts[t.toNat]'Ua) u.pc=(c.ts[t.toNat]'Ua).ins[u.pc.toNat]'Ua:=by
     unfold bH;have:u.pc.toNat<(c.ts[t.toNat]'Ua).ins.length:=by omega
     simp[List.getD,this]
    rw[hia]at q2 ⊢;have E:=hi.lo;have h2:=hi.hi;exact OM Ua h2
  .rw[if_neg Y];refine H.run j S ?_;rw[B]at D;exact OL hen j Y D
def BF{c:aZ}(D:lZ c):zo c (ca c):=by
 have G:=D.len;refine⟨by simp[ca],?_,λt B=>?_,λt B u=>?_⟩
 .unfold ca a7;simp[G]
 .have E:=D.thr t B;have vS:ay (ca c) t=⟨0,List.replicate (c.ts[t]).regs.toNat 0,List.replicate (c.ts[t]).regs.toNat [],0⟩:=by simp[ay,ca,B]
  rw[vS,rt B];have:=E.ne;have:=E.r0;exact⟨av.2 ⟨Ud,by simp;omega⟩,by simp;omega⟩
 .exfalso;unfold ca a7 aR at u;dsimp only at u;rw[Int.toNat_natCast]at u;have j:t<c.w.threads.length:=by omega
  rcases t with _|t
  .simp[List.getD,j]at u
  .simp[List.getD,SS,j]at u
section
theorem Mn{n a:Int}(h:n=4\/n=5):(x9 n a).2=true:=by unfold x9;rcases h with rfl|rfl<;>rfl
theorem KE{n a b:Int}(h:6<=n/\n<=18):(iI n a b).2=true:=by
 have:n=6\/n=7\/n=8\/n=9\/n=10\/n=11\/n=12\/n=13\/n=14\/n=15\/n=16\/n=17\/n=18:=by omega
 unfold iI;rcases this with rfl|rfl|rfl|rfl|rfl|rfl|rfl|rfl|rfl|rfl|rfl|rfl|rfl<;>rfl
structure vK(c:eb)(s:aC):Prop where
 regs:(s.regs.length:Int)=c.regs
 taint:(s.taint.length:Int)=c.regs
section
variable {w:aI} {t:Nat} {c:eb} (hP:pp w t c) (hsh:c.ins.length<2^40)
include hP hsh
omit hsh in
theorem Iq{i:aS}(hi:i∈c.ins)(Y:i.sil){s:aC}(u:vK c s):∃s2,aL i s=some s2/\vK c s2/\s2.pc=(if i.op=5 then i.a else IntKind.i64.wrap (s.pc+1))/\s2.ev=s.ev:=by
 obtain⟨N,M,rfl⟩:=List.mem_iff_getElem.1 hi;have S:=hP.ins N M;generalize c.ins[N]=i at *;have Z:=S.regs;have O:=S.obj;have has:∀r∈aN i,s.has r=true:=λr D=>by have:=Z r D;have:=u.regs;unfold aC.has;rw[av];omega
 obtain⟨h1,h5⟩:=Y;have E:i.op=1\/i.op=2\/i.op=3\/i.op=4\/i.op=5:=by omega
 have fit:∀a v l,vK c (s.put a v l):=λa v l=>⟨by simp[aC.put,u.regs],by simp[aC.put,u.taint]⟩
 unfold aL;rcases E with e|e|e|e|e
 .have j:=has i.a (by simp[aN,e]);rw[if_pos e,if_pos j];exact⟨_,rfl,fit _ _ _,by simp[e,aC.put],rfl⟩
 .have j:=has i.a (by simp[aN,e]);have B:=has i.b (by simp[aN,e])
  rw[if_neg Ua,if_pos e,if_pos (by simp[j,B])];exact⟨_,rfl,fit _ _ _,by simp[e,aC.put],rfl⟩
 .have j:=has i.a (by simp[aN,e]);have B:=has i.b (by simp[aN,e])
  have G:i.n=4\/i.n=5:=by simpa[j9,e]using O
  rw[if_neg Ua,if_neg Ua,if_pos e,if_pos (by simp[j,B,Mn G])];exact⟨_,rfl,fit _ _ _,by simp[e,aC.put],rfl⟩
 .have j:=has i.a (by simp[aN,e]);have B:=has i.b (by simp[aN,e]);have hc:=has i.c (by simp[aN,e])
  have G:6<=i.n/\i.n<=18:=by simpa[j9,e]using O
  rw[if_neg Ua,if_neg Ua,if_neg Ua,if_pos e,if_pos (by simp[j,B,hc,KE G])];exact⟨_,rfl,fit _ _ _,by simp[e,aC.put],rfl⟩
 .rw[if_neg Ua,if_neg Ua,if_neg Ua,if_neg Ua];exact⟨_,rfl,⟨u.regs,u.taint⟩,by simp[e],rfl⟩
theorem KG:∀(m:Nat) {k:Nat} {s:aC},tG c.ins k m->s.pc=k->vK c s->∀n,m<=n->∃(G:Nat) (i:aS) (s2:aC),dQ c.ins n s=(s2,true)/\vK c s2/\s2.pc=G/\c.ins[G]? =some i/\¬i.sil/\s2.ev=s.ev:=by
 intro m
 induction m with
 |zero=>
  intro k s O hp Z n _;cases O with
  |ev _ i B M=>
  have hk:=(Tf.1 B).1;have E:inB s.pc c.ins.length=true:=by rw[av];omega
  have S:c.ins.getD s.pc.toNat default=i:=by rw[hp];simp[List.getD,B]
  have D:(c.ins.getD s.pc.toNat default).op<1\/5<(c.ins.getD s.pc.toNat default).op:=by rw[S];unfold aS.sil at M;omega
  refine⟨k,i,s,?_,Z,hp,B,M,rfl⟩;cases n with
  |zero=>unfold dQ;rw[if_pos E,if_pos D]
  |succ n=>unfold dQ;rw[if_pos E,if_pos D]
 |succ m ih=>
  intro k s O hp Z n hn;obtain⟨n,rfl⟩:∃n',n=n'+1:=⟨n-1,Ua⟩;have hk:=O.lt;have E:inB s.pc c.ins.length=true:=by rw[av];omega
  have N:∀(i:aS) (Y:Nat),c.ins[k]? =some i->i.sil->((if i.op=5 then i.a else IntKind.i64.wrap (s.pc+1))=(Y:Int))->tG c.ins Y m->∃(G:Nat) (i:aS) (s2:aC),dQ c.ins (n+1) s=(s2,true)/\vK c s2/\s2.pc=G/\c.ins[G]? =some i/\¬i.sil/\s2.ev=s.ev:=by
   intro i Y B M he u;obtain⟨s2,h1,h2,h3,h4⟩:=Iq hP (S8 B) M Z;have S:c.ins.getD s.pc.toNat default=i:=by rw[hp];simp[List.getD,B]
   have D:¬((c.ins.getD s.pc.toNat default).op<1\/5<(c.ins.getD s.pc.toNat default).op):=by rw[S];unfold aS.sil at M;omega
   obtain⟨G,i',s3,r1,r2,r3,r4,r5,r6⟩:=ih u (by rw[h3];exact he) h2 n Ua;refine⟨G,i',s3,?_,r2,r3,r4,r5,r6.trans h4⟩;rw[<-S]at h1;unfold dQ;rw[if_pos E,if_neg D,h1];exact r1
  cases O with
  |go _ _ i B M h5 u=>exact N i (k+1) B M (by rw[if_neg h5,hp,Te _ Ua];omega) u
  |jump _ _ j i B h5 ha u=>exact N i j B ⟨Ua,Ua⟩ (by rw[if_pos h5,ha]) u
theorem EO{k:Nat}{s:aC}(D:k<c.ins.length)(hp:s.pc=k)(j:vK c s):∃(u:Nat) (i:aS) (s2:aC),aT c s=(s2,true)/\vK c s2/\s2.pc=u/\c.ins[u]? =some i/\¬i.sil/\s2.ev=s.ev:=by obtain⟨m,B⟩:=hP.lans k D;unfold aT;rw[if_pos ⟨j.regs,j.taint⟩];exact KG hP hsh m B hp j _ (Nat.le_of_lt B.bound)
end
end
structure CR(c:aZ)(s:cm):Prop where
 fit:wi c.w s.sync
 nc:s.cells.length=c.w.cells.length
 nf:s.futures.length=c.w.futures.length
 tl:∀t:Nat,t<c.ts.length->(ay s t).taint.length=(ay s t).regs.length
 wt:∀t:Nat,t<c.ts.length->(aR s.sync t).status=3\/(aR s.sync t).status=4->eU (bH (am c t) (ay s t).pc).op=16
def CR.fit9{c:aZ}{s:cm}(H:zo c s)(R:CR c s):Ml c s:=
 ⟨R.fit,R.nc,R.nf,H.th,H.sy,λt j=>⟨(H.pc t j).1,(H.pc t j).2,by rw[R.tl t j];exact(H.pc t j).2⟩⟩
def Mo{w:aI}{s:SyncD}(t k o wake:Int)(h:wi w s):wi w (bG w s t k o wake).1:=by
 have u:(bG w s t k o wake).1.locks.length=s.locks.length:=by
  unfold bG
  repeat' refine iteInduction (motive:=λx:SyncD×Int=>x.1.locks.length=s.locks.length) (λ_=>?_) (λ_=>?_)
  all_goals simp[cg]
 have j:(bG w s t k o wake).1.done.length=s.done.length:=by
  unfold bG
  repeat' refine iteInduction (motive:=λx:SyncD×Int=>x.1.done.length=s.done.length) (λ_=>?_) (λ_=>?_)
  all_goals simp
 exact⟨by rw[u];exact h.locks,by rw[j];exact h.done,by rw[EM];exact h.threads,h.conds⟩
def EP{T:List ThrD}{o wake:Int}{j:Nat}(h:((eR T o wake).getD j default).status=3\/((eR T o wake).getD j default).status=4):(T.getD j default).status=3\/(T.getD j default).status=4:=by
 unfold eR at h;split at h
 .rename_i D;unfold fh at h;by_cases e:(cH T o wake).toNat=j
  .have B:=yh (l:=aG T o T.length) (wake:=wake) D;have u:fF T o (cH T o wake).toNat=true:=by have:=B;simp only[aG,TT]at this;exact this.2
   rw[e]at u;unfold fF cU at u;simp only[SN,decide_eq_true_eq]at u;exact .inl u.1
  .simpa[List.getD,SS,e]using h
 .exact h
def EQ{T:List ThrD}{o:Int}{j:Nat}(h:((cM T o T.length).getD j default).status=3\/((cM T o T.length).getD j default).status=4):(T.getD j default).status=3\/(T.getD j default).status=4:=by
 rcases Fn j T.length with g|g
 .simp only[List.getD,ed _ _ _ _ g,TC]at h;split at h
  .rename_i u;simp only[SN,cU,decide_eq_true_eq]at u;simp only[List.getD,g,mt,TC];exact .inl u.2.1
  .simpa[List.getD,g]using h
 .have:(cM T o T.length)[j]? =none:=LE (by rw[cB];exact g);simp[List.getD,this]at h;simp[List.getD,LE g];exact h
def ON{w:aI}{s:SyncD}{t k o wake:Int}(he:aE w s t k o=true)(j:Nat)(h:(aR (bG w s t k o wake).1 j).status=3∨(aR (bG w s t k o wake).1 j).status=4):((j:Int)=t∧k=16)∨((j:Int)≠t∧((aR s j).status=3∨(aR s j).status=4)):=by
  have he0:=he;unfold aE at he;simp only[SN]at he;obtain⟨⟨⟨hfi,hti⟩,hal⟩,hst⟩:=he;have hin:=av.1 hti;have hfl:=(fO.1 hfi).threads;have hset:∀x:ThrD,(j:Int)≠t→(s.threads.set t.toNat x).getD j default=s.threads.getD j default:=λx hj=>by
    have:t.toNat≠j:=by omega
    simp[List.getD,SS,this]
  have hself:∀x:ThrD,(j:Int)=t→(s.threads.set t.toNat x).getD j default=x:=λx hj=>by
    have e:t.toNat=j:=by omega
    have:j<s.threads.length:=by omega
    simp[List.getD,e,this]
  rcases kinds k with g|g
  · rw[eQ g]at hal;cases hal
  by_cases hj:(j:Int)=t
  · by_cases k16:k=16
    · exact .inl ⟨hj,k16⟩
    exfalso;have hjt:aR s t=s.threads.getD j default:=by unfold aR;rw[←hj,Td]
    rw[hjt]at hst;rcases g with rfl|rfl|rfl|rfl|rfl|rfl|rfl|rfl|rfl|rfl|rfl|rfl|rfl|rfl|rfl|rfl|rfl|rfl|rfl|rfl|rfl|rfl|rfl
    all_goals simp only[bG,Int.reduceEq,if_true,if_false,or_true,true_or,or_false,or_self,↓reduceIte,aR,Td,cY,SN,decide_eq_true_eq]at h hst
    all_goals try rw[hself _ hj]at h
    all_goals try dsimp only at h
    all_goals first
      |omega
      |(have h:=EP h;omega)
      |(have h:=EQ h;omega)
      |skip
    all_goals try (have e : t.toNat = j := by omega
                   rw[e]at h;omega)
    · have hr:=hst.2
      have hne:o≠t:=by simp[cJ]at hr;exact hr.1
      have ho:=av.1 (show inB o w.threads.length=true by simpa[allowedS]using hal);have e2:o.toNat≠j:=by omega
      have h1:=hst.1;simp[List.getD,SS,e2]at h h1;omega
  · refine .inr ⟨hj,?_⟩
    rcases g with rfl|rfl|rfl|rfl|rfl|rfl|rfl|rfl|rfl|rfl|rfl|rfl|rfl|rfl|rfl|rfl|rfl|rfl|rfl|rfl|rfl|rfl|rfl
    all_goals simp only[bG,Int.reduceEq,if_true,if_false,or_true,true_or,or_false,or_self,↓reduceIte,aR,Td,cY]at h ⊢
    all_goals try rw[hset _ hj]at h
    all_goals first
      |exact h
      |exact EP h
      |exact EQ h
      |skip
    · by_cases e:o.toNat=j
      · rw[e]at h
        rcases Fn j s.threads.length with g|g
        · simp[List.getD,g]at h
        · simp[List.getD,SS,g]at h
          simp[List.getD,LE g];exact h
      · simpa[List.getD,SS,e]using h
def OO(i:aS)(e:da)(s:cm)(th:aC)(sv:Int):((bY i e s th sv).thread.pc=th.pc/\(e.kind=1\/e.kind=16\/e.kind=2))\/((bY i e s th sv).thread.pc=i.b/\e.kind=5)\/((bY i e s th sv).thread.pc=IntKind.i64.wrap (th.pc+1)/\¬(e.kind=1\/e.kind=16\/e.kind=2)):=by
 unfold bY;dsimp only
 repeat' split
 all_goals first
  |exact .inl ⟨rfl,Ub⟩
  |exact .inr (.inr ⟨rfl,Ua⟩)
  |exact .inr (.inl ⟨rfl,Ub⟩)
def OP(i:aS)(e:da)(s:cm)(th:aC)(sv:Int):(bY i e s th sv).thread.regs.length=th.regs.length/\(bY i e s th sv).thread.taint.length=th.taint.length:=by
 unfold bY;dsimp only
 repeat' split
 all_goals simp
def KH{op:Int}(h:eU op≠2):op≠28:=λe=>by subst e;exact h rfl
def Rc{op:Int}(j:1<=op)(h2:op<=28)(h:eU op=5):op=10:=by rcases ops op j h2 with rfl|rfl|rfl|rfl|rfl|rfl|rfl|rfl|rfl|rfl|rfl|rfl|rfl|rfl|rfl|rfl|rfl|rfl|rfl|rfl|rfl|rfl|rfl|rfl|rfl|rfl|rfl|rfl<;>first|rfl|(exfalso;revert h;decide)
def BG{c:aZ}{s:cm}{t:Int}{e:da}(hp:bL c s t=some e):(e.kind=1/\(aR s.sync t).status=1)\/(e.kind=17/\(aR s.sync t).status=4)\/e.kind=eU (bH (am c t) (ay s t).pc).op:=by
 unfold bL at hp;split at hp
 .dsimp only at hp;split at hp
  .cases hp;exact .inl ⟨rfl,Ub⟩
  .split at hp
   .cases hp;exact .inr (.inl ⟨rfl,Ub⟩)
   .split at hp
    .split at hp
     .cases hp;exact .inr (.inr (Bw _ _ _))
     .cases hp
    .cases hp
 .cases hp
def settles{c:aZ}{s:cm}{t sv:Int}{e:da}(hc:lZ c)(hl:∀t∈c.ts,t.ins.length<2^40)(H:zo c s)(R:CR c s)(hp:bL c s t=some e)(hen:aE c.w s.sync t e.kind e.obj=true)(hk:e.kind≠16/\e.kind≠2):(aT (am c t) (bY (bH (am c t) (ay s t).pc) e s (ay s t) sv).thread).2=true:=by
 have htl:inB t c.ts.length=true:=by
  unfold bL at hp;split at hp
  .rename_i hr;exact(dX hr).1
  .cases hp
 obtain⟨t0,t1⟩:=av.1 htl;obtain⟨j,rfl⟩:=SZ t0;have M:j<c.ts.length:=by omega
 obtain⟨p1,p2⟩:=H.pc j M;have p3:=R.tl j M;have hce:=rt M;have hP:=hc.thr j M;have O:=hl _ (Sy M);rw[<-hce]at hP O;obtain⟨q1,q2⟩:=OP (bH (am c j) (ay s j).pc) e s (ay s j) sv;have S:=OO (bH (am c j) (ay s j).pc) e s (ay s j) sv;obtain⟨a0,a1⟩:=av.1 p1;obtain⟨k,D⟩:=SZ a0;have B:k<(am c j).ins.length:=by omega
 have Z:=hP.ins k B;have hia:bH (am c j) (ay s j).pc=(am c j).ins[k]:=by unfold bH;rw[D];simp[List.getD,B]
 have u:=BG hp;have hW:=R.wt j M;rw[hia]at S u hW q1 q2 ⊢;have fin:∀N:Nat,N<(am c j).ins.length->(bY (am c j).ins[k] e s (ay s j) sv).thread.pc=N->(aT (am c j) (bY (am c j).ins[k] e s (ay s j) sv).thread).2=true:=λN G Y=>by obtain⟨_,_,s2,h,_⟩:=EO hP O G Y ⟨by rw[q1];exact p2,by rw[q2,p3];exact p2⟩;rw[h]
 have nx:(am c j).ins[k].op≠28->IntKind.i64.wrap ((ay s j).pc+1)=((k+1:Nat):Int)/\k+1<(am c j).ins.length:=λh=>by
  have:k+1≠(am c j).ins.length:=λe=>h (Z.last.2 e)
  rw[D];exact⟨ax (n:=(am c j).ins.length) B Ua,Ua⟩
 rcases S with⟨G,Y⟩|⟨G,Y⟩|⟨G,Y⟩
 .exact fin k B (by rw[G,D])
 .rcases u with⟨g,_⟩|⟨g,_⟩|g
  .omega
  .omega
  .have h10:=Rc Z.lo Z.hi (by rw[<-g];exact Y);have E:=Z.jmp;unfold Ac at E;rw[if_neg Ua,if_pos h10]at E;obtain⟨b0,b1⟩:=av.1 E;obtain⟨N,hk'⟩:=SZ b0;exact fin N Ua (by rw[G,hk'])
 .have h28:(am c j).ins[k].op≠28:=by
   rcases u with⟨g,_⟩|⟨g,g2⟩|g
   .omega
   .exact KH (by rw[hW (.inr g2)];decide)
   .exact KH (by rw[<-g];exact hk.2)
  obtain⟨n1,n2⟩:=nx h28;exact fin (k+1) n2 (by rw[G,n1])
def Np{c:aZ}{s:cm}{n:Nat}(H:zo c s)(I:wF c n s):∀t:Nat,t<c.ts.length->(ay s t).taint.length=(ay s t).regs.length:=λt u=>by
 have j:t<s.threads.length:=by rw[H.th];exact u
 have e:ay s t=s.threads[t]:=by simp[ay,j]
 rw[e];exact(I.thr _ (Sy j)).1.len
def Ir{c:aZ}(B:lZ c):CR c (ca c):=by
 refine⟨⟨by simp[ca,a7],by simp[ca,a7],by simp[ca,a7],λx D=>?_⟩,by simp[ca],by simp[ca],Np (BF B) (Hb B),λt E u=>?_⟩
 .have:=B.world.mtx x D;unfold jw at this;rw[SN]at this;exact this.1
 .exfalso;unfold ca a7 aR at u;dsimp only at u;rw[Int.toNat_natCast]at u;have j:t<c.w.threads.length:=by have:=B.len;omega
  rcases t with _|t
  .simp[List.getD,j]at u
  .simp[List.getD,SS,j]at u
def KI{c:aZ}{s j:cm}{t wake:Int}{u:da}(h:gy c s t wake=some (j,u)):j.cells.length=s.cells.length/\j.futures.length=s.futures.length:=by
 rw[jQ]at h;cases hp:bL c s t with
 |none=>rw[hp]at h;cases h
 |some e=>
  rw[hp]at h;dsimp only at h;split at h
  .split at h
   .unfold kh at h;split at h
    .split at h
     .cases h;exact⟨l6.2.2.1,l6.2.2.2⟩
     .cases h
    .cases h;exact⟨l6.2.2.1,l6.2.2.2⟩
   .cases h
  .cases h
def Is{c:aZ}{s u:cm}{t wake:Int}{e B:da}(hp:bL c s t=some e)(h:gy c s t wake=some (u,B))(k:e.kind=16):∃j,u.threads=s.threads.set t.toNat j/\j.pc=(ay s t).pc:=by
 rw[jQ,hp]at h;dsimp only at h;split at h
 .split at h
  .unfold kh at h;rw[if_neg Ua]at h;cases h;refine⟨_,rfl,?_⟩;unfold bY;rw[if_neg Ua,if_neg Ua,if_neg Ua,if_neg Ua,if_neg Ua,if_neg Ua,if_pos Ua]
  .cases h
 .cases h
def KJ{c:aZ}{s D:cm}{t wake:Int}{e':da}{n:Nat}(hc:lZ c)(H:zo c s)(R:CR c s)(h:gy c s t wake=some (D,e'))(I:wF c n D):CR c D:=by
 have H':=EN hc H h;obtain⟨l1,l2⟩:=KI h;obtain⟨e,N,hp,Y,G,B,hz⟩:=BE h;have O:inB t c.ts.length=true:=by
  unfold bL at hp;split at hp
  .rename_i hr;exact(dX hr).1
  .cases hp
 obtain⟨t0,t1⟩:=av.1 O;have u:∀(x:aC) (j:Nat),D.threads=s.threads.set t.toNat x->ay D j=if(j:Int)=t then x else ay s j:=λx j B=>by
  unfold ay;rw[B,Td];by_cases e:(j:Int)=t
  .have:t.toNat=j:=by omega
   have S:j<s.threads.length:=by rw[H.th];omega
   rw[if_pos e,this];simp[List.getD,S]
  .have:t.toNat≠j:=by omega
   rw[if_neg e];simp[List.getD,SS,this]
 refine⟨by rw[G];exact Mo _ _ _ _ R.fit,by rw[l1];exact R.nc,by rw[l2];exact R.nf,Np H' I,λj S hs=>?_⟩;rw[G]at hs;rcases ON Y j hs with⟨e1,E⟩|⟨e1,Z⟩
 .obtain⟨M,q1,q2⟩:=Is hp h E;rw[u M j q1,if_pos e1,e1,q2];rcases BG hp with⟨g,_⟩|⟨g,_⟩|g
  .omega
  .omega
  .rw[<-g];exact E
 .rw[u N j B,if_neg e1];exact R.wt j S Z
section
section
variable (c:aZ) (s:cm) (t wake:Int) (h1:inB t s.threads.length=true) (hc:inB t c.ts.length=true) (sy:SyncD) (sv:Int) (e:da) (i:aS) (be b8 b6 bs bt bc bf:Nat) (o tt:Option Nat)
 (hnd:(qy s t e be b8 b6 bs bt bc bf o tt).names.Nodup) (Q:R)
 (ho:o=none->(ay s t).regs=[]) (htt:tt=none->(ay s t).taint=[]) (htl:(ay s t).taint.length=(ay s t).regs.length)
 (hra:e.kind=3\/e.kind=23\/e.kind=5->0<=i.a/\i.a<(ay s t).regs.length) (th:aC) (a:Mc) (ha:a=bY i e s (ay s t) sv)
 (hse:aq Tryz.prog 45 [.agg (am c t).enc,.agg a.thread.enc] (lT (aT (am c t) a.thread)))
 (hth:((e.kind=16\/e.kind=2)/\th=a.thread)\/((e.kind≠16/\e.kind≠2)/\aT (am c t) a.thread=(th,true)))
 (hq:∀v L,Fz L v (iK (some (⟨sy,a.cells,a.futures,s.threads.set t.toNat th⟩,{e with value:=a.value})))->Q v L)
include h1 hc hnd ho htt htl hra ha hse hth hq
theorem Sj(B:Nat)(hb:B∉(qy s t e be b8 b6 bs bt bc bf o tt).names):gR Q (EK c t wake i be b8 b6 bs B a.thread.pc) (EL s t sy e be b8 b6 bs bt bc bf o tt B a.value a.cells a.futures):=by
 have hev:a.thread.ev=IntKind.i64.wrap ((ay s t).ev+1):=by rw[ha];exact l6.1
 have D:List.Nodup [B,be,b8,b6,bs,bt]:=by simp only[SH.names,qy,Sx,Tc,SB,not_or]at hnd hb;obtain⟨⟨n1,n2,n3,n4,n5⟩,⟨n6,n7,n8,n9⟩,⟨n10,n11,n12⟩,⟨n13,n14⟩,Z,Y⟩:=hnd;obtain⟨m1,m2,m3,m4,m5,m6⟩:=hb;clear n5 n9 n12 n14 Z Y m6;simp;omega
 have u:=λ(g1 g2:AV) (K A:SH) hA hg hg2 g1o g2o hn=>Si c s.threads t wake h1 hc sy {e with value:=a.value} a.thread (ay s t).ev (ay s t).pc a.cells a.futures g1 g2 K A hA B be b8 b6 bs bt bc bf hg hg2 hev g1o g2o hn th Q hq hse hth;obtain⟨J,hJ⟩:∃J,J=kj Q:=⟨_,rfl⟩;refine vw ?_;unfold kj at hJ u;rw[<-hJ]at u ⊢;clear hq hth hse hJ;by_cases S:e.kind=3\/e.kind=23
 .obtain⟨r0,r1⟩:=hra Ua;have r2:i.a.toNat<(ay s t).regs.length:=by omega
  have r3:i.a.toNat<(ay s t).taint.length:=by omega
  have y1:=i9 r0 r1;have y2:=l5 (s:=ay s t) r0 Ua;obtain⟨o,rfl⟩:∃b,o=some b:=by
   cases o with
   |some b=>exact⟨b,rfl⟩
   |none=>exfalso;rw[ho rfl]at r2;simp at r2
  obtain⟨tt,rfl⟩:∃b,tt=some b:=by
   cases tt with
   |some b=>exact⟨b,rfl⟩
   |none=>exfalso;rw[htt rfl]at r3;simp at r3
  have G:a.thread.regs=(ay s t).regs.set i.a.toNat a.value/\a.thread.taint=(ay s t).taint.set i.a.toNat [(ay s t).ev]:=by
   rw[ha];unfold bY;rcases S with k|k
   .rw[if_pos k];exact⟨rfl,rfl⟩
   .rw[if_neg Ua,if_pos k];exact⟨rfl,rfl⟩
  have j:=λ(nb:Nat) (hnb:nb∉[B,be,b8,b6,bs,bt])=>u (.sl o 0 (ay s t).regs.length) (.sl tt 0 (ay s t).taint.length) [(o,⟨1,((ay s t).regs.map ah).set i.a.toNat [.Uf a.value]⟩),(tt,⟨1,((ay s t).taint.map bz).set i.a.toNat [.sl nb 0 1]⟩)] [(nb,⟨1,[[.Uf (ay s t).ev]]⟩)] (.inr ⟨_,rfl⟩)
   (λL O=>Fz.sls (size:=1) (l:=a.thread.regs) (f:=ah) (O _ (.tail _ (.head _))) (by rw[G.1,To];rfl) Ue (by rw[G.1];simp))
   (λL O=>by
    rw[G.2];exact CB (n:=1) (f:=bz) Ue rfl r3 (O _ (.tail _ (.tail _ (.head _)))) (.cons (Fz.sls (size:=1) (l:=[(ay s t).ev]) (f:=ah) (O _ (.head _)) rfl Ue rfl) .nil)) rfl rfl (Tc.2 ⟨hnb,D⟩)
  have M:=hnd;simp only[SH.names,qy,ma,ab,List.map_cons,List.map_nil,List.nodup_cons,List.mem_cons,not_or,List.not_mem_nil,or_false,List.cons_append,List.nil_append,not_false_eq_true,and_true]at M hb;obtain⟨⟨n1,n2,n3,n4,n5,n6,n7,n8⟩,⟨n9,n10,n11,n12,n13,n14,Z⟩,⟨Y,n17,n18,n19,n20,n21⟩,⟨n22,n23,n24,n25,n26⟩,⟨n27,n28,n29,n30⟩,⟨n31,n32,n33⟩,⟨n34,n35⟩,n36,_⟩:=M;obtain⟨q1,q2,q3,q4,q5,q6,q7,q8,q9⟩:=hb;clear u G ho htt hra htl hnd D;unfold EK EL qz at *;obtain⟨e1,ek,eo,ev,es,d,f⟩:=e;obtain⟨op,ia,ib,ic,im,E⟩:=i;dsimp only at *;rw[show aS.enc ⟨op,ia,ib,ic,im,E⟩=[.Uf op,.Uf ia,.Uf ib,.Uf ic,.Uf im,.Uf E]from rfl];rw[show∀k v,da.enc ⟨e1,k,eo,v,es,d,f⟩=[.Uf e1,.Uf k,.Uf eo,.Uf v,.Uf es,.lst (d.map ah),.lst (f.map ah)]from λ_ _=>rfl]at *;unfold pJ ma aJ ab at *;dsimp only[List.cons_append,List.nil_append]at *;rcases S with rfl|rfl
  all_goals
   repeat' (first|refine aU r0 r2 rp rfl ?_|refine aU r0 r3 rp rfl ?_|refine st ?_|refine sb λnb_ N=>?_|refine s2 (λh=>?_) λh=>?_|fail)
   refine j _ ?_;simp only[SB,Th,or_false,not_or];simp only[SH.names,Sx,S6,SB,not_or]at N;refine⟨?_,?_,?_,?_,?_,?_⟩<;>omega
 .have G:a.thread.regs=(ay s t).regs/\a.thread.taint=(ay s t).taint:=by
   rw[ha];unfold bY;rw[if_neg (λh=>S (.inl h)),if_neg (λh=>S (.inr h))]
   repeat' split
   all_goals exact⟨rfl,rfl⟩
  have j:=u (aJ o (ay s t).regs.length) (aJ tt (ay s t).taint.length) (ma (ay s t) o tt) [] (.inl rfl) (λL O=>by rw[G.1];exact fw rfl ho λb e=>by subst e;exact O _ (by simp[ma,ab])) (λL O=>by rw[G.2];exact fw rfl htt λb e=>by subst e;exact O _ (by simp[ma,ab])) (gL _ _) (gL _ _) D;have e3:decide (e.kind=3)=false:=decide_eq_false (λh=>S (.inl h));have e23:decide (e.kind=23)=false:=decide_eq_false (λh=>S (.inr h));clear u G;unfold EK EL qz at *;obtain⟨e1,ek,eo,ev,es,d,f⟩:=e;dsimp only at *;rw[show∀k v,da.enc ⟨e1,k,eo,v,es,d,f⟩=[.Uf e1,.Uf k,.Uf eo,.Uf v,.Uf es,.lst (d.map ah),.lst (f.map ah)]from λ_ _=>rfl]at *
  repeat' (first|refine st ?_|refine sb λnb_ N=>?_|refine s2 (λh=>?_) λh=>?_|fail)
  exact j
end
end
end Go.Proofs.YtbofdbhnbodbiaaGreatDoor.Am
