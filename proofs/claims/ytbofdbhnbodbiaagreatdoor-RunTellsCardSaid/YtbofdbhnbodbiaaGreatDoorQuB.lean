/- A part of the proof; the statement is proved in the last part. -/
import Derived.Test.YtbofdbhnbodbiaaGreatDoorQuA
set_option linter.all false
set_option maxRecDepth 100000
set_option maxHeartbeats 20000000
namespace Go.Proofs.YtbofdbhnbodbiaaGreatDoor.Am
section
section
variable (c:aY) (l:List aD) (t wake:Int) (h1:inB t l.length=true) (hc:inB t c.ts.length=true) (sy:SyncD) (e:cu) (a:aD) (ev0 pc0:Int) (ce fu:List Int) (g1 g2:AV) (K A:SH) (hA:A=[]\/∃q,A=[q]) (b74 be b8 b6 bs bt bc bf:Nat)
 (hg:∀L:SH,(∀q∈A++K,q∈L)->Fz L g1 (.lst (a.regs.map ah))) (hg2:∀L:SH,(∀q∈A++K,q∈L)->Fz L g2 (.lst (a.taint.map bC))) (hev:a.ev=IntKind.i64.wrap (ev0+1)) (g1o:g1.one=true) (g2o:g2.one=true)
def qH(r:List AV)(ev:cu)(T:SH):SH:=(b74,⟨4,[r]⟩)::(be,⟨7,[ev.enc]⟩)::(b8,⟨7,[cH]⟩)::(b6,⟨7,[aC]⟩)::(bs,⟨7,[[.lst (sy.locks.map LockD.enc),.U1 sy.tx,.lst (sy.done.map aB),.lst (sy.threads.map ThrD.enc),.sl bc 0 ce.length,.sl bf 0 fu.length,.sl bt 0 l.length]]⟩)::(bt,⟨4,(l.map aD.enc).set t.toNat [.U1 pc0,g1,g2,.U1 ev0]⟩)::T
variable (hnd:(A++qH l t sy ev0 pc0 ce fu g1 g2 b74 be b8 b6 bs bt bc bf [] e ([]:SH)).names.Nodup) (th:aD) (Q:R)
 (hq:∀v L,Fz L v (ry (some (⟨sy,ce,fu,l.set t.toNat th⟩,e)))->Q v L)
include h1 hA hnd hq
theorem RW(r:List AV)(T L:SH)(hL:L=A++qH l t sy ev0 pc0 ce fu g1 g2 b74 be b8 b6 bs bt bc bf r e (T++[(bf,⟨1,fu.map ah⟩),(bc,⟨1,ce.map ah⟩)]))(hr:∃x y z w,r=[x,y,z,w])(u:r.all AV.one=true)(Z:∀L,(∀q∈A++T,q∈L)->eP L r th.enc):
  fH Q [.ptr bs 0 0,.pptr [[.U1 t,.U1 wake]] 0 0,.ptr b6 0 0,.ptr b8 0 0,.ptr be 0 0,.ptr b74 0 0] L:=by
 subst hL;obtain⟨Y,t1⟩:=av.1 h1;have S:t.toNat<(l.map aD.enc).length:=by simp;omega
 have j:t.toNat<l.length:=by omega
 have x2:=dG [AV.U1 pc0,g1,g2,.U1 ev0] S;obtain⟨x,y,z,w,rfl⟩:=hr;have fin:∀L,(∀q∈A++T,q∈L)->(bf,(⟨1,fu.map ah⟩:Blk))∈L->(bc,(⟨1,ce.map ah⟩:Blk))∈L->(bt,(⟨4,((l.map aD.enc).set t.toNat [.U1 pc0,g1,g2,.U1 ev0]).set t.toNat [x,y,z,w]⟩:Blk))∈L->
   Q (.tup [.agg [.lst (sy.locks.map LockD.enc),.U1 sy.tx,.lst (sy.done.map aB),.lst (sy.threads.map ThrD.enc),.sl bc 0 ce.length,.sl bf 0 fu.length,.sl bt 0 l.length],.agg e.enc,.bool true]) L:=λL h1 h2 h3 h4=>by
  rw[List.set_set]at h4;exact hq _ _ (Fz.tups (.cons (Fz.aggs (.cons (.refl _) (.cons (.refl _) (.cons (.refl _) (.cons (.refl _) (.cons (Fz.sls h3 rfl U0 rfl) (.cons (Fz.sls h2 rfl U0 rfl) (.cons (Gp j h4 (Z L h1)) .nil)))))))) (.cons (.refl _) (.cons (.refl _) .nil))))
 clear hq Z;refine vw ?_;unfold qH aC cH at *;obtain⟨e1,ek,eo,ev,es,d,f⟩:=e;rw[show∀k v,cu.enc ⟨e1,k,eo,v,es,d,f⟩=[.U1 e1,.U1 k,.U1 eo,.U1 v,.U1 es,.lst (d.map ah),.lst (f.map ah)]from λ_ _=>rfl]at *;rcases hA with rfl|⟨q,rfl⟩
 all_goals
  simp only[SH.names,Tj,TV,T2,To,T6,or_false,not_or,Ui,Uq]at hnd
 .obtain⟨⟨n1,n2,n3,n4,n5⟩,⟨n6,n7,n8,n9⟩,⟨O,N,M⟩,⟨G,E⟩,n15,_⟩:=hnd;dsimp only[List.nil_append,List.cons_append]at fin ⊢
  repeat' (first|refine aV Y j rp rfl ?_|refine st ?_|refine cg rp UX rfl rfl u UZ ?_|refine sb λD B=>?_|refine s2 (λh=>?_) λh=>?_|fail)
  exact fin _ (λq hq=>by simp[hq]) UZ UZ mm
 .obtain⟨⟨m1,m2,m3,m4,m5,m6⟩,⟨n1,n2,n3,n4,n5⟩,⟨n6,n7,n8,n9⟩,⟨O,N,M⟩,⟨G,E⟩,n15,_⟩:=hnd;obtain⟨qb,qx⟩:=q;dsimp only[List.nil_append,List.cons_append]at fin m1 m2 m3 m4 m5 m6 ⊢
  repeat' (first|refine aV Y j rp rfl ?_|refine st ?_|refine cg rp UX rfl rfl u UZ ?_|refine sb λD B=>?_|refine s2 (λh=>?_) λh=>?_|fail)
  exact fin _ (λq hq=>by simp at hq ⊢;rcases hq with rfl|hq<;>simp[*]) UZ UZ mm
include hc hg hg2 hev g1o g2o
theorem S2(E:aq Tryz.prog 45 [.agg (ao c t).enc,.agg a.enc] (l8 (aU (ao c t) a)))(O:((e.kind=16\/e.kind=2)/\th=a)\/((e.kind≠16/\e.kind≠2)/\aU (ao c t) a=(th,true))):
  kC Q [.pptr [c.enc] 0 0,.ptr bs 0 0,.pptr [[.U1 t,.U1 wake]] 0 0,.ptr b6 0 0,.ptr b8 0 0,.ptr be 0 0,.ptr b74 0 0,.U1 a.pc] (A++qH l t sy ev0 pc0 ce fu g1 g2 b74 be b8 b6 bs bt bc bf [.U1 pc0,g1,g2,.U1 ev0] e (K++[(bf,⟨1,fu.map ah⟩),(bc,⟨1,ce.map ah⟩)])):=by
 have N:SH.names (([]:SH)++qH l t sy ev0 pc0 ce fu g1 g2 b74 be b8 b6 bs bt bc bf [] e ([]:SH)) |>.Nodup:=by have:=hnd;unfold SH.names at this ⊢;rw[Ti]at this;exact(Uv.1 this).2.1
 have j:th=a->∀L,L=A++qH l t sy ev0 pc0 ce fu g1 g2 b74 be b8 b6 bs bt bc bf [.U1 a.pc,g1,g2,.U1 a.ev] e (K++[(bf,⟨1,fu.map ah⟩),(bc,⟨1,ce.map ah⟩)])->fH Q [.ptr bs 0 0,.pptr [[.U1 t,.U1 wake]] 0 0,.ptr b6 0 0,.ptr b8 0 0,.ptr be 0 0,.ptr b74 0 0] L:=λY L Z=>
  RW l t wake h1 sy e ev0 pc0 ce fu g1 g2 A hA b74 be b8 b6 bs bt bc bf hnd th Q hq _ K L Z ⟨_,_,_,_,rfl⟩ (by show(true&&(g1.one&&(g2.one&&(true&&true))))=true;rw[g1o,g2o];rfl) λL2 h2=>by rw[Y];exact .cons (.refl _) (.cons (hg L2 h2) (.cons (hg2 L2 h2) (.cons (.refl _) .nil)))
 have M:∀L,L=([]:SH)++qH l t sy ev0 pc0 ce fu g1 g2 b74 be b8 b6 bs bt bc bf th.enc e (([]:SH)++[(bf,⟨1,fu.map ah⟩),(bc,⟨1,ce.map ah⟩)])->fH Q [.ptr bs 0 0,.pptr [[.U1 t,.U1 wake]] 0 0,.ptr b6 0 0,.ptr b8 0 0,.ptr be 0 0,.ptr b74 0 0] L:=λL Z=>
  RW l t wake h1 sy e ev0 pc0 ce fu g1 g2 [] (.inl rfl) b74 be b8 b6 bs bt bc bf N th Q hq _ [] L Z ⟨_,_,_,_,rfl⟩ rfl λL Z=>eP.refl _ _
 obtain⟨u0,u1⟩:=av.1 hc;have x1:(c.ts.map eB.enc)[t.toNat]? =some (ao c t).enc:=gv hc;obtain⟨J,hJ⟩:∃J,J=fH Q:=⟨_,rfl⟩;refine vw ?_;unfold fH at hJ j M;rw[<-hJ]at j M ⊢;have S:∀B:SH,az [.agg (ao c t).enc,.agg [.U1 a.pc,g1,g2,.U1 a.ev]] (A++(B++(K++[(bf,⟨1,fu.map ah⟩),(bc,⟨1,ce.map ah⟩)]))) [.agg (ao c t).enc,.agg a.enc] (B++[(bf,⟨1,fu.map ah⟩),(bc,⟨1,ce.map ah⟩)]):=λB=>
  az.drop (K:=A++K) (by
   rw[TS];refine List.Perm.append_left A ?_;exact List.perm_append_comm_assoc _ _ _) rfl (eP.at_ (.cons (.refl _) (.cons (Fz.aggs (.cons (.refl _) (.cons (hg _ λq h=>h) (.cons (hg2 _ λq h=>h) (.cons (.refl _) .nil))))) .nil))).2
 clear hq hJ hg hg2 hc N h1;rw[hev]at j S;unfold qH aC cH at *;obtain⟨e1,ek,eo,ev,es,d,f⟩:=e;rw[show∀k v,cu.enc ⟨e1,k,eo,v,es,d,f⟩=[.U1 e1,.U1 k,.U1 eo,.U1 v,.U1 es,.lst (d.map ah),.lst (f.map ah)]from λ_ _=>rfl]at *;unfold aY.enc at *;dsimp only at O;have hnd2:=hnd;rcases hA with rfl|⟨q,rfl⟩
 all_goals
  simp only[SH.names,Tj,TV,T2,To,T6,or_false,not_or,Ui,Uq]at hnd
 .obtain⟨⟨n1,n2,n3,n4,n5⟩,⟨n6,n7,n8,n9⟩,⟨n10,n11,n12⟩,⟨n13,n14⟩,n15,_⟩:=hnd;dsimp only[List.nil_append,List.cons_append]at j M S ⊢;rcases O with⟨G,Y⟩|⟨G,hs⟩
  .have j:=j Y;rcases G with rfl|rfl
   all_goals
    repeat' (first|refine st ?_|refine sb λD u=>?_|refine s2 (λh=>?_) λh=>?_|fail)
    exact j _ rfl
  .have d1:decide (ek≠16)=true:=decide_eq_true G.1;have d2:decide (ek≠2)=true:=decide_eq_true G.2;rw[hs]at E
   repeat' (first|refine st ?_|refine sb λD u=>?_|refine s2 (λh=>?_) λh=>?_|fail)
   refine l5 (ac.pre (S [_,_,_,_,_,_]) (E.call (KL:=λv K'=>v=_/\K'=_) ⟨rfl,rfl⟩)) ?_;rintro _ _ ⟨rfl,rfl⟩;unfold l8;dsimp only[List.nil_append,List.cons_append];unfold aD.enc at M ⊢
   repeat' (first|refine st ?_|refine sb λD u=>?_|refine s2 (λh=>?_) λh=>?_|fail)
   exact M _ rfl
 .obtain⟨⟨m1,m2,m3,m4,m5,m6⟩,⟨n1,n2,n3,n4,n5⟩,⟨n6,n7,n8,n9⟩,⟨n10,n11,n12⟩,⟨n13,n14⟩,n15,_⟩:=hnd;obtain⟨qb,qx⟩:=q;dsimp only[List.nil_append,List.cons_append]at j M S m1 m2 m3 m4 m5 m6 ⊢;rcases O with⟨G,Y⟩|⟨G,hs⟩
  .have j:=j Y;rcases G with rfl|rfl
   all_goals
    repeat' (first|refine st ?_|refine sb λD u=>?_|refine s2 (λh=>?_) λh=>?_|fail)
    exact j _ rfl
  .have d1:decide (ek≠16)=true:=decide_eq_true G.1;have d2:decide (ek≠2)=true:=decide_eq_true G.2;rw[hs]at E
   repeat' (first|refine st ?_|refine sb λD u=>?_|refine s2 (λh=>?_) λh=>?_|fail)
   refine l5 (ac.pre (S [_,_,_,_,_,_]) (E.call (KL:=λv K'=>v=_/\K'=_) ⟨rfl,rfl⟩)) ?_;rintro _ _ ⟨rfl,rfl⟩;unfold l8;dsimp only[List.nil_append,List.cons_append];unfold aD.enc at M ⊢
   repeat' (first|refine st ?_|refine sb λD u=>?_|refine s2 (λh=>?_) λh=>?_|fail)
   exact M _ rfl
end
end
def IY{j:List aT}:∀(k:Nat) {s y:aD},dT j k s=(y,true)->inB y.pc j.length=true/\((j.getD y.pc.toNat default).op<1\/5<(j.getD y.pc.toNat default).op):=by
 intro k
 induction k with
 |zero=>
  intro s y h;unfold dT at h
  repeat' split at h
  all_goals first
   |(cases h;exact⟨UX,UX⟩)
   |cases h
 |succ k u=>
  intro s y h;unfold dT at h;split at h
  .split at h
   .cases h;exact⟨UX,UX⟩
   .split at h
    .cases h
    .exact u h
  .cases h
def wh{c:eB}{s y:aD}(h:aU c s=(y,true)):inB y.pc c.ins.length=true/\((bH c y.pc).op<1\/5<(bH c y.pc).op)/\(y.regs.length:Int)=c.regs:=by
 have u:=BW h;unfold aU at h;split at h
 .rename_i j;have:=IY _ h;exact⟨this.1,this.2,by rw[u.2];exact j.1⟩
 .cases h
def Pr{w:aG}{s:SyncD}{t k o wake:Int}(B:aJ w s t k o=true)(j:Nat)(E:(j:Int)≠t)(h:(aR (bG w s t k o wake).1 j).status=2):(aR s j).status=2:=by
 unfold aJ at B;simp only[Ty]at B;have D:=av.1 B.1.1.2;have u:∀x:ThrD,(s.threads.set t.toNat x).getD j default=s.threads.getD j default:=λx=>by
  have:t.toNat≠j:=by omega
  simp[List.getD,TF,this]
 rcases kinds k with g|g
 .rw[eW g]at B;exact absurd B.1.2 UZ
 rcases g with rfl|rfl|rfl|rfl|rfl|rfl|rfl|rfl|rfl|rfl|rfl|rfl|rfl|rfl|rfl|rfl|rfl|rfl|rfl|rfl|rfl|rfl|rfl
 all_goals simp only[bG,Int.reduceEq,if_true,if_false,or_true,true_or,or_false,or_self,↓reduceIte,aR,T3,c9]at h ⊢
 all_goals try rw[u]at h
 all_goals first
  |exact h
  |skip
 ·
  unfold eX at h;split at h
  .unfold fq at h;by_cases e:(cI s.threads o wake).toNat=j
   .rw[e]at h;rcases Tf j s.threads.length with g|g
    .simp[List.getD,g]at h
    .simp[List.getD,TF,g]at h;simp[List.getD,Tg g];exact h
   .simpa[List.getD,TF,e]using h
  .exact h
 ·
  unfold BL at h;rcases Tf j s.threads.length with g|g
  .simp only[List.getD,ef _ _ _ _ g,Uo]at h;split at h
   .exact absurd h UZ
   .simpa[List.getD,g]using h
  .have:(cO s.threads o s.threads.length)[j]? =none:=Tg (by rw[cB];exact g);simp[List.getD,this]at h;simp[List.getD,Tg g];exact h
 ·
  by_cases e:o.toNat=j
  .rw[e]at h;rcases Tf j s.threads.length with g|g
   .simp[List.getD,g]at h
   .simp[List.getD,TF,g]at h;simp[List.getD,Tg g];exact h
  .simpa[List.getD,TF,e]using h
structure oV(c:aY)(s:cy):Prop where
 th:s.threads.length=c.ts.length
 sy:s.sync.threads.length=c.ts.length
 pc:∀t:Nat,t<c.ts.length->inB (ay s t).pc (ao c t).ins.length=true/\((ay s t).regs.length:Int)=(ao c t).regs
 run:∀t:Nat,t<c.ts.length->(aR s.sync t).status=2->eZ (bH (ao c t) (ay s t).pc).op≠0
def Ps{op:Int}(j:6<=op)(h2:op<=28):eZ op≠0:=by
 have:∀k:Nat,k<29->6<=k->gI.getD k 0≠0:=by decide
 unfold eZ;exact this op.toNat UW UW
def B5{c:aY}{s D:cy}{t wake:Int}{N:cu}(h:iG c s t wake=some (D,N)):∃(e:cu) (j:aD),co c s t=some e/\aJ c.w s.sync t e.kind e.obj=true/\D.sync=(bG c.w s.sync t e.kind e.obj wake).1/\D.threads=s.threads.set t.toNat j/\
  ((e.kind=16\/e.kind=2)/\j.pc=(ay s t).pc/\j.regs.length=(ay s t).regs.length\/∃a,aU (ao c t) a=(j,true)):=by
 rw[po]at h;cases hp:co c s t with
 |none=>rw[hp]at h;cases h
 |some e=>
  rw[hp]at h;dsimp only at h;split at h
  .split at h
   .rename_i E;have u:aJ c.w s.sync t e.kind e.obj=true:=by
     unfold eg at E;split at E
     .assumption
     .cases E
    have B:(eg c.w s.sync t e.kind e.obj wake).1=(bG c.w s.sync t e.kind e.obj wake).1:=by unfold eg;rw[if_pos u]
    unfold mf at h;split at h
    .split at h
     .rename_i M;cases h;exact⟨e,_,rfl,u,B,rfl,.inr ⟨_,Prod.ext rfl M⟩⟩
     .cases h
    .rename_i O;cases h;have G:e.kind=16\/e.kind=2:=by omega
     refine⟨e,_,rfl,u,B,rfl,.inl ⟨G,?_,mg.2.1⟩⟩;unfold bY;rw[if_neg UW,if_neg UW,if_neg UW,if_neg UW,if_neg UW,if_neg UW,if_pos UW]
   .cases h
  .cases h
def Fh(w:aG)(s:SyncD)(t k o wake:Int):(bG w s t k o wake).1.threads.length=s.threads.length:=by
 unfold bG
 repeat' refine iteInduction (motive:=λx:SyncD×Int=>x.1.threads.length=s.threads.length) (λ_=>?_) (λ_=>?_)
 all_goals simp[c9,uy,cB,BL]
def rL{c:aY}{t:Nat}(h:t<c.ts.length):ao c t=c.ts[t]:=by simp[ao,h]
def Fi{c:aY}{s s':cy}{t wake:Int}{e':cu}(hc:gS c)(H:oV c s)(h:iG c s t wake=some (s',e')):oV c s':=by
 obtain⟨e,u,hp,hen,B,G,hz⟩:=B5 h;have htl:inB t c.ts.length=true:=by
  unfold co at hp;split at hp
  .rename_i hr;exact(d9 hr).1
  .cases hp
 obtain⟨t0,t1⟩:=av.1 htl;have wx:∀j:Nat,ay s' j=if(j:Int)=t then u else ay s j:=λj=>by
  unfold ay;rw[G,T3];by_cases e:(j:Int)=t
  .have:t.toNat=j:=by omega
   have S:j<s.threads.length:=by rw[H.th];omega
   rw[if_pos e,this];simp[List.getD,S]
  .have:t.toNat≠j:=by omega
   rw[if_neg e];simp[List.getD,TF,this]
 have M:=H.pc t.toNat UW;rw[Int.toNat_of_nonneg t0]at M;have key:inB u.pc (ao c t).ins.length=true/\(u.regs.length:Int)=(ao c t).regs:=by
  rcases hz with⟨_,E,h2⟩|⟨a,E⟩
  .rw[E,h2];exact M
  .obtain⟨Z,_,q3⟩:=wh E;exact⟨Z,q3⟩
 refine⟨by rw[G,UE];exact H.th,by rw[B,Fh];exact H.sy,λj S=>?_,λj S D=>?_⟩
 .rw[wx];by_cases e:(j:Int)=t
  .rw[if_pos e,e];exact key
  .rw[if_neg e];exact H.pc j S
 .rw[wx];by_cases Y:(j:Int)=t
  .rw[if_pos Y,Y];rw[B,Y]at D;rcases hz with⟨N,_,_⟩|⟨a,E⟩
   .exfalso;have O:t.toNat<s.sync.threads.length:=by rw[H.sy];omega
    rcases N with N|N
    .rw[N]at D;simp[bG,aR,c9,O]at D
    .rw[N]at D;simp[bG,aR,c9,O]at D
   .obtain⟨Z,q2,q3⟩:=wh E;obtain⟨p0,p1⟩:=av.1 Z;have hT:=hc.thr t.toNat UW;have hce:ao c t=c.ts[t.toNat]'UW:=by have:=rL (c:=c) (t:=t.toNat) UW;rw[Int.toNat_of_nonneg t0]at this;exact this
    rw[hce]at Z q2 p1 ⊢;have hi:=hT.ins u.pc.toNat UW;have hia:bH (c.ts[t.toNat]'UW) u.pc=(c.ts[t.toNat]'UW).ins[u.pc.toNat]'UW:=by
     unfold bH;have:u.pc.toNat<(c.ts[t.toNat]'UW).ins.length:=by omega
     simp[List.getD,this]
    rw[hia]at q2 ⊢;have E:=hi.lo;have h2:=hi.hi;exact Ps UW h2
  .rw[if_neg Y];refine H.run j S ?_;rw[B]at D;exact Pr hen j Y D
def B6{c:aY}(D:gS c):oV c (bL c):=by
 have G:=D.len;refine⟨by simp[bL],?_,λt B=>?_,λt B u=>?_⟩
 .unfold bL a7;simp[G]
 .have E:=D.thr t B;have wx:ay (bL c) t=⟨0,List.replicate (c.ts[t]).regs.toNat 0,List.replicate (c.ts[t]).regs.toNat [],0⟩:=by simp[ay,bL,B]
  rw[wx,rL B];have:=E.ne;have:=E.r0;exact⟨av.2 ⟨UZ,by simp;omega⟩,by simp;omega⟩
 .exfalso;unfold bL a7 aR at u;dsimp only at u;rw[Int.toNat_natCast]at u;have j:t<c.w.threads.length:=by omega
  rcases t with _|t
  .simp[List.getD,j]at u
  .simp[List.getD,TF,j]at u
def Li{c:aY}{p:List cu×cy}{ch:cK}(u:gS c)(h:oV c p.2):oV c (BT c p ch).2:=by
 unfold BT;split
 .exact h
 .split
  .exact h
  .rename_i n e j;exact Fi u h j
def MW{c:aY}(u:gS c)(l:List cK){p:List cu×cy}(h:oV c p.2):oV c (cX c l p).2:=by
 induction l generalizing p with
 |nil=>exact h
 |cons B l j=>exact j (Li u h)
section
theorem MX{n a:Int}(h:n=4\/n=5):(yw n a).2=true:=by unfold yw;rcases h with rfl|rfl<;>rfl
theorem Lj{n a b:Int}(h:6<=n/\n<=18):(iQ n a b).2=true:=by
 have:n=6\/n=7\/n=8\/n=9\/n=10\/n=11\/n=12\/n=13\/n=14\/n=15\/n=16\/n=17\/n=18:=by omega
 unfold iQ;rcases this with rfl|rfl|rfl|rfl|rfl|rfl|rfl|rfl|rfl|rfl|rfl|rfl|rfl<;>rfl
structure wi(c:eB)(s:aD):Prop where
 regs:(s.regs.length:Int)=c.regs
 taint:(s.taint.length:Int)=c.regs
section
variable {w:aG} {t:Nat} {c:eB} (hP:pF w t c) (hsh:c.ins.length<2^40)
include hP hsh
omit hsh in
theorem IZ{i:aT}(hi:i∈c.ins)(Y:i.sil){s:aD}(u:wi c s):∃s2,aM i s=some s2/\wi c s2/\s2.pc=(if i.op=5 then i.a else IntKind.i64.wrap (s.pc+1))/\s2.ev=s.ev:=by
 obtain⟨N,M,rfl⟩:=List.mem_iff_getElem.1 hi;have S:=hP.ins N M;generalize c.ins[N]=i at *;have Z:=S.regs;have O:=S.obj;have has:∀r∈aO i,s.has r=true:=λr D=>by have:=Z r D;have:=u.regs;unfold aD.has;rw[av];omega
 obtain⟨h1,h5⟩:=Y;have E:i.op=1\/i.op=2\/i.op=3\/i.op=4\/i.op=5:=by omega
 have fit:∀a v l,wi c (s.put a v l):=λa v l=>⟨by simp[aD.put,u.regs],by simp[aD.put,u.taint]⟩
 unfold aM;rcases E with e|e|e|e|e
 .have j:=has i.a (by simp[aO,e]);rw[if_pos e,if_pos j];exact⟨_,rfl,fit _ _ _,by simp[e,aD.put],rfl⟩
 .have j:=has i.a (by simp[aO,e]);have B:=has i.b (by simp[aO,e])
  rw[if_neg UW,if_pos e,if_pos (by simp[j,B])];exact⟨_,rfl,fit _ _ _,by simp[e,aD.put],rfl⟩
 .have j:=has i.a (by simp[aO,e]);have B:=has i.b (by simp[aO,e])
  have G:i.n=4\/i.n=5:=by simpa[ku,e]using O
  rw[if_neg UW,if_neg UW,if_pos e,if_pos (by simp[j,B,MX G])];exact⟨_,rfl,fit _ _ _,by simp[e,aD.put],rfl⟩
 .have j:=has i.a (by simp[aO,e]);have B:=has i.b (by simp[aO,e]);have hc:=has i.c (by simp[aO,e])
  have G:6<=i.n/\i.n<=18:=by simpa[ku,e]using O
  rw[if_neg UW,if_neg UW,if_neg UW,if_pos e,if_pos (by simp[j,B,hc,Lj G])];exact⟨_,rfl,fit _ _ _,by simp[e,aD.put],rfl⟩
 .rw[if_neg UW,if_neg UW,if_neg UW,if_neg UW];exact⟨_,rfl,⟨u.regs,u.taint⟩,by simp[e],rfl⟩
theorem Lk:∀(m:Nat) {k:Nat} {s:aD},tX c.ins k m->s.pc=k->wi c s->∀n,m<=n->∃(G:Nat) (i:aT) (s2:aD),dT c.ins n s=(s2,true)/\wi c s2/\s2.pc=G/\c.ins[G]? =some i/\¬i.sil/\s2.ev=s.ev:=by
 intro m
 induction m with
 |zero=>
  intro k s O hp Z n _;cases O with
  |ev _ i B M=>
  have hk:=(T4.1 B).1;have E:inB s.pc c.ins.length=true:=by rw[av];omega
  have S:c.ins.getD s.pc.toNat default=i:=by rw[hp];simp[List.getD,B]
  have D:(c.ins.getD s.pc.toNat default).op<1\/5<(c.ins.getD s.pc.toNat default).op:=by rw[S];unfold aT.sil at M;omega
  refine⟨k,i,s,?_,Z,hp,B,M,rfl⟩;cases n with
  |zero=>unfold dT;rw[if_pos E,if_pos D]
  |succ n=>unfold dT;rw[if_pos E,if_pos D]
 |succ m ih=>
  intro k s O hp Z n hn;obtain⟨n,rfl⟩:∃n',n=n'+1:=⟨n-1,UW⟩;have hk:=O.lt;have E:inB s.pc c.ins.length=true:=by rw[av];omega
  have N:∀(i:aT) (Y:Nat),c.ins[k]? =some i->i.sil->((if i.op=5 then i.a else IntKind.i64.wrap (s.pc+1))=(Y:Int))->tX c.ins Y m->∃(G:Nat) (i:aT) (s2:aD),dT c.ins (n+1) s=(s2,true)/\wi c s2/\s2.pc=G/\c.ins[G]? =some i/\¬i.sil/\s2.ev=s.ev:=by
   intro i Y B M he u;obtain⟨s2,h1,h2,h3,h4⟩:=IZ hP (T0 B) M Z;have S:c.ins.getD s.pc.toNat default=i:=by rw[hp];simp[List.getD,B]
   have D:¬((c.ins.getD s.pc.toNat default).op<1\/5<(c.ins.getD s.pc.toNat default).op):=by rw[S];unfold aT.sil at M;omega
   obtain⟨G,i',s3,r1,r2,r3,r4,r5,r6⟩:=ih u (by rw[h3];exact he) h2 n UW;refine⟨G,i',s3,?_,r2,r3,r4,r5,r6.trans h4⟩;rw[<-S]at h1;unfold dT;rw[if_pos E,if_neg D,h1];exact r1
  cases O with
  |go _ _ i B M h5 u=>exact N i (k+1) B M (by rw[if_neg h5,hp,TY _ UW];omega) u
  |jump _ _ j i B h5 ha u=>exact N i j B ⟨UW,UW⟩ (by rw[if_pos h5,ha]) u
theorem Fj{k:Nat}{s:aD}(D:k<c.ins.length)(hp:s.pc=k)(j:wi c s):∃(u:Nat) (i:aT) (s2:aD),aU c s=(s2,true)/\wi c s2/\s2.pc=u/\c.ins[u]? =some i/\¬i.sil/\s2.ev=s.ev:=by obtain⟨m,B⟩:=hP.lans k D;unfold aU;rw[if_pos ⟨j.regs,j.taint⟩];exact Lk hP hsh m B hp j _ (Nat.le_of_lt B.bound)
end
end
structure u9(c:aY)(s:cy):Prop where
 fit:wK c.w s.sync
 nc:s.cells.length=c.w.cells.length
 nf:s.futures.length=c.w.futures.length
 tl:∀t:Nat,t<c.ts.length->(ay s t).taint.length=(ay s t).regs.length
 wt:∀t:Nat,t<c.ts.length->(aR s.sync t).status=3\/(aR s.sync t).status=4->eZ (bH (ao c t) (ay s t).pc).op=16
def u9.fit9{c:aY}{s:cy}(H:oV c s)(R:u9 c s):MU c s:=
 ⟨R.fit,R.nc,R.nf,H.th,H.sy,λt j=>⟨(H.pc t j).1,(H.pc t j).2,by rw[R.tl t j];exact(H.pc t j).2⟩⟩
def MY{w:aG}{s:SyncD}(t k o wake:Int)(h:wK w s):wK w (bG w s t k o wake).1:=by
 have u:(bG w s t k o wake).1.locks.length=s.locks.length:=by
  unfold bG
  repeat' refine iteInduction (motive:=λx:SyncD×Int=>x.1.locks.length=s.locks.length) (λ_=>?_) (λ_=>?_)
  all_goals simp[cf]
 have j:(bG w s t k o wake).1.done.length=s.done.length:=by
  unfold bG
  repeat' refine iteInduction (motive:=λx:SyncD×Int=>x.1.done.length=s.done.length) (λ_=>?_) (λ_=>?_)
  all_goals simp
 exact⟨by rw[u];exact h.locks,by rw[j];exact h.done,by rw[Fh];exact h.threads,h.conds⟩
def Fk{T:List ThrD}{o wake:Int}{j:Nat}(h:((eX T o wake).getD j default).status=3\/((eX T o wake).getD j default).status=4):(T.getD j default).status=3\/(T.getD j default).status=4:=by
 unfold eX at h;split at h
 .rename_i D;unfold fq at h;by_cases e:(cI T o wake).toNat=j
  .have B:=yD (l:=aI T o T.length) (wake:=wake) D;have u:fN T o (cI T o wake).toNat=true:=by have:=B;simp only[aI,UF]at this;exact this.2
   rw[e]at u;unfold fN cW at u;simp only[Ty,decide_eq_true_eq]at u;exact .inl u.1
  .simpa[List.getD,TF,e]using h
 .exact h
def Fm{T:List ThrD}{o:Int}{j:Nat}(h:((cO T o T.length).getD j default).status=3\/((cO T o T.length).getD j default).status=4):(T.getD j default).status=3\/(T.getD j default).status=4:=by
 rcases Tf j T.length with g|g
 .simp only[List.getD,ef _ _ _ _ g,Uo]at h;split at h
  .rename_i u;simp only[Ty,cW,decide_eq_true_eq]at u;simp only[List.getD,g,Td,Uo];exact .inl u.2.1
  .simpa[List.getD,g]using h
 .have:(cO T o T.length)[j]? =none:=Tg (by rw[cB];exact g);simp[List.getD,this]at h;simp[List.getD,Tg g];exact h
def Pt{w:aG}{s:SyncD}{t k o wake:Int}(he:aJ w s t k o=true)(j:Nat)(h:(aR (bG w s t k o wake).1 j).status=3∨(aR (bG w s t k o wake).1 j).status=4):((j:Int)=t∧k=16)∨((j:Int)≠t∧((aR s j).status=3∨(aR s j).status=4)):=by
  have he0:=he;unfold aJ at he;simp only[Ty]at he;obtain⟨⟨⟨hfi,hti⟩,hal⟩,hst⟩:=he;have hin:=av.1 hti;have hfl:=(fW.1 hfi).threads;have hset:∀x:ThrD,(j:Int)≠t→(s.threads.set t.toNat x).getD j default=s.threads.getD j default:=λx hj=>by
    have:t.toNat≠j:=by omega
    simp[List.getD,TF,this]
  have hself:∀x:ThrD,(j:Int)=t→(s.threads.set t.toNat x).getD j default=x:=λx hj=>by
    have e:t.toNat=j:=by omega
    have:j<s.threads.length:=by omega
    simp[List.getD,e,this]
  rcases kinds k with g|g
  · rw[eW g]at hal;cases hal
  by_cases hj:(j:Int)=t
  · by_cases k16:k=16
    · exact .inl ⟨hj,k16⟩
    exfalso;have hjt:aR s t=s.threads.getD j default:=by unfold aR;rw[←hj,T3]
    rw[hjt]at hst;rcases g with rfl|rfl|rfl|rfl|rfl|rfl|rfl|rfl|rfl|rfl|rfl|rfl|rfl|rfl|rfl|rfl|rfl|rfl|rfl|rfl|rfl|rfl|rfl
    all_goals simp only[bG,Int.reduceEq,if_true,if_false,or_true,true_or,or_false,or_self,↓reduceIte,aR,T3,c9,Ty,decide_eq_true_eq]at h hst
    all_goals try rw[hself _ hj]at h
    all_goals try dsimp only at h
    all_goals first
      |omega
      |(have h:=Fk h;omega)
      |(have h:=Fm h;omega)
      |skip
    all_goals try (have e : t.toNat = j := by omega
                   rw[e]at h;omega)
    · have hr:=hst.2
      have hne:o≠t:=by simp[cL]at hr;exact hr.1
      have ho:=av.1 (show inB o w.threads.length=true by simpa[allowedS]using hal);have e2:o.toNat≠j:=by omega
      have h1:=hst.1;simp[List.getD,TF,e2]at h h1;omega
  · refine .inr ⟨hj,?_⟩
    rcases g with rfl|rfl|rfl|rfl|rfl|rfl|rfl|rfl|rfl|rfl|rfl|rfl|rfl|rfl|rfl|rfl|rfl|rfl|rfl|rfl|rfl|rfl|rfl
    all_goals simp only[bG,Int.reduceEq,if_true,if_false,or_true,true_or,or_false,or_self,↓reduceIte,aR,T3,c9]at h ⊢
    all_goals try rw[hset _ hj]at h
    all_goals first
      |exact h
      |exact Fk h
      |exact Fm h
      |skip
    · by_cases e:o.toNat=j
      · rw[e]at h
        rcases Tf j s.threads.length with g|g
        · simp[List.getD,g]at h
        · simp[List.getD,TF,g]at h
          simp[List.getD,Tg g];exact h
      · simpa[List.getD,TF,e]using h
def Pu(i:aT)(e:cu)(s:cy)(th:aD)(sv:Int):((bY i e s th sv).thread.pc=th.pc/\(e.kind=1\/e.kind=16\/e.kind=2))\/((bY i e s th sv).thread.pc=i.b/\e.kind=5)\/((bY i e s th sv).thread.pc=IntKind.i64.wrap (th.pc+1)/\¬(e.kind=1\/e.kind=16\/e.kind=2)):=by
 unfold bY;dsimp only
 repeat' split
 all_goals first
  |exact .inl ⟨rfl,UX⟩
  |exact .inr (.inr ⟨rfl,UW⟩)
  |exact .inr (.inl ⟨rfl,UX⟩)
def Pv(i:aT)(e:cu)(s:cy)(th:aD)(sv:Int):(bY i e s th sv).thread.regs.length=th.regs.length/\(bY i e s th sv).thread.taint.length=th.taint.length:=by
 unfold bY;dsimp only
 repeat' split
 all_goals simp
def Ll{op:Int}(h:eZ op≠2):op≠28:=λe=>by subst e;exact h rfl
def RX{op:Int}(j:1<=op)(h2:op<=28)(h:eZ op=5):op=10:=by rcases ops op j h2 with rfl|rfl|rfl|rfl|rfl|rfl|rfl|rfl|rfl|rfl|rfl|rfl|rfl|rfl|rfl|rfl|rfl|rfl|rfl|rfl|rfl|rfl|rfl|rfl|rfl|rfl|rfl|rfl<;>first|rfl|(exfalso;revert h;decide)
def B7{c:aY}{s:cy}{t:Int}{e:cu}(hp:co c s t=some e):(e.kind=1/\(aR s.sync t).status=1)\/(e.kind=17/\(aR s.sync t).status=4)\/e.kind=eZ (bH (ao c t) (ay s t).pc).op:=by
 unfold co at hp;split at hp
 .dsimp only at hp;split at hp
  .cases hp;exact .inl ⟨rfl,UX⟩
  .split at hp
   .cases hp;exact .inr (.inl ⟨rfl,UX⟩)
   .split at hp
    .split at hp
     .cases hp;exact .inr (.inr (BV _ _ _))
     .cases hp
    .cases hp
 .cases hp
def settles{c:aY}{s:cy}{t sv:Int}{e:cu}(hc:gS c)(hl:∀t∈c.ts,t.ins.length<2^40)(H:oV c s)(R:u9 c s)(hp:co c s t=some e)(hen:aJ c.w s.sync t e.kind e.obj=true)(hk:e.kind≠16/\e.kind≠2):(aU (ao c t) (bY (bH (ao c t) (ay s t).pc) e s (ay s t) sv).thread).2=true:=by
 have htl:inB t c.ts.length=true:=by
  unfold co at hp;split at hp
  .rename_i hr;exact(d9 hr).1
  .cases hp
 obtain⟨t0,t1⟩:=av.1 htl;obtain⟨j,rfl⟩:=TM t0;have M:j<c.ts.length:=by omega
 obtain⟨p1,p2⟩:=H.pc j M;have p3:=R.tl j M;have hce:=rL M;have hP:=hc.thr j M;have O:=hl _ (Tk M);rw[<-hce]at hP O;obtain⟨q1,q2⟩:=Pv (bH (ao c j) (ay s j).pc) e s (ay s j) sv;have S:=Pu (bH (ao c j) (ay s j).pc) e s (ay s j) sv;obtain⟨a0,a1⟩:=av.1 p1;obtain⟨k,D⟩:=TM a0;have B:k<(ao c j).ins.length:=by omega
 have Z:=hP.ins k B;have hia:bH (ao c j) (ay s j).pc=(ao c j).ins[k]:=by unfold bH;rw[D];simp[List.getD,B]
 have u:=B7 hp;have hW:=R.wt j M;rw[hia]at S u hW q1 q2 ⊢;have fin:∀N:Nat,N<(ao c j).ins.length->(bY (ao c j).ins[k] e s (ay s j) sv).thread.pc=N->(aU (ao c j) (bY (ao c j).ins[k] e s (ay s j) sv).thread).2=true:=λN G Y=>by obtain⟨_,_,s2,h,_⟩:=Fj hP O G Y ⟨by rw[q1];exact p2,by rw[q2,p3];exact p2⟩;rw[h]
 have nx:(ao c j).ins[k].op≠28->IntKind.i64.wrap ((ay s j).pc+1)=((k+1:Nat):Int)/\k+1<(ao c j).ins.length:=λh=>by
  have:k+1≠(ao c j).ins.length:=λe=>h (Z.last.2 e)
  rw[D];exact⟨aw (n:=(ao c j).ins.length) B UW,UW⟩
 rcases S with⟨G,Y⟩|⟨G,Y⟩|⟨G,Y⟩
 .exact fin k B (by rw[G,D])
 .rcases u with⟨g,_⟩|⟨g,_⟩|g
  .omega
  .omega
  .have h10:=RX Z.lo Z.hi (by rw[<-g];exact Y);have E:=Z.jmp;unfold Au at E;rw[if_neg UW,if_pos h10]at E;obtain⟨b0,b1⟩:=av.1 E;obtain⟨N,hk'⟩:=TM b0;exact fin N UW (by rw[G,hk'])
 .have h28:(ao c j).ins[k].op≠28:=by
   rcases u with⟨g,_⟩|⟨g,g2⟩|g
   .omega
   .exact Ll (by rw[hW (.inr g2)];decide)
   .exact Ll (by rw[<-g];exact hk.2)
  obtain⟨n1,n2⟩:=nx h28;exact fin (k+1) n2 (by rw[G,n1])
def NZ{c:aY}{s:cy}{n:Nat}(H:oV c s)(I:kB c n s):∀t:Nat,t<c.ts.length->(ay s t).taint.length=(ay s t).regs.length:=λt u=>by
 have j:t<s.threads.length:=by rw[H.th];exact u
 have e:ay s t=s.threads[t]:=by simp[ay,j]
 rw[e];exact(I.thr _ (Tk j)).1.len
def I1{c:aY}(B:gS c):u9 c (bL c):=by
 refine⟨⟨by simp[bL,a7],by simp[bL,a7],by simp[bL,a7],λx D=>?_⟩,by simp[bL],by simp[bL],NZ (B6 B) (pp B),λt E u=>?_⟩
 .have:=B.world.mtx x D;unfold jD at this;rw[Ty]at this;exact this.1
 .exfalso;unfold bL a7 aR at u;dsimp only at u;rw[Int.toNat_natCast]at u;have j:t<c.w.threads.length:=by have:=B.len;omega
  rcases t with _|t
  .simp[List.getD,j]at u
  .simp[List.getD,TF,j]at u
def Lm{c:aY}{s j:cy}{t wake:Int}{u:cu}(h:iG c s t wake=some (j,u)):j.cells.length=s.cells.length/\j.futures.length=s.futures.length:=by
 rw[po]at h;cases hp:co c s t with
 |none=>rw[hp]at h;cases h
 |some e=>
  rw[hp]at h;dsimp only at h;split at h
  .split at h
   .unfold mf at h;split at h
    .split at h
     .cases h;exact⟨mg.2.2.1,mg.2.2.2⟩
     .cases h
    .cases h;exact⟨mg.2.2.1,mg.2.2.2⟩
   .cases h
  .cases h
def I2{c:aY}{s u:cy}{t wake:Int}{e B:cu}(hp:co c s t=some e)(h:iG c s t wake=some (u,B))(k:e.kind=16):∃j,u.threads=s.threads.set t.toNat j/\j.pc=(ay s t).pc:=by
 rw[po,hp]at h;dsimp only at h;split at h
 .split at h
  .unfold mf at h;rw[if_neg UW]at h;cases h;refine⟨_,rfl,?_⟩;unfold bY;rw[if_neg UW,if_neg UW,if_neg UW,if_neg UW,if_neg UW,if_neg UW,if_pos UW]
  .cases h
 .cases h
def Ln{c:aY}{s D:cy}{t wake:Int}{e':cu}{n:Nat}(hc:gS c)(H:oV c s)(R:u9 c s)(h:iG c s t wake=some (D,e'))(I:kB c n D):u9 c D:=by
 have H':=Fi hc H h;obtain⟨l1,l2⟩:=Lm h;obtain⟨e,N,hp,Y,G,B,hz⟩:=B5 h;have O:inB t c.ts.length=true:=by
  unfold co at hp;split at hp
  .rename_i hr;exact(d9 hr).1
  .cases hp
 obtain⟨t0,t1⟩:=av.1 O;have u:∀(x:aD) (j:Nat),D.threads=s.threads.set t.toNat x->ay D j=if(j:Int)=t then x else ay s j:=λx j B=>by
  unfold ay;rw[B,T3];by_cases e:(j:Int)=t
  .have:t.toNat=j:=by omega
   have S:j<s.threads.length:=by rw[H.th];omega
   rw[if_pos e,this];simp[List.getD,S]
  .have:t.toNat≠j:=by omega
   rw[if_neg e];simp[List.getD,TF,this]
 refine⟨by rw[G];exact MY _ _ _ _ R.fit,by rw[l1];exact R.nc,by rw[l2];exact R.nf,NZ H' I,λj S hs=>?_⟩;rw[G]at hs;rcases Pt Y j hs with⟨e1,E⟩|⟨e1,Z⟩
 .obtain⟨M,q1,q2⟩:=I2 hp h E;rw[u M j q1,if_pos e1,e1,q2];rcases B7 hp with⟨g,_⟩|⟨g,_⟩|g
  .omega
  .omega
  .rw[<-g];exact E
 .rw[u N j B,if_neg e1];exact R.wt j S Z
def Pw{c:aY}{p:List cu×cy}{ch:cK}(B:gS c)(E:∀t∈c.ts,t.ins.length<2^40)(h:oV c p.2)(R:u9 c p.2)(I:kB c p.1.length p.2)(D:p.1.length<=400):u9 c (BT c p ch).2:=by
 have j:=(C5 (ch:=ch) (ii B E) I D).1;unfold BT at j ⊢;split
 .exact R
 .rename_i G;rw[if_neg G]at j;split
  .exact R
  .rename_i n e u;rw[u]at j;exact Ln B h R u j
def MZ{c:aY}(j:gS c)(B:∀t∈c.ts,t.ins.length<2^40)(l:List cK){p:List cu×cy}(h:oV c p.2)(R:u9 c p.2)(I:kB c p.1.length p.2)(u:p.1.length<=400):u9 c (cX c l p).2:=by
 induction l generalizing p with
 |nil=>exact R
 |cons ch l D=>obtain⟨a,b⟩:=C5 (ch:=ch) (ii j B) I u;exact D (Li j h) (Pw j B h R I u) a b
section
section
variable (c:aY) (s:cy) (t wake:Int) (h1:inB t s.threads.length=true) (hc:inB t c.ts.length=true) (sy:SyncD) (sv:Int) (e:cu) (i:aT) (be b8 b6 bs bt bc bf:Nat) (o tt:Option Nat)
 (hnd:(qG s t e be b8 b6 bs bt bc bf o tt).names.Nodup) (Q:R)
 (ho:o=none->(ay s t).regs=[]) (htt:tt=none->(ay s t).taint=[]) (htl:(ay s t).taint.length=(ay s t).regs.length)
 (hra:e.kind=3\/e.kind=23\/e.kind=5->0<=i.a/\i.a<(ay s t).regs.length) (th:aD) (a:MJ) (ha:a=bY i e s (ay s t) sv)
 (hse:aq Tryz.prog 45 [.agg (ao c t).enc,.agg a.thread.enc] (l8 (aU (ao c t) a.thread)))
 (hth:((e.kind=16\/e.kind=2)/\th=a.thread)\/((e.kind≠16/\e.kind≠2)/\aU (ao c t) a.thread=(th,true)))
 (hq:∀v L,Fz L v (ry (some (⟨sy,a.cells,a.futures,s.threads.set t.toNat th⟩,{e with value:=a.value})))->Q v L)
include h1 hc hnd ho htt htl hra ha hse hth hq
theorem S3(B:Nat)(hb:B∉(qG s t e be b8 b6 bs bt bc bf o tt).names):gW Q (Ff c t wake i be b8 b6 bs B a.thread.pc) (Fg s t sy e be b8 b6 bs bt bc bf o tt B a.value a.cells a.futures):=by
 have hev:a.thread.ev=IntKind.i64.wrap ((ay s t).ev+1):=by rw[ha];exact mg.1
 have D:List.Nodup [B,be,b8,b6,bs,bt]:=by simp only[SH.names,qG,Tj,T2,To,not_or]at hnd hb;obtain⟨⟨n1,n2,n3,n4,n5⟩,⟨n6,n7,n8,n9⟩,⟨n10,n11,n12⟩,⟨n13,n14⟩,Z,Y⟩:=hnd;obtain⟨m1,m2,m3,m4,m5,m6⟩:=hb;clear n5 n9 n12 n14 Z Y m6;simp;omega
 have u:=λ(g1 g2:AV) (K A:SH) hA hg hg2 g1o g2o hn=>S2 c s.threads t wake h1 hc sy {e with value:=a.value} a.thread (ay s t).ev (ay s t).pc a.cells a.futures g1 g2 K A hA B be b8 b6 bs bt bc bf hg hg2 hev g1o g2o hn th Q hq hse hth;obtain⟨J,hJ⟩:∃J,J=kC Q:=⟨_,rfl⟩;refine vw ?_;unfold kC at hJ u;rw[<-hJ]at u ⊢;clear hq hth hse hJ;by_cases S:e.kind=3\/e.kind=23
 .obtain⟨r0,r1⟩:=hra UW;have r2:i.a.toNat<(ay s t).regs.length:=by omega
  have r3:i.a.toNat<(ay s t).taint.length:=by omega
  have y1:=ji r0 r1;have y2:=me (s:=ay s t) r0 UW;obtain⟨o,rfl⟩:∃b,o=some b:=by
   cases o with
   |some b=>exact⟨b,rfl⟩
   |none=>exfalso;rw[ho rfl]at r2;simp at r2
  obtain⟨tt,rfl⟩:∃b,tt=some b:=by
   cases tt with
   |some b=>exact⟨b,rfl⟩
   |none=>exfalso;rw[htt rfl]at r3;simp at r3
  have G:a.thread.regs=(ay s t).regs.set i.a.toNat a.value/\a.thread.taint=(ay s t).taint.set i.a.toNat [(ay s t).ev]:=by
   rw[ha];unfold bY;rcases S with k|k
   .rw[if_pos k];exact⟨rfl,rfl⟩
   .rw[if_neg UW,if_pos k];exact⟨rfl,rfl⟩
  have j:=λ(nb:Nat) (hnb:nb∉[B,be,b8,b6,bs,bt])=>u (.sl o 0 (ay s t).regs.length) (.sl tt 0 (ay s t).taint.length) [(o,⟨1,((ay s t).regs.map ah).set i.a.toNat [.U1 a.value]⟩),(tt,⟨1,((ay s t).taint.map bC).set i.a.toNat [.sl nb 0 1]⟩)] [(nb,⟨1,[[.U1 (ay s t).ev]]⟩)] (.inr ⟨_,rfl⟩)
   (λL O=>Fz.sls (size:=1) (l:=a.thread.regs) (f:=ah) (O _ (.tail _ (.head _))) (by rw[G.1,Ue];rfl) U0 (by rw[G.1];simp))
   (λL O=>by
    rw[G.2];exact C4 (n:=1) (f:=bC) U0 rfl r3 (O _ (.tail _ (.tail _ (.head _)))) (.cons (Fz.sls (size:=1) (l:=[(ay s t).ev]) (f:=ah) (O _ (.head _)) rfl U0 rfl) .nil)) rfl rfl (T2.2 ⟨hnb,D⟩)
  have M:=hnd;simp only[SH.names,qG,mn,ab,List.map_cons,List.map_nil,List.nodup_cons,List.mem_cons,not_or,List.not_mem_nil,or_false,List.cons_append,List.nil_append,not_false_eq_true,and_true]at M hb;obtain⟨⟨n1,n2,n3,n4,n5,n6,n7,n8⟩,⟨n9,n10,n11,n12,n13,n14,Z⟩,⟨Y,n17,n18,n19,n20,n21⟩,⟨n22,n23,n24,n25,n26⟩,⟨n27,n28,n29,n30⟩,⟨n31,n32,n33⟩,⟨n34,n35⟩,n36,_⟩:=M;obtain⟨q1,q2,q3,q4,q5,q6,q7,q8,q9⟩:=hb;clear u G ho htt hra htl hnd D;unfold Ff Fg qH at *;obtain⟨e1,ek,eo,ev,es,d,f⟩:=e;obtain⟨op,ia,ib,ic,im,E⟩:=i;dsimp only at *;rw[show aT.enc ⟨op,ia,ib,ic,im,E⟩=[.U1 op,.U1 ia,.U1 ib,.U1 ic,.U1 im,.U1 E]from rfl];rw[show∀k v,cu.enc ⟨e1,k,eo,v,es,d,f⟩=[.U1 e1,.U1 k,.U1 eo,.U1 v,.U1 es,.lst (d.map ah),.lst (f.map ah)]from λ_ _=>rfl]at *;unfold pW mn aK ab at *;dsimp only[List.cons_append,List.nil_append]at *;rcases S with rfl|rfl
  all_goals
   repeat' (first|refine aV r0 r2 rp rfl ?_|refine aV r0 r3 rp rfl ?_|refine st ?_|refine sb λnb_ N=>?_|refine s2 (λh=>?_) λh=>?_|fail)
   refine j _ ?_;simp only[To,T6,or_false,not_or];simp only[SH.names,Tj,TV,To,not_or]at N;refine⟨?_,?_,?_,?_,?_,?_⟩<;>omega
 .have G:a.thread.regs=(ay s t).regs/\a.thread.taint=(ay s t).taint:=by
   rw[ha];unfold bY;rw[if_neg (λh=>S (.inl h)),if_neg (λh=>S (.inr h))]
   repeat' split
   all_goals exact⟨rfl,rfl⟩
  have j:=u (aK o (ay s t).regs.length) (aK tt (ay s t).taint.length) (mn (ay s t) o tt) [] (.inl rfl) (λL O=>by rw[G.1];exact fF rfl ho λb e=>by subst e;exact O _ (by simp[mn,ab])) (λL O=>by rw[G.2];exact fF rfl htt λb e=>by subst e;exact O _ (by simp[mn,ab])) (gQ _ _) (gQ _ _) D;have e3:decide (e.kind=3)=false:=decide_eq_false (λh=>S (.inl h));have e23:decide (e.kind=23)=false:=decide_eq_false (λh=>S (.inr h));clear u G;unfold Ff Fg qH at *;obtain⟨e1,ek,eo,ev,es,d,f⟩:=e;dsimp only at *;rw[show∀k v,cu.enc ⟨e1,k,eo,v,es,d,f⟩=[.U1 e1,.U1 k,.U1 eo,.U1 v,.U1 es,.lst (d.map ah),.lst (f.map ah)]from λ_ _=>rfl]at *
  repeat' (first|refine st ?_|refine sb λnb_ N=>?_|refine s2 (λh=>?_) λh=>?_|fail)
  exact j
end
end
end Go.Proofs.YtbofdbhnbodbiaaGreatDoor.Am
