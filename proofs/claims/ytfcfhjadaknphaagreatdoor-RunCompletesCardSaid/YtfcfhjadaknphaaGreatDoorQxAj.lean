/- part -/
import Derived.Test.YtfcfhjadaknphaaGreatDoorQxAg
import Derived.Test.YtfcfhjadaknphaaGreatDoorQxAi
set_option linter.all false
set_option maxRecDepth 100000
set_option maxHeartbeats 0
namespace Go.Proofs.YtfcfhjadaknphaaGreatDoor.Am
section
section
variable (c:aL) (s:bU) (t wake:Int) (h1:inB t s.threads.length=true) (hc:inB t c.ts.length=true) (sy_:SyncD) (sv:Int) (e:bH) (i:az) (hx4:((au c t).ins.map az.enc)[(aB s t).pc.toNat]? =some i.enc) (hpc:inB (aB s t).pc (au c t).ins.length=true) (be b8 b6 bs bt bc bf:Nat) (o tt:Option Nat)
def sQ:SH:=(be,⟨7,[e.enc]⟩)::(b8,⟨7,[cy]⟩)::(b6,⟨7,[ay]⟩)::(bs,⟨7,[s.enc]⟩)::(bt,⟨4,(s.threads.map aG.enc).set t.toNat (rN (aB s t) o tt)⟩)::(om (aB s t) o tt++[(bf,⟨1,s.futures.map ah⟩),(bc,⟨1,s.cells.map ah⟩)])
def HO(b74:Nat)(nx:Int):List AV:=[.pptr [c.enc] 0 0,.ptr bs 0 0,.pptr [[.YJ t,.YJ wake]] 0 0,.ptr b6 0 0,.ptr b8 0 0,.ptr be 0 0,.ptr b74 0 0,.pptr [i.enc] 0 0,.YJ nx]
def HP(b74:Nat)(val:Int)(ce fu:List Int):SH:=(b74,⟨4,[rN (aB s t) o tt]⟩)::(be,⟨7,[{e with value:=val}.enc]⟩)::(b8,⟨7,[cy]⟩)::(b6,⟨7,[ay]⟩)::(bs,⟨7,[[.lst (sy_.locks.map LockD.enc),.YJ sy_.tx,.lst (sy_.done.map aD),.lst (sy_.threads.map ThrD.enc),.sl bc 0 ce.length,.sl bf 0 fu.length,.sl bt 0 s.threads.length]]⟩)::(bt,⟨4,(s.threads.map aG.enc).set t.toNat (rN (aB s t) o tt)⟩)::(om (aB s t) o tt++[(bf,⟨1,fu.map ah⟩),(bc,⟨1,ce.map ah⟩)])
variable (hnd:(sQ s t e be b8 b6 bs bt bc bf o tt).names.Nodup) (Q:R) (hv:e.value=0) (hsv:e.kind≠18->e.kind≠19->sv=0)
 (ho:o=none->(aB s t).regs=[]) (htt:tt=none->(aB s t).taint=[]) (htl:(aB s t).taint.length=(aB s t).regs.length)
 (hra:e.kind=3\/e.kind=23\/e.kind=5->0<=i.a/\i.a<(aB s t).regs.length) (hrb:e.kind=4\/e.kind=22->0<=i.b/\i.b<(aB s t).regs.length) (hoc:e.kind=3\/e.kind=4->inB e.obj s.cells.length=true) (hof:e.kind=22\/e.kind=23->inB e.obj s.futures.length=true)
 (hJ0:∀b74,b74∉(sQ s t e be b8 b6 bs bt bc bf o tt).names->i7 Q (HO c t wake i be b8 b6 bs b74 (cG i e s (aB s t) sv).thread.pc) (HP s t sy_ e be b8 b6 bs bt bc bf o tt b74 (cG i e s (aB s t) sv).value (cG i e s (aB s t) sv).cells (cG i e s (aB s t) sv).futures))
include h1 hc hx4 hpc hnd hv hsv ho htt htl hra hrb hoc hof hJ0
theorem VB:sF Q (.ptr bs 0 0) (.pptr [sy_.enc] 0 0) (.pptr [[.YJ t,.YJ wake]] 0 0) (.pptr [c.enc] 0 0) (.ptr be 0 0) (.YJ sv) (.ptr b6 0 0) (.ptr b8 0 0) (.agg (jP s bc bf (.sl bt 0 s.threads.length))) (sQ s t e be b8 b6 bs bt bc bf o tt):=by
 have hnd2:=hnd;simp only[SH.names,sQ,WS,Xw,WX,not_or]at hnd2;obtain⟨⟨n1,n2,n3,n4,n5⟩,⟨n6,n7,n8,n9⟩,⟨n10,n11,n12⟩,⟨n13,n14⟩,n15,n16⟩:=hnd2;obtain⟨Z,t1⟩:=aw.1 h1;obtain⟨u0,u1⟩:=aw.1 hc;obtain⟨p0,p1⟩:=aw.1 hpc;have hlt:t.toNat<(s.threads.map aG.enc).length:=by simp;omega
 have B:t.toNat<s.threads.length:=by omega
 have x1:(c.ts.map eG.enc)[t.toNat]? =some (au c t).enc:=iC hc;have x2:=eE (rN (aB s t) o tt) hlt;have O:=D8 s bc bf (some bt) s.threads.length;refine vw ?_;obtain⟨J,hJ⟩:∃J,J=i7 Q:=⟨_,rfl⟩;rw[<-hJ]at hJ0;have G:∀vs L,J vs L->i7 Q vs L:=λvs L h=>by rw[<-hJ];exact h
 clear hJ hnd h1 hc hpc;have j:=λ(r:Int) (h0:0<=r) (h1:r<(aB s t).regs.length)=>ky (s:=aB s t) h0 h1;obtain⟨e1,E,eo,ev,es,d,f⟩:=e;obtain⟨op,ia,ib,ic,im,site⟩:=i;dsimp only at *;subst hv;unfold cG HO HP sQ at *;unfold aG.reg at *;generalize hth:aB s t=th at *;obtain⟨pc,rg,tn,ev0⟩:=th;unfold jP rN ay cy om at *;dsimp only[ai]at *;rw[show c.enc=[.lst (c.w.cells.map aH.enc),.lst (c.w.locks.map bv.enc),.lst (c.w.conds.map bO.enc),.lst (c.w.futures.map av),.lst (c.w.threads.map av),.lst (c.w.sites.map bM.enc),.lst (c.ts.map eG.enc)]from rfl,show s.enc=[.lst (s.sync.locks.map LockD.enc),.YJ s.sync.tx,.lst (s.sync.done.map aD),.lst (s.sync.threads.map ThrD.enc),.lst (s.cells.map ah),.lst (s.futures.map ah),.lst (s.threads.map aG.enc)]from rfl,show az.enc ⟨op,ia,ib,ic,im,site⟩=[.YJ op,.YJ ia,.YJ ib,.YJ ic,.YJ im,.YJ site]from rfl]at *;rw[show sy_.enc=[.lst (sy_.locks.map LockD.enc),.YJ sy_.tx,.lst (sy_.done.map aD),.lst (sy_.threads.map ThrD.enc)]from rfl];have hee:∀k v,bH.enc ⟨e1,k,eo,v,es,d,f⟩=[.YJ e1,.YJ k,.YJ eo,.YJ v,.YJ es,.lst (d.map ah),.lst (f.map ah)]:=λ_ _=>rfl
 rw[hee]at *;by_cases kA:E=1\/E=16\/E=2
 .have hs0:=hsv YC YC;subst hs0;clear hra hrb hoc hof j hsv;rcases kA with rfl|rfl|rfl
  all_goals
   simp only[Int.reduceEq,if_true,if_false,reduceIte,or_false,or_true,false_or,true_or,or_self]at hJ0;rcases o with _|o<;>rcases tt with _|tt
   all_goals
    dsimp only[aQ,ab,List.nil_append,List.cons_append]at *
    repeat' (first|with_reducible refine G _ _ ?_|refine bz Z B rp rfl ?_|refine sx ?_|refine cO rp YE YE YE YE YF ?_|refine sb λM D=>?_|refine s2 (λh=>?_) λh=>?_|fail)
    rename_i b9 u;exact hJ0 _ (by simpa[SH.names]using u)
 by_cases kG:E≠3/\E≠23/\E≠4/\E≠22/\E≠5
 .obtain⟨g3,S,g4,Y,g5⟩:=kG;have e1':decide (E=1)=false:=decide_eq_false YC;have e16:decide (E=16)=false:=decide_eq_false YC;have e2':decide (E=2)=false:=decide_eq_false YC;have e3':decide (E=3)=false:=decide_eq_false g3;have e23:decide (E=23)=false:=decide_eq_false S;have e4':decide (E=4)=false:=decide_eq_false g4;have e22:decide (E=22)=false:=decide_eq_false Y;have e5':decide (E=5)=false:=decide_eq_false g5;by_cases h89:E=18\/E=19
  .rw[if_neg g3,if_neg S,if_neg g4,if_neg Y,if_neg g5,if_pos h89]at hJ0;clear hra hrb hoc hof j hsv kA g3 S g4 Y g5 h89;rcases o with _|o<;>rcases tt with _|tt
   all_goals
    dsimp only[aQ,ab,List.nil_append,List.cons_append]at *
    repeat' (first|with_reducible refine G _ _ ?_|refine bz Z B rp rfl ?_|refine sx ?_|refine cO rp YE YE YE YE YF ?_|refine sb λM D=>?_|refine s2 (λh=>?_) λh=>?_|fail)
    rename_i b9 u;exact hJ0 _ (by simpa[SH.names]using u)
  .have hs0:=hsv YC YC;subst hs0;rw[if_neg g3,if_neg S,if_neg g4,if_neg Y,if_neg g5,if_neg h89,if_neg kA]at hJ0;clear hra hrb hoc hof j hsv kA g3 S g4 Y g5 h89;rcases o with _|o<;>rcases tt with _|tt
   all_goals
    dsimp only[aQ,ab,List.nil_append,List.cons_append]at *
    repeat' (first|with_reducible refine G _ _ ?_|refine bz Z B rp rfl ?_|refine sx ?_|refine cO rp YE YE YE YE YF ?_|refine sb λM D=>?_|refine s2 (λh=>?_) λh=>?_|fail)
    rename_i b9 u;exact hJ0 _ (by simpa[SH.names]using u)
 obtain⟨o,rfl⟩:∃b,o=some b:=by
  cases o with
  |some b=>exact⟨b,rfl⟩
  |none=>exfalso;have hrg:=ho rfl;subst hrg;simp at hra hrb;omega
 obtain⟨tt,rfl⟩:∃b,tt=some b:=by
  cases tt with
  |some b=>exact⟨b,rfl⟩
  |none=>exfalso;have hrg:=htt rfl;subst hrg;simp at htl;have:rg=[]:=XA.1 htl.symm;subst this;simp at hra hrb;omega
 have kF:E=3\/E=23\/E=4\/E=22\/E=5:=by omega
 clear kA kG hsv ho htt;dsimp only[aQ,ab,List.nil_append,List.cons_append]at *;simp only[List.map_cons,List.map_nil,List.mem_cons,List.not_mem_nil,or_false,not_or,List.nodup_cons]at n5 n9 n12 n14 n15 n16;obtain⟨m1,m2,m3,m4⟩:=n5;obtain⟨m5,m6,m7,m8⟩:=n9;obtain⟨m9,m10,m11,m12⟩:=n12;obtain⟨m13,m14,m15,m16⟩:=n14;obtain⟨m17,m18,m19,m20⟩:=n15;obtain⟨⟨m21,m22,m23⟩,⟨m24,m25⟩,m26,_⟩:=n16;rcases kF with rfl|rfl|rfl|rfl|rfl
 .have O:=hoc YC;have y:=co (f:=ah) O;obtain⟨q0,q1⟩:=aw.1 O;have q2:eo.toNat<s.cells.length:=by omega
  simp only[Int.reduceEq,if_true,if_false,reduceIte,or_false,or_true,false_or,true_or,or_self,jW]at hJ0;clear hra hrb hoc hof j O
  repeat' (first|with_reducible refine G _ _ ?_|refine bz Z B rp rfl ?_|refine bz q0 q2 rp rfl ?_|refine sx ?_|refine cO rp YE YE YE YE YF ?_|refine sb λM D=>?_|refine s2 (λh=>?_) λh=>?_|fail)
  rename_i b9 u;exact hJ0 _ (by simpa[SH.names]using u)
 .have O:=hof YC;have y:=co (f:=ah) O;obtain⟨q0,q1⟩:=aw.1 O;have q2:eo.toNat<s.futures.length:=by omega
  simp only[Int.reduceEq,if_true,if_false,reduceIte,or_false,or_true,false_or,true_or,or_self,jW]at hJ0;clear hra hrb hoc hof j O
  repeat' (first|with_reducible refine G _ _ ?_|refine bz Z B rp rfl ?_|refine bz q0 q2 rp rfl ?_|refine sx ?_|refine cO rp YE YE YE YE YF ?_|refine sb λM D=>?_|refine s2 (λh=>?_) λh=>?_|fail)
  rename_i b9 u;exact hJ0 _ (by simpa[SH.names]using u)
 .have O:=hoc YC;obtain⟨q0,q1⟩:=aw.1 O;have q2:eo.toNat<s.cells.length:=by omega
  have yc:=co (f:=ah) O;obtain⟨r0,r1⟩:=hrb YC;have y:=j ib r0 r1;have r2:ib.toNat<rg.length:=by omega
  simp only[Int.reduceEq,if_true,if_false,reduceIte,or_false,or_true,false_or,true_or,or_self,XI,Yd]at hJ0;clear hra hrb hoc hof j O
  repeat' (first|with_reducible refine G _ _ ?_|refine bz Z B rp rfl ?_|refine bz q0 q2 rp rfl ?_|refine bz r0 r2 rp rfl ?_|refine sx ?_|refine cO rp YE YE YE YE YF ?_|refine sb λM D=>?_|refine s2 (λh=>?_) λh=>?_|fail)
  rename_i b9 u;exact hJ0 _ (by simpa[SH.names]using u)
 .have O:=hof YC;obtain⟨q0,q1⟩:=aw.1 O;have q2:eo.toNat<s.futures.length:=by omega
  have yc:=co (f:=ah) O;obtain⟨r0,r1⟩:=hrb YC;have y:=j ib r0 r1;have r2:ib.toNat<rg.length:=by omega
  simp only[Int.reduceEq,if_true,if_false,reduceIte,or_false,or_true,false_or,true_or,or_self,XI,Yd]at hJ0;clear hra hrb hoc hof j O
  repeat' (first|with_reducible refine G _ _ ?_|refine bz Z B rp rfl ?_|refine bz q0 q2 rp rfl ?_|refine bz r0 r2 rp rfl ?_|refine sx ?_|refine cO rp YE YE YE YE YF ?_|refine sb λM D=>?_|refine s2 (λh=>?_) λh=>?_|fail)
  rename_i b9 u;exact hJ0 _ (by simpa[SH.names]using u)
 .obtain⟨r0,r1⟩:=hra YC;have y:=j ia r0 r1;have r2:ia.toNat<rg.length:=by omega
  simp only[Int.reduceEq,if_true,if_false,reduceIte,or_false,or_true,false_or,true_or,or_self]at hJ0;unfold aG.reg at y;clear hra hrb hoc hof j;generalize hz:rg.getD ia.toNat 0=z at *;by_cases hz0:z=0
  .have dz:decide (z=0)=true:=decide_eq_true hz0;rw[if_neg YC]at hJ0
   repeat' (first|with_reducible refine G _ _ ?_|refine bz Z B rp rfl ?_|refine bz r0 r2 rp rfl ?_|refine sx ?_|refine cO rp YE YE YE YE YF ?_|refine sb λM D=>?_|refine s2 (λh=>?_) λh=>?_|fail)
   rename_i b9 u;exact hJ0 _ (by simpa[SH.names]using u)
  .have dz:decide (z=0)=false:=decide_eq_false hz0;rw[if_pos hz0]at hJ0
   repeat' (first|with_reducible refine G _ _ ?_|refine bz Z B rp rfl ?_|refine bz r0 r2 rp rfl ?_|refine sx ?_|refine cO rp YE YE YE YE YF ?_|refine sb λM D=>?_|refine s2 (λh=>?_) λh=>?_|fail)
   rename_i b9 u;exact hJ0 _ (by simpa[SH.names]using u)
end
end
