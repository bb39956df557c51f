/- part -/
import Derived.Test.YtfckbjehkbhkgaaGreatQwy
set_option linter.all false
set_option maxRecDepth 100000
set_option maxHeartbeats 0
namespace Go.Proofs.YtfckbjehkbhkgaaGreat.Am
section
section
variable (c:bP) (s:eE) (t wake:Int) (h1:inB t s.threads.length=true) (hc:inB t c.ts.length=true) (sy_:SyncD) (sv:Int) (e:bA) (i:cb) (hx4:((aE c t).ins.map cb.enc)[(aI s t).pc.toNat]? =some i.enc) (hpc:inB (aI s t).pc (aE c t).ins.length=true) (be b8 b6 bs bt bc bf:Nat) (o tt:Option Nat)
def ud:SH:=(be,⟨7,[e.enc]⟩)::(b8,⟨7,[i8]⟩)::(b6,⟨7,[ca]⟩)::(bs,⟨7,[s.enc]⟩)::(bt,⟨4,(s.threads.map bI.enc).set t.toNat (sO (aI s t) o tt)⟩)::(oU (aI s t) o tt++[(bf,⟨1,s.futures.map aa⟩),(bc,⟨1,s.cells.map aa⟩)])
def Le(b74:Nat)(nx:Int):List AV:=[.pptr [c.enc] 0 0,.ptr bs 0 0,.pptr [[.acU t,.acU wake]] 0 0,.ptr b6 0 0,.ptr b8 0 0,.ptr be 0 0,.ptr b74 0 0,.pptr [i.enc] 0 0,.acU nx]
def Lf(b74:Nat)(val:Int)(ce fu:List Int):SH:=(b74,⟨4,[sO (aI s t) o tt]⟩)::(be,⟨7,[{e with value:=val}.enc]⟩)::(b8,⟨7,[i8]⟩)::(b6,⟨7,[ca]⟩)::(bs,⟨7,[[.lst (sy_.locks.map LockD.enc),.acU sy_.tx,.lst (sy_.done.map au),.lst (sy_.threads.map ThrD.enc),.sl bc 0 ce.length,.sl bf 0 fu.length,.sl bt 0 s.threads.length]]⟩)::(bt,⟨4,(s.threads.map bI.enc).set t.toNat (sO (aI s t) o tt)⟩)::(oU (aI s t) o tt++[(bf,⟨1,fu.map aa⟩),(bc,⟨1,ce.map aa⟩)])
variable (hnd:(ud s t e be b8 b6 bs bt bc bf o tt).names.Nodup) (Q:R) (hv:e.value=0) (hsv:e.kind≠18->e.kind≠19->sv=0)
 (ho:o=none->(aI s t).regs=[]) (htt:tt=none->(aI s t).taint=[]) (htl:(aI s t).taint.length=(aI s t).regs.length)
 (hra:e.kind=3\/e.kind=23\/e.kind=5->0<=i.a/\i.a<(aI s t).regs.length) (hrb:e.kind=4\/e.kind=22->0<=i.b/\i.b<(aI s t).regs.length) (hoc:e.kind=3\/e.kind=4->inB e.obj s.cells.length=true) (hof:e.kind=22\/e.kind=23->inB e.obj s.futures.length=true)
 (hJ0:∀b74,b74∉(ud s t e be b8 b6 bs bt bc bf o tt).names->jl Q (Le c t wake i be b8 b6 bs b74 (fe i e s (aI s t) sv).thread.pc) (Lf s t sy_ e be b8 b6 bs bt bc bf o tt b74 (fe i e s (aI s t) sv).value (fe i e s (aI s t) sv).cells (fe i e s (aI s t) sv).futures))
include h1 hc hx4 hpc hnd hv hsv ho htt htl hra hrb hoc hof hJ0
theorem Z2:tI Q (.ptr bs 0 0) (.pptr [sy_.enc] 0 0) (.pptr [[.acU t,.acU wake]] 0 0) (.pptr [c.enc] 0 0) (.ptr be 0 0) (.acU sv) (.ptr b6 0 0) (.ptr b8 0 0) (.agg (jS s bc bf (.sl bt 0 s.threads.length))) (ud s t e be b8 b6 bs bt bc bf o tt):=by
 have hnd2:=hnd;simp only[SH.names,ud,aai,abG,aaj,not_or]at hnd2;obtain⟨⟨n1,n2,n3,n4,n5⟩,⟨n6,n7,n8,n9⟩,⟨n10,n11,n12⟩,⟨n13,n14⟩,n15,n16⟩:=hnd2;obtain⟨Y,t1⟩:=ao.1 h1;obtain⟨u0,u1⟩:=ao.1 hc;obtain⟨p0,p1⟩:=ao.1 hpc;have hlt:t.toNat<(s.threads.map bI.enc).length:=by simp;omega
 have B:t.toNat<s.threads.length:=by omega
 have x1:(c.ts.map i6.enc)[t.toNat]? =some (aE c t).enc:=CN hc;have x2:=Ke (sO (aI s t) o tt) hlt;have N:=Gw s bc bf (some bt) s.threads.length;refine vw ?_;obtain⟨J,hJ⟩:∃J,J=jl Q:=⟨_,rfl⟩;rw[<-hJ]at hJ0;have G:∀vs L,J vs L->jl Q vs L:=λvs L h=>by rw[<-hJ];exact h
 clear hJ hnd h1 hc hpc;have j:=λ(r:Int) (h0:0<=r) (h1:r<(aI s t).regs.length)=>Mn (s:=aI s t) h0 h1;obtain⟨e1,E,eo,ev,es,d,f⟩:=e;obtain⟨op,ia,ib,ic,im,site⟩:=i;dsimp only at *;subst hv;unfold fe Le Lf ud at *;unfold bI.reg at *;generalize hth:aI s t=th at *;obtain⟨pc,rg,tn,ev0⟩:=th;unfold jS sO ca i8 oU at *;dsimp only[af]at *;rw[show c.enc=[.lst (c.w.cells.map aU.enc),.lst (c.w.locks.map bZ.enc),.lst (c.w.conds.map cM.enc),.lst (c.w.futures.map ay),.lst (c.w.threads.map ay),.lst (c.w.sites.map cF.enc),.lst (c.ts.map i6.enc)]from rfl,show s.enc=[.lst (s.sync.locks.map LockD.enc),.acU s.sync.tx,.lst (s.sync.done.map au),.lst (s.sync.threads.map ThrD.enc),.lst (s.cells.map aa),.lst (s.futures.map aa),.lst (s.threads.map bI.enc)]from rfl,show cb.enc ⟨op,ia,ib,ic,im,site⟩=[.acU op,.acU ia,.acU ib,.acU ic,.acU im,.acU site]from rfl]at *;rw[show sy_.enc=[.lst (sy_.locks.map LockD.enc),.acU sy_.tx,.lst (sy_.done.map au),.lst (sy_.threads.map ThrD.enc)]from rfl];have hee:∀k v,bA.enc ⟨e1,k,eo,v,es,d,f⟩=[.acU e1,.acU k,.acU eo,.acU v,.acU es,.lst (d.map aa),.lst (f.map aa)]:=λ_ _=>rfl
 rw[hee]at *;by_cases kA:E=1\/E=16\/E=2
 .have hs0:=hsv acN acN;subst hs0;clear hra hrb hoc hof j hsv;rcases kA with rfl|rfl|rfl
  all_goals
   simp only[Int.reduceEq,if_true,if_false,reduceIte,or_false,or_true,false_or,true_or,or_self]at hJ0;rcases o with _|o<;>rcases tt with _|tt
   all_goals
    dsimp only[cU,ab,List.nil_append,List.cons_append]at *
    repeat' (first|with_reducible refine G _ _ ?_|refine aw Y B rp rfl ?_|refine sx ?_|refine aO rp acP acP acP acP acQ ?_|refine sb λM D=>?_|refine s2 (λh=>?_) λh=>?_|fail)
    rename_i b9 u;exact hJ0 _ (by simpa[SH.names]using u)
 by_cases kG:E≠3/\E≠23/\E≠4/\E≠22/\E≠5
 .obtain⟨g3,O,g4,S,g5⟩:=kG;have e1':decide (E=1)=false:=decide_eq_false acN;have e16:decide (E=16)=false:=decide_eq_false acN;have e2':decide (E=2)=false:=decide_eq_false acN;have e3':decide (E=3)=false:=decide_eq_false g3;have e23:decide (E=23)=false:=decide_eq_false O;have e4':decide (E=4)=false:=decide_eq_false g4;have e22:decide (E=22)=false:=decide_eq_false S;have e5':decide (E=5)=false:=decide_eq_false g5;by_cases h89:E=18\/E=19
  .rw[if_neg g3,if_neg O,if_neg g4,if_neg S,if_neg g5,if_pos h89]at hJ0;clear hra hrb hoc hof j hsv kA g3 O g4 S g5 h89;rcases o with _|o<;>rcases tt with _|tt
   all_goals
    dsimp only[cU,ab,List.nil_append,List.cons_append]at *
    repeat' (first|with_reducible refine G _ _ ?_|refine aw Y B rp rfl ?_|refine sx ?_|refine aO rp acP acP acP acP acQ ?_|refine sb λM D=>?_|refine s2 (λh=>?_) λh=>?_|fail)
    rename_i b9 u;exact hJ0 _ (by simpa[SH.names]using u)
  .have hs0:=hsv acN acN;subst hs0;rw[if_neg g3,if_neg O,if_neg g4,if_neg S,if_neg g5,if_neg h89,if_neg kA]at hJ0;clear hra hrb hoc hof j hsv kA g3 O g4 S g5 h89;rcases o with _|o<;>rcases tt with _|tt
   all_goals
    dsimp only[cU,ab,List.nil_append,List.cons_append]at *
    repeat' (first|with_reducible refine G _ _ ?_|refine aw Y B rp rfl ?_|refine sx ?_|refine aO rp acP acP acP acP acQ ?_|refine sb λM D=>?_|refine s2 (λh=>?_) λh=>?_|fail)
    rename_i b9 u;exact hJ0 _ (by simpa[SH.names]using u)
 obtain⟨o,rfl⟩:∃b,o=some b:=by
  cases o with
  |some b=>exact⟨b,rfl⟩
  |none=>exfalso;have hrg:=ho rfl;subst hrg;simp at hra hrb;omega
 obtain⟨tt,rfl⟩:∃b,tt=some b:=by
  cases tt with
  |some b=>exact⟨b,rfl⟩
  |none=>exfalso;have hrg:=htt rfl;subst hrg;simp at htl;have:rg=[]:=abU.1 htl.symm;subst this;simp at hra hrb;omega
 have kF:E=3\/E=23\/E=4\/E=22\/E=5:=by omega
 clear kA kG hsv ho htt;dsimp only[cU,ab,List.nil_append,List.cons_append]at *;simp only[List.map_cons,List.map_nil,List.mem_cons,List.not_mem_nil,or_false,not_or,List.nodup_cons]at n5 n9 n12 n14 n15 n16;obtain⟨m1,m2,m3,m4⟩:=n5;obtain⟨m5,m6,m7,m8⟩:=n9;obtain⟨m9,m10,m11,m12⟩:=n12;obtain⟨m13,m14,m15,m16⟩:=n14;obtain⟨m17,m18,m19,m20⟩:=n15;obtain⟨⟨m21,m22,m23⟩,⟨m24,m25⟩,m26,_⟩:=n16;rcases kF with rfl|rfl|rfl|rfl|rfl
 .have N:=hoc acN;have y:=cq (f:=aa) N;obtain⟨q0,q1⟩:=ao.1 N;have q2:eo.toNat<s.cells.length:=by omega
  simp only[Int.reduceEq,if_true,if_false,reduceIte,or_false,or_true,false_or,true_or,or_self,oL]at hJ0;clear hra hrb hoc hof j N
  repeat' (first|with_reducible refine G _ _ ?_|refine aw Y B rp rfl ?_|refine aw q0 q2 rp rfl ?_|refine sx ?_|refine aO rp acP acP acP acP acQ ?_|refine sb λM D=>?_|refine s2 (λh=>?_) λh=>?_|fail)
  rename_i b9 u;exact hJ0 _ (by simpa[SH.names]using u)
 .have N:=hof acN;have y:=cq (f:=aa) N;obtain⟨q0,q1⟩:=ao.1 N;have q2:eo.toNat<s.futures.length:=by omega
  simp only[Int.reduceEq,if_true,if_false,reduceIte,or_false,or_true,false_or,true_or,or_self,oL]at hJ0;clear hra hrb hoc hof j N
  repeat' (first|with_reducible refine G _ _ ?_|refine aw Y B rp rfl ?_|refine aw q0 q2 rp rfl ?_|refine sx ?_|refine aO rp acP acP acP acP acQ ?_|refine sb λM D=>?_|refine s2 (λh=>?_) λh=>?_|fail)
  rename_i b9 u;exact hJ0 _ (by simpa[SH.names]using u)
 .have N:=hoc acN;obtain⟨q0,q1⟩:=ao.1 N;have q2:eo.toNat<s.cells.length:=by omega
  have yc:=cq (f:=aa) N;obtain⟨Z,r1⟩:=hrb acN;have y:=j ib Z r1;have r2:ib.toNat<rg.length:=by omega
  simp only[Int.reduceEq,if_true,if_false,reduceIte,or_false,or_true,false_or,true_or,or_self,abT,List.length_set]at hJ0;clear hra hrb hoc hof j N
  repeat' (first|with_reducible refine G _ _ ?_|refine aw Y B rp rfl ?_|refine aw q0 q2 rp rfl ?_|refine aw Z r2 rp rfl ?_|refine sx ?_|refine aO rp acP acP acP acP acQ ?_|refine sb λM D=>?_|refine s2 (λh=>?_) λh=>?_|fail)
  rename_i b9 u;exact hJ0 _ (by simpa[SH.names]using u)
 .have N:=hof acN;obtain⟨q0,q1⟩:=ao.1 N;have q2:eo.toNat<s.futures.length:=by omega
  have yc:=cq (f:=aa) N;obtain⟨Z,r1⟩:=hrb acN;have y:=j ib Z r1;have r2:ib.toNat<rg.length:=by omega
  simp only[Int.reduceEq,if_true,if_false,reduceIte,or_false,or_true,false_or,true_or,or_self,abT,List.length_set]at hJ0;clear hra hrb hoc hof j N
  repeat' (first|with_reducible refine G _ _ ?_|refine aw Y B rp rfl ?_|refine aw q0 q2 rp rfl ?_|refine aw Z r2 rp rfl ?_|refine sx ?_|refine aO rp acP acP acP acP acQ ?_|refine sb λM D=>?_|refine s2 (λh=>?_) λh=>?_|fail)
  rename_i b9 u;exact hJ0 _ (by simpa[SH.names]using u)
 .obtain⟨Z,r1⟩:=hra acN;have y:=j ia Z r1;have r2:ia.toNat<rg.length:=by omega
  simp only[Int.reduceEq,if_true,if_false,reduceIte,or_false,or_true,false_or,true_or,or_self]at hJ0;unfold bI.reg at y;clear hra hrb hoc hof j;generalize hz:rg.getD ia.toNat 0=z at *;by_cases hz0:z=0
  .have dz:decide (z=0)=true:=decide_eq_true hz0;rw[if_neg acN]at hJ0
   repeat' (first|with_reducible refine G _ _ ?_|refine aw Y B rp rfl ?_|refine aw Z r2 rp rfl ?_|refine sx ?_|refine aO rp acP acP acP acP acQ ?_|refine sb λM D=>?_|refine s2 (λh=>?_) λh=>?_|fail)
   rename_i b9 u;exact hJ0 _ (by simpa[SH.names]using u)
  .have dz:decide (z=0)=false:=decide_eq_false hz0;rw[if_pos hz0]at hJ0
   repeat' (first|with_reducible refine G _ _ ?_|refine aw Y B rp rfl ?_|refine aw Z r2 rp rfl ?_|refine sx ?_|refine aO rp acP acP acP acP acQ ?_|refine sb λM D=>?_|refine s2 (λh=>?_) λh=>?_|fail)
   rename_i b9 u;exact hJ0 _ (by simpa[SH.names]using u)
end
end
