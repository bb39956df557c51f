/- part -/
import Derived.Test.YtfcfhjadaknphaaGreatDoorQxAd
set_option linter.all false
set_option maxRecDepth 100000
set_option maxHeartbeats 0
namespace Go.Proofs.YtfcfhjadaknphaaGreatDoor.Am
section
section
variable {w:aK} {t:Nat} {c:eG} {k:Nat} {i:az} (h0:0<=c.regs) (Q:R) (n36:W.Kn)
 (hno:¬(∀r∈aC i,0<=r/\r<c.regs)->Q (.bool false) [])
 (hgo:(∀r∈aC i,0<=r/\r<c.regs)->n36 [.YJ t,.pptr [w.enc] 0 0,.pptr [c.enc] 0 0,.YJ c.ins.length,.YJ (k+1:Nat)] [])
 (hl:c.ins.length<2^48) (hk:k<c.ins.length)
include h0 hno hgo hl hk
theorem Qe:W.loop (ju Q n36) [.YJ t,.pptr [w.enc] 0 0,.pptr [c.enc] 0 0,.YJ c.ins.length,.YJ k,.lst ((aC i).map ah),.YJ 0] []:=by
 obtain⟨M,u⟩:=Xg h0;have S:IntKind.i64.wrap ((k:Int)+1)=((k+1:Nat):Int):=ax hk YC;refine cS (aC i).length (λj=>∀r∈(aC i).take j,0<=r/\r<c.regs) (λj=>[.YJ t,.pptr [w.enc] 0 0,.pptr [c.enc] 0 0,.YJ c.ins.length,.YJ k,.lst ((aC i).map ah),.YJ (j:Int)]) (by have:=DW i;omega) YF rfl (λj B Z hi E O Y=>?_) (λj B Z E O=>?_)
 all_goals refine vw ?_
 .have hx:=aq (f:=ah) B;have G:=mP (aC i)[j] M;rw[<-u]at G;cases D:inB (aC i)[j] M with
  |false=>
   rw[D]at G;have:¬ ∀r∈aC i,0<=r/\r<c.regs:=λh=>by have:=h _ (WN B);rw[u,<-aw,D]at this;cases this
   repeat' (first|refine sy ?_|refine s2 ?_ ?_|intro)
   exact hno this
  |true=>
   rw[D]at G
   repeat' (first|refine sy ?_|refine s2 ?_ ?_|intro)
   refine Y (Az B E ?_);rw[u];exact aw.1 D
 .subst B;rw[XT]at E
  repeat' (first|refine sy ?_|refine s2 ?_ ?_|intro)
  exact hgo E
end
theorem y8(w:aK)(t:Nat)(c:eG)(hl:c.ins.length<2^48):ao Tryz.prog 74 [.agg w.enc,.YJ t,.agg c.enc] (.bool (iz (rt w t c))):=by
 refine qm _ _ _ _ _ ?_;refine vw ?_;generalize hQ:(λ(u:AV) (K:SH)=>u=AV.bool (iz (rt w t c))/\K=[])=Q;have hq:∀b,iz (rt w t c)=b->Q (.bool b) []:=λb hb=>by subst hQ;exact⟨by rw[hb],rfl⟩
 clear hQ;by_cases h0:0<=c.regs/\c.regs<=32/\0<c.ins.length
 .obtain⟨h0,h32,hn0⟩:=h0;have d1:decide (c.regs<0)=false:=by simpa using h0
  have d2:decide (c.regs > 32)=false:=by simpa using h32
  have d3:decide ((c.ins.length:Int)=0)=false:=decide_eq_false YC
  repeat' (first|refine sx ?_|refine sb λnb_ hnb_=>?_|refine s2 (λh=>?_) λh=>?_|fail)
  refine cS c.ins.length (λk=>∀j (h:j<c.ins.length),j<k->wO w t c.ins.length c.regs j c.ins[j]/\eu c.ins j) (λk=>[.YJ t,.pptr [w.enc] 0 0,.pptr [c.enc] 0 0,.YJ c.ins.length,.YJ (k:Int)]) YC (λj h hj=>absurd hj (XX _)) rfl (λk hk hd hi hG nx hn=>?_) (λk hk hd hG nx=>?_)
  all_goals refine vw ?_
  .have hx:=aq (f:=az.enc) hk;have hno:¬(wO w t c.ins.length c.regs k c.ins[k]/\eu c.ins k)->Q (.bool false) []:=λh=>hq _ (eh λh2=>h ⟨h2.ins k hk,h2.lans k hk⟩)
   have hgo:wO w t c.ins.length c.regs k c.ins[k]->eu c.ins k->nx [.YJ t,.pptr [w.enc] 0 0,.pptr [c.enc] 0 0,.YJ c.ins.length,.YJ (k+1:Nat)] []:=λh h2=>hn λj hj hjk=>by
    rcases Fn j k with g|g
    .exact hG j hj g
    .have e:j=k:=by omega
     subst e;exact⟨h,h2⟩
   clear hn hG hq;have Z:=NY c.ins k hl;generalize hL:iz (eu c.ins k)=la at Z;have Y:la=true↔eu c.ins k:=by rw[<-hL];exact fo
   clear hL;generalize c.ins[k]=i at hx hno hgo;have S:=Jd w i;have O:=oh i;have hja:=mP i.a c.ins.length;have hjb:=mP i.b c.ins.length;have G:=mP i.site w.sites.length;have hl1:=λhno hgo=>Qe (w:=w) (t:=t) (k:=k) (i:=i) h0 Q nx hno hgo hl hk
   have hs1:IntKind.i64.wrap ((c.ins.length:Int)-1)=((c.ins.length-1:Nat):Int):=by rw[WY _ YC];omega
   have hjm:AH c.ins.length i=if i.op=5 then inB i.a c.ins.length else if i.op=10 then inB i.b c.ins.length else true:=rfl
   generalize inB i.a c.ins.length=ja at *;generalize inB i.b c.ins.length=jb at *;have B:¬(1<=i.op/\i.op<=28/\(i.op=28↔k+1=c.ins.length)/\(i.op=28->i.site=-1)/\(i.op≠28->inB i.site w.sites.length=true)/\(i.op≠28->(w.sites.getD i.site.toNat default).thread=t)/\(∀r∈aC i,0<=r/\r<c.regs)/\jh w i=true/\(i.op=5->ja=true)/\(i.op=10->jb=true)/\la=true)->Q (.bool false) []:=λh=>hno λE=>h ⟨E.1.lo,E.1.hi,E.1.last,E.1.fin,E.1.sin,E.1.sth,E.1.regs,E.1.obj,λh5=>by have:=E.1.jmp;rw[hjm,if_pos h5]at this;exact this,λh10=>by have:=E.1.jmp;rw[hjm,if_neg YC,if_pos h10]at this;exact this,Y.2 E.2⟩
   have D:(1<=i.op/\i.op<=28/\(i.op=28↔k+1=c.ins.length)/\(i.op=28->i.site=-1)/\(i.op≠28->inB i.site w.sites.length=true)/\(i.op≠28->(w.sites.getD i.site.toNat default).thread=t)/\jh w i=true/\(i.op=5->ja=true)/\(i.op=10->jb=true)/\la=true)->W.loop (ju Q nx) [.YJ t,.pptr [w.enc] 0 0,.pptr [c.enc] 0 0,.YJ c.ins.length,.YJ k,.lst ((aC i).map ah),.YJ 0] []:=λh=>hl1 (λh2=>B λh3=>h2 h3.2.2.2.2.2.2.1) λh2=>hgo ⟨h.1,h.2.1,h.2.2.1,h.2.2.2.1,h.2.2.2.2.1,h.2.2.2.2.2.1,h2,h.2.2.2.2.2.2.1,by
     rw[hjm];split
     .rename_i h5;exact h.2.2.2.2.2.2.2.1 h5
     .split
      .rename_i h5;exact h.2.2.2.2.2.2.2.2.1 h5
      .rfl⟩ (Y.1 h.2.2.2.2.2.2.2.2.2)
   clear hno hgo hl1 hjm Y;generalize jh w i=ob at *;generalize hrr:(aC i).map ah=rr at *;have hrx:(∀r∈aC i,0<=r/\r<c.regs)=(∀r∈aC i,0<=r/\r<c.regs):=rfl;generalize(∀r∈aC i,0<=r/\r<c.regs)=RP at *;clear hrx hrr;obtain⟨op,ia,ib,ic,m,M⟩:=i;have he:az.enc ⟨op,ia,ib,ic,m,M⟩=[.YJ op,.YJ ia,.YJ ib,.YJ ic,.YJ m,.YJ M]:=rfl;rw[he]at hx S O;clear he;dsimp only at *;cases hb:inB M w.sites.length with
   |false=>
    rw[hb]at G B D
    repeat' (first|refine sy ?_|refine s2 ?_ ?_|intro)
    all_goals first
     |(refine B λE=>?_;obtain⟨f1,f2,f3,f4,f5,f6,f7,f8,f9,f10,f11⟩:=E;clear S Z O hja hjb G hx B D f7;simp only[decide_eq_true_eq,decide_eq_false_iff_not,ge_iff_le,gt_iff_lt,ne_eq,Decidable.not_not,decide_eq_decide,Yj,Bool.not_eq_false',YB,Bool.not_eq_false,W7,imp_false]at *;grind)
     |(refine D ?_;clear S Z O hja hjb G hx B D;simp only[decide_eq_true_eq,decide_eq_false_iff_not,ge_iff_le,gt_iff_lt,ne_eq,Decidable.not_not,decide_eq_decide,Yj,Bool.not_eq_false',YB,Bool.not_eq_false,W7,imp_false]at *;grind)
   |true=>
    rw[hb]at G B D;obtain⟨ks,rfl⟩:=Xg (cT hb);have hks:ks<w.sites.length:=by have:=(aw.1 hb).2;omega
    have hx2:=aq (f:=bM.enc) hks;rw[Int.toNat_natCast,List.getD_eq_getElem?_getD,List.getElem?_eq_getElem hks,Option.getD_some]at B D;generalize w.sites[ks]=s at *;obtain⟨th,sm,ln⟩:=s;unfold bM.enc at hx2;dsimp only at *
    repeat' (first|refine sy ?_|refine s2 ?_ ?_|intro)
    all_goals first
     |(refine B λE=>?_;obtain⟨f1,f2,f3,f4,f5,f6,f7,f8,f9,f10,f11⟩:=E;clear S Z O hja hjb G hx hx2 B D f7;simp only[decide_eq_true_eq,decide_eq_false_iff_not,ge_iff_le,gt_iff_lt,ne_eq,Decidable.not_not,decide_eq_decide,Yj,Bool.not_eq_false',YB,Bool.not_eq_false,W7,imp_false]at *;grind)
     |(refine D ?_;clear S Z O hja hjb G hx hx2 B D;simp only[decide_eq_true_eq,decide_eq_false_iff_not,ge_iff_le,gt_iff_lt,ne_eq,Decidable.not_not,decide_eq_decide,Yj,Bool.not_eq_false',YB,Bool.not_eq_false,W7,imp_false]at *;grind)
  .subst hk
   repeat' (first|refine sy ?_|refine s2 ?_ ?_|intro)
   exact hq _ (fM ⟨h0,h32,hn0,λj h=>(hG j h h).1,λj h=>(hG j h h).2⟩)
 .have hno:=hq _ (eh λh=>h0 ⟨h.r0,h.r32,h.ne⟩)
  repeat' (first|refine sy ?_|refine s2 ?_ ?_|intro)
  all_goals first
   |exact hno
   |(exfalso;refine h0 ?_;simp only[decide_eq_true_eq,decide_eq_false_iff_not]at *;omega)
theorem LD(c:aL)(hl:∀t∈c.ts,t.ins.length<2^48):ao Tryz.prog 34 [.agg c.enc] (.bool (iz (fy c))):=by
 have hw:=LC c.w;have ht:=λi (h:i<c.ts.length)=>y8 c.w i c.ts[i] (hl _ (WN h))
 obtain⟨w,ts⟩:=c;dsimp only at *;refine Bz _ _ _ ?_;refine vw ?_;generalize hQ:(λ(u:AV) (K:SH)=>u=AV.bool (iz (fy ⟨w,ts⟩))/\K=[])=Q;have O:∀b,iz (fy ⟨w,ts⟩)=b->Q (.bool b) []:=λb hb=>by subst hQ;exact⟨by rw[hb],rfl⟩
 clear hQ;cases D:iz (uU w)with
 |false=>
  rw[D]at hw
  repeat' (first|refine sy ?_|refine s2 ?_ ?_|intro)
  all_goals exact O _ (eh λh=>by have:=h.world;rw[fM this]at D;cases D)
 |true=>
  rw[D]at hw;have D:=fo.1 D;by_cases B:ts.length=w.threads.length
  .have e1:decide ((ts.length:Int)≠(w.threads.length:Int))=false:=by simp[B]
   have h4:=D.t4
   repeat' (first|refine sy ?_|refine s2 (λh=>?_) λh=>?_|intro)
   refine cS ts.length (λk=>∀j (h:j<ts.length),j<k->rt w j ts[j]) (λk=>[.pptr [(⟨w,ts⟩:aL).enc] 0 0,.YJ k]) YC (λj h Z=>absurd Z (XX _)) rfl (λk hk hd hi S nx hn=>?_) (λk hk hd S nx=>?_)
   all_goals refine vw ?_
   .have hx:=aq (f:=eG.enc) hk;have E:=ht k hk;have G:¬rt w k ts[k]->Q (.bool false) []:=λh=>O _ (eh λh2=>h (h2.thr k hk))
    have hgo:rt w k ts[k]->nx [.pptr [(⟨w,ts⟩:aL).enc] 0 0,.YJ ((k+1:Nat):Int)] []:=λh=>hn λj Z hjk=>by
     rcases Fn j k with g|g
     .exact S j Z g
     .have e:j=k:=by omega
      subst e;exact h
    clear hn S;generalize ts[k]=c at *;obtain⟨rg,Y⟩:=c;cases M:iz (rt w k ⟨rg,Y⟩)with
    |false=>
     rw[M]at E
     repeat' (first|refine sy ?_|refine s2 ?_ ?_|intro)
     exact G λh=>by rw[fM h]at M;cases M
    |true=>
     rw[M]at E
     repeat' (first|refine sy ?_|refine s2 ?_ ?_|intro)
     exact hgo (fo.1 M)
   .repeat' (first|refine sy ?_|refine s2 ?_ ?_|intro)
    exact O _ (fM ⟨D,B,λj h=>S j h (by have:j<ts.length:=h;omega)⟩)
  .have e1:decide ((ts.length:Int)≠(w.threads.length:Int))=true:=by simp;omega
   repeat' (first|refine sy ?_|refine s2 ?_ ?_|intro)
   all_goals exact O _ (eh λh=>B h.len)
end
def HJ(l:List Int)(n:Int)(hl:l.length<2^40):ao Tryz.prog 170 [.lst (l.map ah),.YJ n] (.lst ((l.filter λy=>!decide (y=n)).map ah)):=by
 refine Rm λQ E=>xf _ _ _ _ ?_
 refine vw ?_;refine bF l.length (λi (o:Option Nat)=>([.lst (l.map ah),.YJ n,ai o ((l.take i).filter λy=>!decide (y=n)).length,.YJ i],ab o 1 (((l.take i).filter λy=>!decide (y=n)).map ah))) (λi o=>o=none->((l.take i).filter λy=>!decide (y=n))=[]) none (λ_=>rfl) (aE.vals (.cons (.refl _) (.cons (.refl _) (.cons .nile (.cons (.refl _) .nil))))) ?_;intro i o hi M;dsimp only;refine vw ?_;have S:((l.take i).filter λy=>!decide (y=n)).length<=i:=Nat.le_trans (List.length_filter_le _ _) YH;rcases Nat.lt_or_ge i l.length with u|u
 .have Y:=a8 u;have hx:=aq (f:=ah) u;have j:((l.take (i+1)).filter λy=>!decide (y=n))=if l[i]=n then((l.take i).filter λy=>!decide (y=n))else((l.take i).filter λy=>!decide (y=n))++[l[i]]:=by rw[LE u,List.filter_append];by_cases h:l[i]=n<;>simp[h]
  clear E;by_cases h:l[i]=n
  .have Z:decide (l[i]≠n)=false:=decide_eq_false (λe=>e h);rw[if_pos h]at j
   repeat' (first|refine sy ?_|refine s2 ?_ ?_|intro)
   exact⟨i+1,o,YC,YC,by rw[j];exact M,dX (by rw[ax u YC,j]) (by rw[j])⟩
  .have Z:decide (l[i]≠n)=true:=decide_eq_true h;rw[if_neg h]at j;have G:o=none->(((l.take i).filter λy=>!decide (y=n)).map ah)=[]:=λe=>by rw[M e];rfl
   repeat' (first|refine sx ?_|refine bG rp rp YF G YE YF YH YH YE (λB D=>?_)|refine sb λB D=>?_|refine s2 ?_ ?_|intro)
   exact⟨i+1,some B,YC,YC,nofun,aE.pickE (R:=[(B,_)]) rp (by rw[ax u YC,j];simp[c8,ai]) (by rw[j];simp[ab,ah])⟩
 .have Y:=bq u;rw[W9 u]at *;have fin:∀L,(∀q∈ab o 1 ((l.filter λy=>!decide (y=n)).map ah),q∈L)->Q (ai o (l.filter λy=>!decide (y=n)).length) L:=λL O=>E _ _ (by
   cases o with
   |none=>rw[M rfl];exact .emp
   |some b=>exact Fz.sls (O _ (.head _)) rfl YG rfl)
  clear E
  repeat' (first|refine sy ?_|refine s2 ?_ ?_|intro)
  exact fin _ λq h=>h
def tQ(i:Nat):List AV:=[.YJ (i:Int)]
def yg(a b d:AV)(bt:Nat)(T:List ThrD)(c:Int)(hT:T.length<2^40)(S:([a,b,d,.sl bt 0 T.length]:List AV).all AV.one=true):
  ac Tryz.prog 171 [.agg [a,b,d,.sl bt 0 T.length],.YJ c] [(bt,⟨3,T.map ThrD.enc⟩)] λv L=>v=.lst ((aM T c T.length).map tQ)/\L=[(bt,⟨3,T.map ThrD.enc⟩)]:=by
 refine ac.fz (xg _ _ _ _ ?_);refine vw ?_;generalize hQ:(λ(v:AV) (L:SH)=>∃v2 L2,aE [v] L [v2] L2/\v2=AV.lst ((aM T c T.length).map tQ)/\L2=[(bt,(⟨3,T.map ThrD.enc⟩:Blk))])=Q
 repeat' (first|refine Ar ?_ rfl S (by exact Yv _)|refine sx ?_|refine sb λB E=>?_|refine s2 (λh=>?_) λh=>?_|fail)
 refine bF T.length (λi (o:Option Nat)=>([.YJ c,.pptr [[a,b,d,.sl bt 0 T.length]] 0 0,ai o (aM T c i).length,.YJ i],(bt,⟨3,T.map ThrD.enc⟩)::ab o 1 ((aM T c i).map tQ))) (λi o=>o=none->aM T c i=[]) none (λ_=>rfl) (aE.vals (.cons (.refl _) (.cons (.refl _) (.cons .nile (.cons (.refl _) .nil))))) ?_;intro i o hi ho;dsimp only;refine vw ?_;have hle:(aM T c i).length<=i:=Nat.le_trans (List.length_filter_le _ _) YF;rcases Nat.lt_or_ge i T.length with G|G
 .have hd:=a8 G;have hx:=aq (f:=ThrD.enc) G;have u:=nO T c i;rw[show gS T c i=dH T[i] c by simp[gS,G]]at u;have ho2:o=none->(aM T c i).map tQ=[]:=λe=>by rw[ho e];rfl
  have D:dH T[i] c=false->∃j o',i<j/\j<=T.length/\(o'=none->aM T c j=[])/\aE [.YJ c,.pptr [[a,b,d,.sl bt 0 T.length]] 0 0,ai o (aM T c i).length,.YJ (IntKind.i64.wrap ((i:Int)+1))] ((bt,⟨3,T.map ThrD.enc⟩)::ab o 1 ((aM T c i).map tQ))
    [.YJ c,.pptr [[a,b,d,.sl bt 0 T.length]] 0 0,ai o' (aM T c j).length,.YJ j] ((bt,⟨3,T.map ThrD.enc⟩)::ab o' 1 ((aM T c j).map tQ)):=λh=>by
   rw[h]at u;simp only[W7,if_false,Xr]at u;exact⟨i+1,o,YC,YC,by rw[u];exact ho,dX (by rw[ax G YC,u]) (by rw[u])⟩
  generalize T[i]=y at *;obtain⟨M,O,ya⟩:=y;rw[show ThrD.enc ⟨M,O,ya⟩=[.YJ M,.YJ O,.bool ya]from rfl]at hx;by_cases Z:M=3
  .have d1:decide (M=3)=true:=decide_eq_true Z;by_cases Y:O=c
   .have d2:decide (O=c)=true:=decide_eq_true Y;rw[show dH ⟨M,O,ya⟩ c=true by simp[dH,Z,Y],if_pos rfl]at u
    repeat' (first|refine sx ?_|refine bG rp rp YF ho2 YE YF YH YH YE (λB E=>?_)|refine sb λB E=>?_|refine s2 ?_ ?_|intro)
    exact⟨i+1,some B,YC,YC,nofun,aE.pickE (R:=[(bt,_),(B,_)]) rp (by rw[ax G YC,u];simp[c8,ai]) (by rw[u];simp[ab,tQ])⟩
   .have d2:decide (O=c)=false:=decide_eq_false Y;have sk:=D (by simp[dH,Y])
    repeat' (first|refine sy ?_|refine s2 ?_ ?_|intro)
    exact sk
  .have d1:decide (M=3)=false:=decide_eq_false Z;have sk:=D (by simp[dH,Z])
   repeat' (first|refine sy ?_|refine s2 ?_ ?_|intro)
   exact sk
 .have hd:=bq G;have hi0:i=T.length:=by omega
  subst hi0;have fin:Q (ai o (aM T c T.length).length) ((bt,⟨3,T.map ThrD.enc⟩)::ab o 1 ((aM T c T.length).map tQ)):=by
   subst hQ;refine⟨.lst ((aM T c T.length).map tQ),_,aE.drop (K:=ab o 1 ((aM T c T.length).map tQ)) (R:=[(bt,⟨3,T.map ThrD.enc⟩)]) (W1 (l₁:=[(bt,(⟨3,T.map ThrD.enc⟩:Blk))])) rfl (fi.at_ (.cons ?_ .nil)).2,rfl,rfl⟩;cases o with
   |none=>rw[ho rfl];exact .emp
   |some b=>exact Fz.sls (.head _) rfl YG rfl
  clear hQ
  repeat' (first|refine sy ?_|refine s2 ?_ ?_|intro)
  exact fin
def HK(s:SyncD)(h1:s.locks.length<2^40)(h2:s.done.length<=140737488351232)(h3:s.threads.length<2^40)(Z:∀l∈s.locks,l.readers.length<2^40):
  ac Tryz.prog 168 [.agg s.enc] [] λv L=>∃(M:Option Nat) (E bt:Nat),v=.agg [ai M s.locks.length,.YJ s.tx,.sl E 0 s.done.length,.sl bt 0 s.threads.length]/\L=ab M 2 (s.locks.map LockD.enc)++[(bt,⟨3,s.threads.map ThrD.enc⟩),(E,⟨1,s.done.map aD⟩)]/\(M=none->s.locks=[]):=by
 refine ac.fz (C0 _ _ _ ?_);refine vw ?_;generalize hQ:(λ(v:AV) (L:SH)=>∃v2 L2,aE [v] L [v2] L2/\∃(M:Option Nat) (E bt:Nat),v2=.agg [ai M s.locks.length,.YJ s.tx,.sl E 0 s.done.length,.sl bt 0 s.threads.length]/\L2=ab M 2 (s.locks.map LockD.enc)++[(bt,(⟨3,s.threads.map ThrD.enc⟩:Blk)),(E,⟨1,s.done.map aD⟩)]/\(M=none->s.locks=[]))=Q
 repeat' (first|refine sx ?_|refine iv rp (λ_=>rfl) YE YH YH (λ_=>rfl) (λu B=>?_)|refine sb λu B=>?_|refine s2 (λh=>?_) λh=>?_|fail)
 rename_i a5 _ b2 _ a3 _ E _ a1 _ bt _;rw[Nat.zero_add,Nat.zero_add];revert u;intro b3 _;refine bF s.locks.length (λi (o:Option Nat)=>([.pptr [s.enc] 0 0,.ptr b2 0 0,.ptr b3 0 0,.YJ i],(b3,⟨4,[[ai o i,.YJ s.tx,.sl E 0 s.done.length,.sl bt 0 s.threads.length]]⟩)::(bt,⟨3,s.threads.map ThrD.enc⟩)::(E,⟨1,s.done.map aD⟩)::(b2,⟨4,[[.nils,.YJ 0,.nils,.nils]]⟩)::ab o 2 ((s.locks.take i).map LockD.enc))) (λi o=>o=none->i=0) none (λ_=>rfl) (aE.box (K:=[]) (.refl _) (.cons .nile (.cons (.refl _) (.cons (.refl _) (.cons (.refl _) .nil))))) ?_;intro i o hi ho;dsimp only;refine vw ?_;have D:((s.locks.take i).map LockD.enc).length=i:=by simp;omega
 have h0:o=none->(s.locks.take i).map LockD.enc=[]:=λe=>by rw[ho e];rfl
 rcases Fn i s.locks.length with O|O
 .have hd:=a8 O;have hx:=aq (f:=LockD.enc) O;have hr:=Z _ (WN O)
  repeat' (first|refine sx ?_|refine iv rp (λ_=>rfl) YE YH YH (λ_=>rfl) (λu B=>?_)|refine bG rp rp D h0 YE YF YH YH YE (λu B=>?_)|refine sb λu B=>?_|refine s2 (λh=>?_) λh=>?_|fail)
  rename_i br _ _ _;refine⟨i+1,some u,YC,YC,nofun,?_⟩;refine aE.rowA (A:=[(b3,_),(bt,_),(E,_),(b2,_)]) (b:=u) (R:=[]) (rows':=(s.locks.take (i+1)).map LockD.enc) rp ?_ ?_ (by rw[ax O YC]<;>rfl)
  .simp;omega
  .intro j r r' S G;rw[LE O,WL]at G;rcases Fn j i with hj|hj
   .rw[WW (by rw[D];exact hj)]at S G;rw[S]at G;cases G;exact fi.refl _ _
   .rw[WQ (by rw[D];exact hj),D]at S G;generalize j-i=k at S G
    match k with
    |0=>cases S;cases G;exact .cons (.refl _) (.cons (Fz.sls (l:=s.locks[i].readers) mm rfl YG YF) .nil)
    |k+1=>simp at S
 .have hd:=bq O;have hi0:i=s.locks.length:=by omega
  subst hi0;rw[W9 (Fd _)];have Y:o=none->s.locks=[]:=λe=>XA.1 (ho e)
  cases o with
  |none=>
   dsimp only[ai,ab]
   repeat' (first|refine sy ?_|refine s2 ?_ ?_|intro)
   subst hQ;exact⟨_,_,aE.pick (R:=[(bt,_),(E,_)]) rp rfl,none,E,bt,rfl,rfl,Y⟩
  |some bl=>
   dsimp only[ai,ab]
   repeat' (first|refine sy ?_|refine s2 ?_ ?_|intro)
   subst hQ;exact⟨_,_,aE.pick (R:=[(bl,_),(bt,_),(E,_)]) rp rfl,some bl,E,bt,rfl,rfl,Y⟩
