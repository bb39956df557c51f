/- A part of the proof; the statement is proved in the last part. -/
import Derived.Test.YtdnpdghlggbklaaGreatDoorQtn
set_option linter.unusedSimpArgs false
set_option linter.unusedVariables false
namespace Go.Proofs.YtdnpdghlggbklaaGreatDoor.Am
section
set_option maxRecDepth 100000
set_option maxHeartbeats 2000000
theorem fl{K:SH}{l m:List AV}(h:iV K l m:=by repeat' first|exact .nil|refine .cons ?_ ?_|exact .refl _|exact .nils):iV K l m:=h
theorem KH(i n:Int):az Tryz.prog 84 [.ZO i,.ZO n] (.ZO (ixS i n)):=by
 refine GW _ _ _ _ ?_;unfold zf;generalize hQ:(λ(u:AV) (K:SH)=>u=AV.ZO (ixS i n)∧K=[])=Q;have hq:∀b,ixS i n=b→Q (.ZO b) []:=λb hb=>by subst hQ;exact⟨by rw[hb],rfl⟩
 clear hQ;by_cases h:n<1
 ·have d1:decide (n<1)=true:=decide_eq_true h
  repeat' (first|refine st ?_|refine sb λnb_ hnb_=>?_|refine s2 (λh=>?_) λh=>?_|fail)
  exact hq _ (by rw[ixS,if_pos h])
 ·have d1:decide (n<1)=false:=decide_eq_false h;have hn0:n≠0:=by omega
  by_cases h2:i.tmod n<0
  ·have d2:decide (i.tmod n<0)=true:=decide_eq_true h2
   repeat' (first|refine st ?_|refine nK (Pb hn0 ?_)|refine sb λnb_ hnb_=>?_|refine s2 (λh=>?_) λh=>?_|fail)
   exact hq _ (by rw[ixS,if_neg h,if_pos h2])
  ·have d2:decide (i.tmod n<0)=false:=decide_eq_false h2
   repeat' (first|refine st ?_|refine nK (Pb hn0 ?_)|refine sb λnb_ hnb_=>?_|refine s2 (λh=>?_) λh=>?_|fail)
   exact hq _ (by rw[ixS,if_neg h,if_neg h2])
theorem ops(k:Int)(h1:1≤k)(h2:k≤28):k=1∨k=2∨k=3∨k=4∨k=5∨k=6∨k=7∨k=8∨k=9∨k=10∨k=11∨k=12∨k=13∨k=14∨k=15∨k=16∨k=17∨k=18∨k=19∨k=20∨k=21∨k=22∨k=23∨k=24∨k=25∨k=26∨k=27∨k=28:=by omega
theorem qU{s:aH}{r:Int}(h0:0≤r)(h1:r<s.regs.length):(s.regs.map aj)[r.toNat]? =some [.ZO (s.reg r)]:=by
 have:r.toNat<s.regs.length:=by omega
 simp[aH.reg,this,aj]
theorem uK{s:aH}{r:Int}(h0:0≤r)(h1:r<s.taint.length):(s.taint.map cz)[r.toNat]? =some [.lst ((s.tnt r).map aj)]:=by
 have:r.toNat<s.taint.length:=by omega
 simp[aH.tnt,this,cz]
theorem qV:Rq 0=.pptr [dI.map (.ZO ·)] 0 0:=rfl
section
variable {s:aH} {t op ia ib ic m site:Int} (hr:∀r∈cf ⟨op,ia,ib,ic,m,site⟩,0≤r∧r<s.regs.length) (ht:s.taint.length=s.regs.length) (hs:∀r,(s.tnt r).length*8≤140737488355328) {Q:R} (hq:∀v L,(∀K,iV K v (cm ⟨op,ia,ib,ic,m,site⟩ s t).enc)→Q (.agg v) L)
include hr ht hs hq
omit hr ht hs in
theorem WN(h1:1≤op)(h2:op≤28)(hn:¬(7≤op∧op≤10)∧op≠26):bG (.agg (bq.enc ⟨op,ia,ib,ic,m,site⟩)) (.agg s.enc) (.ZO t) [] Q:=by
 unfold bG;rw[show bq.enc ⟨op,ia,ib,ic,m,site⟩=[.ZO op,.ZO ia,.ZO ib,.ZO ic,.ZO m,.ZO site]from rfl,qV];unfold aH.enc;rcases ops op h1 h2 with rfl|rfl|rfl|rfl|rfl|rfl|rfl|rfl|rfl|rfl|rfl|rfl|rfl|rfl|rfl|rfl|rfl|rfl|rfl|rfl|rfl|rfl|rfl|rfl|rfl|rfl|rfl|rfl
 all_goals first
  |(exfalso;omega)
  |skip
 all_goals
  clear h1 h2 hn
  repeat' (first|refine st ?_|refine Ev ZN ZN ?_|refine sb λnb_ hnb_=>?_|refine s2 (λh=>?_) λh=>?_|fail)
  exact hq _ _ (λK=>by simp[cm,aY.enc,ij,dI,bK];exact fl)
theorem WO(h:op=8∨op=26):bG (.agg (bq.enc ⟨op,ia,ib,ic,m,site⟩)) (.agg s.enc) (.ZO t) [] Q:=by
 unfold bG;rw[show bq.enc ⟨op,ia,ib,ic,m,site⟩=[.ZO op,.ZO ia,.ZO ib,.ZO ic,.ZO m,.ZO site]from rfl,qV];unfold aH.enc;rcases h with rfl|rfl
 all_goals
  obtain⟨b0,b1⟩:=hr ib (by simp[cf]);have y1:=uK (s:=s) b0 ZJ;have c1:=cW (s.tnt ib) (hs ib);clear hr ht hs
  repeat' (first|refine st ?_|(refine pf 81 ?_;refine pm (c1) ?_)|refine sb λnb_ hnb_=>?_|refine s2 (λh=>?_) λh=>?_|fail)
  exact hq _ _ (λK=>by simp[cm,aY.enc,ij,dI,bK];exact fl)
theorem WP(h:op=10):bG (.agg (bq.enc ⟨op,ia,ib,ic,m,site⟩)) (.agg s.enc) (.ZO t) [] Q:=by
 unfold bG;rw[show bq.enc ⟨op,ia,ib,ic,m,site⟩=[.ZO op,.ZO ia,.ZO ib,.ZO ic,.ZO m,.ZO site]from rfl,qV];unfold aH.enc;subst h;obtain⟨b0,b1⟩:=hr ia (by simp[cf]);have y1:=uK (s:=s) b0 ZJ;have c1:=cW (s.tnt ia) (hs ia);clear hr ht hs
 repeat' (first|refine st ?_|(refine pf 81 ?_;refine pm (c1) ?_)|refine sb λnb_ hnb_=>?_|refine s2 (λh=>?_) λh=>?_|fail)
 exact hq _ _ (λK=>by simp[cm,aY.enc,ij,dI,bK];exact fl)
theorem WS(h:op=7):bG (.agg (bq.enc ⟨op,ia,ib,ic,m,site⟩)) (.agg s.enc) (.ZO t) [] Q:=by
 unfold bG;rw[show bq.enc ⟨op,ia,ib,ic,m,site⟩=[.ZO op,.ZO ia,.ZO ib,.ZO ic,.ZO m,.ZO site]from rfl,qV];unfold aH.enc;subst h;obtain⟨b0,b1⟩:=hr ic (by simp[cf]);have y1:=uK (s:=s) b0 ZJ;have y2:=qU (s:=s) b0 b1;have c1:=cW (s.tnt ic) (hs ic);have c2:=KH (s.reg ic) m;clear hr ht hs
 repeat' (first|refine st ?_|(refine pf 81 ?_;refine pm (c1) ?_)|(refine pf 84 ?_;refine pm (c2) ?_)|refine sb λnb_ hnb_=>?_|refine s2 (λh=>?_) λh=>?_|fail)
 exact hq _ _ (λK=>by simp[cm,aY.enc,ij,dI,bK];exact fl)
theorem WT(h:op=9):bG (.agg (bq.enc ⟨op,ia,ib,ic,m,site⟩)) (.agg s.enc) (.ZO t) [] Q:=by
 unfold bG;rw[show bq.enc ⟨op,ia,ib,ic,m,site⟩=[.ZO op,.ZO ia,.ZO ib,.ZO ic,.ZO m,.ZO site]from rfl,qV];unfold aH.enc;subst h;obtain⟨b0,b1⟩:=hr ic (by simp[cf]);obtain⟨b2,b3⟩:=hr ib (by simp[cf]);have y1:=uK (s:=s) b0 ZJ;have y3:=uK (s:=s) b2 ZJ;have y2:=qU (s:=s) b0 b1;have c1:=cW (s.tnt ic) (hs ic);have c3:=cW (s.tnt ib) (hs ib);have c2:=KH (s.reg ic) m;clear hr ht hs
 repeat' (first|refine st ?_|(refine pf 81 ?_;refine pm (c1) ?_)|(refine pf 81 ?_;refine pm (c3) ?_)|(refine pf 84 ?_;refine pm (c2) ?_)|refine sb λnb_ hnb_=>?_|refine s2 (λh=>?_) λh=>?_|fail)
 exact hq _ _ (λK=>by simp[cm,aY.enc,ij,dI,bK];exact fl)
end
theorem Qk(i:bq)(s:aH)(t:Int)(h1:1≤i.op)(h2:i.op≤28)(hr:∀r∈cf i,0≤r∧r<s.regs.length)(ht:s.taint.length=s.regs.length)(hs:∀r,(s.tnt r).length*8≤140737488355328):az Tryz.prog 53 [.agg i.enc,.agg s.enc,.ZO t] (.agg (cm i s t).enc):=by
 obtain⟨op,ia,ib,ic,m,site⟩:=i;refine af.fz (uJ _ _ _ _ _ ?_);dsimp only at h1 h2;by_cases e7:op=7
 ·exact WS hr ht hs (λv L h=>⟨_,[],aG.all (.aggs (h _)),rfl,rfl⟩) e7
 by_cases e9:op=9
 ·exact WT hr ht hs (λv L h=>⟨_,[],aG.all (.aggs (h _)),rfl,rfl⟩) e9
 by_cases e10:op=10
 ·exact WP hr ht hs (λv L h=>⟨_,[],aG.all (.aggs (h _)),rfl,rfl⟩) e10
 by_cases e8:op=8∨op=26
 ·exact WO hr ht hs (λv L h=>⟨_,[],aG.all (.aggs (h _)),rfl,rfl⟩) e8
 exact WN (λv L h=>⟨_,[],aG.all (.aggs (h _)),rfl,rfl⟩) h1 h2 ZJ
end
end Go.Proofs.YtdnpdghlggbklaaGreatDoor.Am
