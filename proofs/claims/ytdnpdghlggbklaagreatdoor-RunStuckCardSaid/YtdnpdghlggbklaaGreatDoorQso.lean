/- A part of the proof; the statement is proved in the last part. -/
import Derived.Test.YtdnpdghlggbklaaGreatDoorQsn
set_option linter.unusedSimpArgs false
set_option linter.unusedVariables false
namespace Go.Proofs.YtdnpdghlggbklaaGreatDoor.Am
section
set_option maxRecDepth 100000
set_option maxHeartbeats 2000000
theorem fl{K:SH}{l m:List AV}(h:iU K l m:=by repeat' first|exact .nil|refine .cons ?_ ?_|exact .refl _|exact .nils):iU K l m:=h
theorem Je(i n:Int):ax Tryz.prog 84 [.Xw i,.Xw n] (.Xw (ixS i n)):=by
 refine FC _ _ _ _ ?_;unfold xF;generalize hQ:(λ(u:AV) (K:SH)=>u=AV.Xw (ixS i n)∧K=[])=Q;have hq:∀b,ixS i n=b→Q (.Xw b) []:=λb hb=>by subst hQ;exact⟨by rw[hb],rfl⟩
 clear hQ;by_cases h:n<1
 ·have d1:decide (n<1)=true:=decide_eq_true h
  repeat' (first|refine st ?_|refine sb λnb_ hnb_=>?_|refine s2 (λh=>?_) λh=>?_|fail)
  exact hq _ (by rw[ixS,if_pos h])
 ·have d1:decide (n<1)=false:=decide_eq_false h;have hn0:n≠0:=by omega
  by_cases h2:i.tmod n<0
  ·have d2:decide (i.tmod n<0)=true:=decide_eq_true h2
   repeat' (first|refine st ?_|refine mE (Nq hn0 ?_)|refine sb λnb_ hnb_=>?_|refine s2 (λh=>?_) λh=>?_|fail)
   exact hq _ (by rw[ixS,if_neg h,if_pos h2])
  ·have d2:decide (i.tmod n<0)=false:=decide_eq_false h2
   repeat' (first|refine st ?_|refine mE (Nq hn0 ?_)|refine sb λnb_ hnb_=>?_|refine s2 (λh=>?_) λh=>?_|fail)
   exact hq _ (by rw[ixS,if_neg h,if_neg h2])
theorem ops(k:Int)(h1:1≤k)(h2:k≤28):k=1∨k=2∨k=3∨k=4∨k=5∨k=6∨k=7∨k=8∨k=9∨k=10∨k=11∨k=12∨k=13∨k=14∨k=15∨k=16∨k=17∨k=18∨k=19∨k=20∨k=21∨k=22∨k=23∨k=24∨k=25∨k=26∨k=27∨k=28:=by omega
theorem pS{s:aU}{r:Int}(h0:0≤r)(h1:r<s.regs.length):(s.regs.map aj)[r.toNat]? =some [.Xw (s.reg r)]:=by
 have:r.toNat<s.regs.length:=by omega
 simp[aU.reg,this,aj]
theorem tp{s:aU}{r:Int}(h0:0≤r)(h1:r<s.taint.length):(s.taint.map cp)[r.toNat]? =some [.lst ((s.tnt r).map aj)]:=by
 have:r.toNat<s.taint.length:=by omega
 simp[aU.tnt,this,cp]
theorem pT:Pm 0=.pptr [ja.map (.Xw ·)] 0 0:=rfl
section
variable {s:aU} {t op ia ib ic m site:Int} (hr:∀r∈bY ⟨op,ia,ib,ic,m,site⟩,0≤r∧r<s.regs.length) (ht:s.taint.length=s.regs.length) (hs:∀r,(s.tnt r).length*8≤140737488355328) {Q:R} (hq:∀v L,(∀K,iU K v (pQ ⟨op,ia,ib,ic,m,site⟩ s t).enc)→Q (.agg v) L)
include hr ht hs hq
omit hr ht hs in
theorem UC(h1:1≤op)(h2:op≤28)(hn:¬(7≤op∧op≤10)∧op≠26):bq (.agg (bj.enc ⟨op,ia,ib,ic,m,site⟩)) (.agg s.enc) (.Xw t) [] Q:=by
 unfold bq;rw[show bj.enc ⟨op,ia,ib,ic,m,site⟩=[.Xw op,.Xw ia,.Xw ib,.Xw ic,.Xw m,.Xw site]from rfl,pT];unfold aU.enc;rcases ops op h1 h2 with rfl|rfl|rfl|rfl|rfl|rfl|rfl|rfl|rfl|rfl|rfl|rfl|rfl|rfl|rfl|rfl|rfl|rfl|rfl|rfl|rfl|rfl|rfl|rfl|rfl|rfl|rfl|rfl
 all_goals first
  |(exfalso;omega)
  |skip
 all_goals
  clear h1 h2 hn
  repeat' (first|refine st ?_|refine De Xv Xv ?_|refine sb λnb_ hnb_=>?_|refine s2 (λh=>?_) λh=>?_|fail)
  exact hq _ _ (λK=>by simp[pQ,dD.enc,lT,ja,bA];exact fl)
theorem UD(h:op=8∨op=26):bq (.agg (bj.enc ⟨op,ia,ib,ic,m,site⟩)) (.agg s.enc) (.Xw t) [] Q:=by
 unfold bq;rw[show bj.enc ⟨op,ia,ib,ic,m,site⟩=[.Xw op,.Xw ia,.Xw ib,.Xw ic,.Xw m,.Xw site]from rfl,pT];unfold aU.enc;rcases h with rfl|rfl
 all_goals
  obtain⟨b0,b1⟩:=hr ib (by simp[bY]);have y1:=tp (s:=s) b0 Xr;have c1:=cR (s.tnt ib) (hs ib);clear hr ht hs
  repeat' (first|refine st ?_|(refine pf 81 ?_;refine pm (c1) ?_)|refine sb λnb_ hnb_=>?_|refine s2 (λh=>?_) λh=>?_|fail)
  exact hq _ _ (λK=>by simp[pQ,dD.enc,lT,ja,bA];exact fl)
theorem UE(h:op=10):bq (.agg (bj.enc ⟨op,ia,ib,ic,m,site⟩)) (.agg s.enc) (.Xw t) [] Q:=by
 unfold bq;rw[show bj.enc ⟨op,ia,ib,ic,m,site⟩=[.Xw op,.Xw ia,.Xw ib,.Xw ic,.Xw m,.Xw site]from rfl,pT];unfold aU.enc;subst h;obtain⟨b0,b1⟩:=hr ia (by simp[bY]);have y1:=tp (s:=s) b0 Xr;have c1:=cR (s.tnt ia) (hs ia);clear hr ht hs
 repeat' (first|refine st ?_|(refine pf 81 ?_;refine pm (c1) ?_)|refine sb λnb_ hnb_=>?_|refine s2 (λh=>?_) λh=>?_|fail)
 exact hq _ _ (λK=>by simp[pQ,dD.enc,lT,ja,bA];exact fl)
theorem UF(h:op=7):bq (.agg (bj.enc ⟨op,ia,ib,ic,m,site⟩)) (.agg s.enc) (.Xw t) [] Q:=by
 unfold bq;rw[show bj.enc ⟨op,ia,ib,ic,m,site⟩=[.Xw op,.Xw ia,.Xw ib,.Xw ic,.Xw m,.Xw site]from rfl,pT];unfold aU.enc;subst h;obtain⟨b0,b1⟩:=hr ic (by simp[bY]);have y1:=tp (s:=s) b0 Xr;have y2:=pS (s:=s) b0 b1;have c1:=cR (s.tnt ic) (hs ic);have c2:=Je (s.reg ic) m;clear hr ht hs
 repeat' (first|refine st ?_|(refine pf 81 ?_;refine pm (c1) ?_)|(refine pf 84 ?_;refine pm (c2) ?_)|refine sb λnb_ hnb_=>?_|refine s2 (λh=>?_) λh=>?_|fail)
 exact hq _ _ (λK=>by simp[pQ,dD.enc,lT,ja,bA];exact fl)
theorem UG(h:op=9):bq (.agg (bj.enc ⟨op,ia,ib,ic,m,site⟩)) (.agg s.enc) (.Xw t) [] Q:=by
 unfold bq;rw[show bj.enc ⟨op,ia,ib,ic,m,site⟩=[.Xw op,.Xw ia,.Xw ib,.Xw ic,.Xw m,.Xw site]from rfl,pT];unfold aU.enc;subst h;obtain⟨b0,b1⟩:=hr ic (by simp[bY]);obtain⟨b2,b3⟩:=hr ib (by simp[bY]);have y1:=tp (s:=s) b0 Xr;have y3:=tp (s:=s) b2 Xr;have y2:=pS (s:=s) b0 b1;have c1:=cR (s.tnt ic) (hs ic);have c3:=cR (s.tnt ib) (hs ib);have c2:=Je (s.reg ic) m;clear hr ht hs
 repeat' (first|refine st ?_|(refine pf 81 ?_;refine pm (c1) ?_)|(refine pf 81 ?_;refine pm (c3) ?_)|(refine pf 84 ?_;refine pm (c2) ?_)|refine sb λnb_ hnb_=>?_|refine s2 (λh=>?_) λh=>?_|fail)
 exact hq _ _ (λK=>by simp[pQ,dD.enc,lT,ja,bA];exact fl)
end
theorem OD(i:bj)(s:aU)(t:Int)(h1:1≤i.op)(h2:i.op≤28)(hr:∀r∈bY i,0≤r∧r<s.regs.length)(ht:s.taint.length=s.regs.length)(hs:∀r,(s.tnt r).length*8≤140737488355328):ax Tryz.prog 53 [.agg i.enc,.agg s.enc,.Xw t] (.agg (pQ i s t).enc):=by
 obtain⟨op,ia,ib,ic,m,site⟩:=i;refine af.fz (tm _ _ _ _ _ ?_);dsimp only at h1 h2;by_cases e7:op=7
 ·exact UF hr ht hs (λv L h=>⟨_,[],aF.all (.aggs (h _)),rfl,rfl⟩) e7
 by_cases e9:op=9
 ·exact UG hr ht hs (λv L h=>⟨_,[],aF.all (.aggs (h _)),rfl,rfl⟩) e9
 by_cases e10:op=10
 ·exact UE hr ht hs (λv L h=>⟨_,[],aF.all (.aggs (h _)),rfl,rfl⟩) e10
 by_cases e8:op=8∨op=26
 ·exact UD hr ht hs (λv L h=>⟨_,[],aF.all (.aggs (h _)),rfl,rfl⟩) e8
 exact UC (λv L h=>⟨_,[],aF.all (.aggs (h _)),rfl,rfl⟩) h1 h2 Xr
end
end Go.Proofs.YtdnpdghlggbklaaGreatDoor.Am
