/- part -/
import Derived.Test.YtfcfhjadaknphaaGreatDoorQxAf
set_option linter.all false
set_option maxRecDepth 100000
set_option maxHeartbeats 0
namespace Go.Proofs.YtfcfhjadaknphaaGreatDoor.Am
def Ky{op:Int}(j:6<=op)(h2:op<=28):gF op≠0:=by
 have:∀k:Nat,k<29->6<=k->iP.getD k 0≠0:=by decide
 unfold gF;exact this op.toNat YC YC
def Jm{i:az}{s:aG}{t:Int}(h:i.op≠7/\i.op≠8/\i.op≠9/\i.op≠10/\i.op≠26):(dM i s t).enc=[.YJ t,.YJ (gF i.op),.YJ (dM i s t).obj,.YJ 0,.YJ i.site,.lst [],.lst []]:=by
 unfold dM;dsimp only
 repeat' split
 all_goals first
  |rfl
  |(exfalso;omega)
def yi(c:aL)(s:bU)(t:Int)(hv:ao Tryz.prog 34 [.agg c.enc] (.bool true))(H:Qf c s)(hcn:c.w.conds.length<2^62)(Cj:c.ts.length<2^62)(hi:∀x∈c.ts,u3 x)(hs:∀x∈s.threads,∀r,(x.tnt r).length*8<=140737488355328):
  ao Tryz.prog 77 [.agg c.enc,.agg s.enc,.YJ t] (gM (bS c s t)):=by
 have hf:=NZ c s hv H hcn Cj;refine ac.fz (w9 _ _ _ _ _ ?_);refine vw ?_;generalize hQ:(λ(v:AV) (L:SH)=>∃v2 L2,aE [v] L [v2] L2/\v2=gM (bS c s t)/\L2=[])=Q;have E:bS c s t=none->∀L,Q (.tup [.agg [.YJ 0,.YJ 0,.YJ 0,.YJ 0,.YJ 0,.nils,.nils],.bool false]) L:=λh L=>by subst hQ;exact⟨_,[],aE.all (Fz.tups (.cons (Fz.aggs (m:=bH.zero.enc) (by exact fl)) (.cons (.refl _) .nil))),by rw[h];rfl,rfl⟩
 have D:∀e,bS c s t=some e->∀v L,fi L v e.enc->Q (.tup [.agg v,.bool true]) L:=λe h v L hv=>by subst hQ;exact⟨_,[],aE.all (Fz.tups (.cons (Fz.aggs hv) (.cons (.refl _) .nil))),by rw[h];rfl,rfl⟩
 clear hQ;have hr:=SQ H t;by_cases h0:t<0
 .have d1:decide (t<0)=true:=decide_eq_true h0;have hz:=E (by rw[bS,if_neg];rw[hr];simp[inB];omega);clear D E hs hi H;unfold bU.enc aL.enc at *
  repeat' (first|refine st ?_|(refine pf 124 ?_;refine pm (hf) ?_)|refine sb λM B=>?_|refine s2 (λh=>?_) λh=>?_|fail)
  exact hz _
 have d1:decide (t<0)=false:=decide_eq_false h0;by_cases h1:t>=c.ts.length
 .have d2:decide (t>=(c.ts.length:Int))=true:=decide_eq_true h1;have hz:=E (by rw[bS,if_neg];rw[hr];simp[inB];omega);clear D E hs hi H;unfold bU.enc aL.enc at *
  repeat' (first|refine st ?_|(refine pf 124 ?_;refine pm (hf) ?_)|refine sb λM B=>?_|refine s2 (λh=>?_) λh=>?_|fail)
  exact hz _
 have d2:decide (t>=(c.ts.length:Int))=false:=decide_eq_false h1;have i1:inB t c.ts.length=true:=by simp[inB];omega
 have i2:inB t s.threads.length=true:=by rw[H.nt];exact i1
 have i3:inB t s.sync.threads.length=true:=by rw[H.sy];exact i1
 rw[i1]at hr;obtain⟨j,rfl⟩:=Xg (show 0<=t by omega);obtain⟨pa,pb,pd⟩:=H.pc j YC;have x1:(c.ts.map eG.enc)[((j:Int)).toNat]? =some (au c j).enc:=iC i1;have x2:(s.threads.map aG.enc)[((j:Int)).toNat]? =some (aB s j).enc:=iC i2;have x3:(s.sync.threads.map ThrD.enc)[((j:Int)).toNat]? =some (a7 s.sync j).enc:=iC i3;have ok1:u3 (au c j):=hi _ (fO i1);have O:=hs _ (fO (d:=aG.zero) i2);rw[show s.threads.getD ((j:Int)).toNat aG.zero=aB s j from rfl]at O;have x4:((au c j).ins.map az.enc)[(aB s j).pc.toNat]? =some (bV (au c j) (aB s j).pc).enc:=co pa;obtain⟨o1,o2,o3⟩:=ok1 _ (fO (d:=default) pa);rw[show(au c j).ins.getD (aB s j).pc.toNat default=bV (au c j) (aB s j).pc from rfl]at o1 o2 o3;have hp:bS c s j=(if(a7 s.sync j).status=1 then some ⟨j,1,-1,0,-1,[],[]⟩
  else if(a7 s.sync j).status=4 then some ⟨j,17,(a7 s.sync j).cond,0,(bV (au c j) (aB s j).pc).site,[],[]⟩
  else if(a7 s.sync j).status=2 then(if gF (bV (au c j) (aB s j).pc).op≠0 then some (dM (bV (au c j) (aB s j).pc) (aB s j) j)else none)
  else none):=by rw[bS,if_pos hr]
 rw[hp]at D E;have p0:=(aw.1 pa).1;have ho:=Je (bV (au c j) (aB s j).pc) (aB s j) j o1 o2 (λr hr2=>by have:=o3 r hr2;omega);have G:∀r∈aC (bV (au c j) (aB s j).pc),0<=r/\r<(aB s j).taint.length:=λr hr2=>by have:=o3 r hr2;omega
 clear hp hr hs hi ok1 o3 pa pb pd i1 i2 i3 H;generalize bV (au c j) (aB s j).pc=i at *;generalize au c j=ct at *;generalize aB s j=ts at *;generalize a7 s.sync j=th at *;obtain⟨op,ia,S,Y,m,u⟩:=i;rw[show az.enc ⟨op,ia,S,Y,m,u⟩=[.YJ op,.YJ ia,.YJ S,.YJ Y,.YJ m,.YJ u]from rfl]at *;obtain⟨us,uc,ua⟩:=th;dsimp only at *;have tn:∀r:Int,0<=r/\r<ts.taint.length->(ts.taint.map bP)[r.toNat]? =some [.lst ((ts.tnt r).map ah)]:=λr h=>nX h.1 h.2
 unfold eG.enc aG.enc ThrD.enc bU.enc aL.enc at *;by_cases u1:us=1
 .subst u1;have y:=D _ (if_pos rfl);clear D E ho G tn
  repeat' (first|refine st ?_|(refine pf 124 ?_;refine pm (hf) ?_)|refine sb λM B=>?_|refine s2 (λh=>?_) λh=>?_|fail)
  exact y _ _ (by exact fl)
 by_cases u4:us=4
 .subst u4;have y:=D _ rfl;clear D E ho G tn
  repeat' (first|refine st ?_|(refine pf 124 ?_;refine pm (hf) ?_)|refine sb λM B=>?_|refine s2 (λh=>?_) λh=>?_|fail)
  exact y _ _ (by exact fl)
 have e1:decide (us=1)=false:=decide_eq_false u1;have e4:decide (us=4)=false:=decide_eq_false u4;rw[if_neg u1,if_neg u4]at D E;by_cases u2:us=2
 .subst u2;rw[if_pos rfl]at D E;by_cases h7:op=7
  .subst h7;have hk:ao Tryz.prog 125 [.YJ 7] (.YJ 3):=mQ 7;have Z:∀v L,fi L v [.YJ (j:Int),.YJ 3,.YJ (dM ⟨7,ia,S,Y,m,u⟩ ts j).obj,.YJ 0,.YJ u,.lst ((ts.tnt Y).map ah),.lst []]->Q (.tup [.agg v,.bool true]) L:=D _ (if_pos YG);obtain⟨aic,bic⟩:=G Y (by simp[aC]);have yic:=tn Y ⟨aic,bic⟩;have lic:=O Y;generalize(dM ⟨7,ia,S,Y,m,u⟩ ts j).obj=X at ho Z;clear D E G tn O
   repeat' (first|refine st ?_|(refine pf 124 ?_;refine pm (hf) ?_)|(refine pf 125 ?_;refine pm (hk) ?_)|(refine pf 126 ?_;refine pm (ho) ?_)|refine qn (λ_=>rfl) YC YC (λ_=>rfl) (λe_=>?_) (λM B=>?_)|refine sb λM B=>?_|refine s2 (λh=>?_) λh=>?_|fail)
   all_goals
    refine Z _ _ (.cons (.refl _) (.cons (.refl _) (.cons (.refl _) (.cons (.refl _) (.cons (.refl _) (.cons ?_ (.cons ?_ .nil)))))))
    all_goals first
     |exact .nils
     |exact Fz.sls mm rfl YG rfl
     |(simp only[*];exact .nils)
  by_cases h8:op=8
  .subst h8;have hk:ao Tryz.prog 125 [.YJ 8] (.YJ 4):=mQ 8;have Z:∀v L,fi L v [.YJ (j:Int),.YJ 4,.YJ (dM ⟨8,ia,S,Y,m,u⟩ ts j).obj,.YJ 0,.YJ u,.lst [],.lst ((ts.tnt S).map ah)]->Q (.tup [.agg v,.bool true]) L:=D _ (if_pos YG);obtain⟨aib,bib⟩:=G S (by simp[aC]);have yib:=tn S ⟨aib,bib⟩;have lib:=O S;generalize(dM ⟨8,ia,S,Y,m,u⟩ ts j).obj=X at ho Z;clear D E G tn O
   repeat' (first|refine st ?_|(refine pf 124 ?_;refine pm (hf) ?_)|(refine pf 125 ?_;refine pm (hk) ?_)|(refine pf 126 ?_;refine pm (ho) ?_)|refine qn (λ_=>rfl) YC YC (λ_=>rfl) (λe_=>?_) (λM B=>?_)|refine sb λM B=>?_|refine s2 (λh=>?_) λh=>?_|fail)
   all_goals
    refine Z _ _ (.cons (.refl _) (.cons (.refl _) (.cons (.refl _) (.cons (.refl _) (.cons (.refl _) (.cons ?_ (.cons ?_ .nil)))))))
    all_goals first
     |exact .nils
     |exact Fz.sls mm rfl YG rfl
     |(simp only[*];exact .nils)
  by_cases h9:op=9
  .subst h9;have hk:ao Tryz.prog 125 [.YJ 9] (.YJ 4):=mQ 9;have Z:∀v L,fi L v [.YJ (j:Int),.YJ 4,.YJ (dM ⟨9,ia,S,Y,m,u⟩ ts j).obj,.YJ 0,.YJ u,.lst ((ts.tnt Y).map ah),.lst ((ts.tnt S).map ah)]->Q (.tup [.agg v,.bool true]) L:=D _ (if_pos YG);obtain⟨aic,bic⟩:=G Y (by simp[aC]);have yic:=tn Y ⟨aic,bic⟩;have lic:=O Y;obtain⟨aib,bib⟩:=G S (by simp[aC]);have yib:=tn S ⟨aib,bib⟩;have lib:=O S;generalize(dM ⟨9,ia,S,Y,m,u⟩ ts j).obj=X at ho Z;clear D E G tn O
   repeat' (first|refine st ?_|(refine pf 124 ?_;refine pm (hf) ?_)|(refine pf 125 ?_;refine pm (hk) ?_)|(refine pf 126 ?_;refine pm (ho) ?_)|refine qn (λ_=>rfl) YC YC (λ_=>rfl) (λe_=>?_) (λM B=>?_)|refine sb λM B=>?_|refine s2 (λh=>?_) λh=>?_|fail)
   all_goals
    refine Z _ _ (.cons (.refl _) (.cons (.refl _) (.cons (.refl _) (.cons (.refl _) (.cons (.refl _) (.cons ?_ (.cons ?_ .nil)))))))
    all_goals first
     |exact .nils
     |exact Fz.sls mm rfl YG rfl
     |(simp only[*];exact .nils)
  by_cases h10:op=10
  .subst h10;have hk:ao Tryz.prog 125 [.YJ 10] (.YJ 5):=mQ 10;have Z:∀v L,fi L v [.YJ (j:Int),.YJ 5,.YJ (dM ⟨10,ia,S,Y,m,u⟩ ts j).obj,.YJ 0,.YJ u,.lst ((ts.tnt ia).map ah),.lst []]->Q (.tup [.agg v,.bool true]) L:=D _ (if_pos YG);obtain⟨aia,bia⟩:=G ia (by simp[aC]);have yia:=tn ia ⟨aia,bia⟩;have lia:=O ia;generalize(dM ⟨10,ia,S,Y,m,u⟩ ts j).obj=X at ho Z;clear D E G tn O
   repeat' (first|refine st ?_|(refine pf 124 ?_;refine pm (hf) ?_)|(refine pf 125 ?_;refine pm (hk) ?_)|(refine pf 126 ?_;refine pm (ho) ?_)|refine qn (λ_=>rfl) YC YC (λ_=>rfl) (λe_=>?_) (λM B=>?_)|refine sb λM B=>?_|refine s2 (λh=>?_) λh=>?_|fail)
   all_goals
    refine Z _ _ (.cons (.refl _) (.cons (.refl _) (.cons (.refl _) (.cons (.refl _) (.cons (.refl _) (.cons ?_ (.cons ?_ .nil)))))))
    all_goals first
     |exact .nils
     |exact Fz.sls mm rfl YG rfl
     |(simp only[*];exact .nils)
  by_cases h26:op=26
  .subst h26;have hk:ao Tryz.prog 125 [.YJ 26] (.YJ 22):=mQ 26;have Z:∀v L,fi L v [.YJ (j:Int),.YJ 22,.YJ (dM ⟨26,ia,S,Y,m,u⟩ ts j).obj,.YJ 0,.YJ u,.lst [],.lst ((ts.tnt S).map ah)]->Q (.tup [.agg v,.bool true]) L:=D _ (if_pos YG);obtain⟨aib,bib⟩:=G S (by simp[aC]);have yib:=tn S ⟨aib,bib⟩;have lib:=O S;generalize(dM ⟨26,ia,S,Y,m,u⟩ ts j).obj=X at ho Z;clear D E G tn O
   repeat' (first|refine st ?_|(refine pf 124 ?_;refine pm (hf) ?_)|(refine pf 125 ?_;refine pm (hk) ?_)|(refine pf 126 ?_;refine pm (ho) ?_)|refine qn (λ_=>rfl) YC YC (λ_=>rfl) (λe_=>?_) (λM B=>?_)|refine sb λM B=>?_|refine s2 (λh=>?_) λh=>?_|fail)
   all_goals
    refine Z _ _ (.cons (.refl _) (.cons (.refl _) (.cons (.refl _) (.cons (.refl _) (.cons (.refl _) (.cons ?_ (.cons ?_ .nil)))))))
    all_goals first
     |exact .nils
     |exact Fz.sls mm rfl YG rfl
     |(simp only[*];exact .nils)
  have hk:=mQ op;by_cases h5:op<=5
  .have hz:=E (if_neg (by rw[vr (.inl YC)];simp));rw[vr (.inl YC)]at hk;clear D E G tn O
   repeat' (first|refine st ?_|(refine pf 124 ?_;refine pm (hf) ?_)|(refine pf 125 ?_;refine pm (hk) ?_)|(refine pf 126 ?_;refine pm (ho) ?_)|refine sb λM B=>?_|refine s2 (λh=>?_) λh=>?_|fail)
   exact hz _
  have Z:=D _ (if_pos (by exact Ky YC o2));rw[Jm ⟨h7,h8,h9,h10,h26⟩]at Z;dsimp only at Z;have dk:decide (gF op=0)=false:=decide_eq_false (Ky YC o2);have e7:decide (op=7)=false:=decide_eq_false h7;have e8:decide (op=8)=false:=decide_eq_false h8;have e9:decide (op=9)=false:=decide_eq_false h9;have e10:decide (op=10)=false:=decide_eq_false h10;have e26:decide (op=26)=false:=decide_eq_false h26;generalize(dM ⟨op,ia,S,Y,m,u⟩ ts j).obj=X at ho Z;generalize gF op=K at hk Z dk;clear D E G tn O h5 h7 h8 h9 h10 h26 o1 o2
  repeat' (first|refine st ?_|(refine pf 124 ?_;refine pm (hf) ?_)|(refine pf 125 ?_;refine pm (hk) ?_)|(refine pf 126 ?_;refine pm (ho) ?_)|refine sb λM B=>?_|refine s2 (λh=>?_) λh=>?_|fail)
  exact Z _ _ (.cons (.refl _) (.cons (.refl _) (.cons (.refl _) (.cons (.refl _) (.cons (.refl _) (.cons .nils (.cons .nils .nil)))))))
 .have e2:decide (us=2)=false:=decide_eq_false u2;rw[if_neg u2]at E;have hz:=E rfl;clear D E ho G tn
  repeat' (first|refine st ?_|(refine pf 124 ?_;refine pm (hf) ?_)|refine sb λM B=>?_|refine s2 (λh=>?_) λh=>?_|fail)
  exact hz _
