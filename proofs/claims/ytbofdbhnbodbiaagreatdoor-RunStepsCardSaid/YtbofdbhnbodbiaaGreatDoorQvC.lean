/- A part of the proof; the statement is proved in the last part. -/
import Derived.Test.YtbofdbhnbodbiaaGreatDoorQvB
set_option linter.all false
set_option maxRecDepth 100000
set_option maxHeartbeats 20000000
namespace Go.Proofs.YtbofdbhnbodbiaaGreatDoor.Am
def Hg{op:Int}(j:6<=op)(h2:op<=28):eU op≠0:=by
 have:∀k:Nat,k<29->6<=k->gD.getD k 0≠0:=by decide
 unfold eU;exact this op.toNat Ua Ua
def Gb{i:aS}{s:aC}{t:Int}(h:i.op≠7/\i.op≠8/\i.op≠9/\i.op≠10/\i.op≠26):(cQ i s t).enc=[.Uf t,.Uf (eU i.op),.Uf (cQ i s t).obj,.Uf 0,.Uf i.site,.lst [],.lst []]:=by
 unfold cQ;dsimp only
 repeat' split
 all_goals first
  |rfl
  |(exfalso;omega)
def vL(c:aZ)(s:cm)(t:Int)(hv:aq Tryz.prog 29 [.agg c.enc] (.bool true))(H:Ml c s)(hcn:c.w.conds.length<2^62)(vS:c.ts.length<2^62)(hi:∀x∈c.ts,sM x)(hs:∀x∈s.threads,∀r,(x.tnt r).length*8<=140737488355328):
  aq Tryz.prog 17 [.agg c.enc,.agg s.enc,.Uf t] (eD (bL c s t)):=by
 have hf:=KA c s hv H hcn vS;refine ac.fz (lf _ _ _ _ _ ?_);refine vw ?_;generalize hQ:(λ(v:AV) (L:SH)=>∃v2 L2,az [v] L [v2] L2/\v2=eD (bL c s t)/\L2=[])=Q;have E:bL c s t=none->∀L,Q (.tup [.agg [.Uf 0,.Uf 0,.Uf 0,.Uf 0,.Uf 0,.nils,.nils],.bool false]) L:=λh L=>by subst hQ;exact⟨_,[],az.all (Fz.tups (.cons (Fz.aggs (m:=da.zero.enc) (by exact fl)) (.cons (.refl _) .nil))),by rw[h];rfl,rfl⟩
 have D:∀e,bL c s t=some e->∀v L,fU L v e.enc->Q (.tup [.agg v,.bool true]) L:=λe h v L hv=>by subst hQ;exact⟨_,[],az.all (Fz.tups (.cons (Fz.aggs hv) (.cons (.refl _) .nil))),by rw[h];rfl,rfl⟩
 clear hQ;have hr:=OF H t;by_cases h0:t<0
 .have d1:decide (t<0)=true:=decide_eq_true h0;have hz:=E (by rw[bL,if_neg];rw[hr];simp[inB];omega);clear D E hs hi H;unfold cm.enc aZ.enc at *
  repeat' (first|refine st ?_|(refine pf 39 ?_;refine pm (hf) ?_)|refine sb λM B=>?_|refine s2 (λh=>?_) λh=>?_|fail)
  exact hz _
 have d1:decide (t<0)=false:=decide_eq_false h0;by_cases h1:t>=c.ts.length
 .have d2:decide (t>=(c.ts.length:Int))=true:=decide_eq_true h1;have hz:=E (by rw[bL,if_neg];rw[hr];simp[inB];omega);clear D E hs hi H;unfold cm.enc aZ.enc at *
  repeat' (first|refine st ?_|(refine pf 39 ?_;refine pm (hf) ?_)|refine sb λM B=>?_|refine s2 (λh=>?_) λh=>?_|fail)
  exact hz _
 have d2:decide (t>=(c.ts.length:Int))=false:=decide_eq_false h1;have i1:inB t c.ts.length=true:=by simp[inB];omega
 have i2:inB t s.threads.length=true:=by rw[H.nt];exact i1
 have i3:inB t s.sync.threads.length=true:=by rw[H.sy];exact i1
 rw[i1]at hr;obtain⟨j,rfl⟩:=SZ (show 0<=t by omega);obtain⟨pa,pb,pd⟩:=H.pc j Ua;have x1:(c.ts.map eb.enc)[((j:Int)).toNat]? =some (am c j).enc:=gk i1;have x2:(s.threads.map aC.enc)[((j:Int)).toNat]? =some (ay s j).enc:=gk i2;have x3:(s.sync.threads.map ThrD.enc)[((j:Int)).toNat]? =some (aR s.sync j).enc:=gk i3;have ok1:sM (am c j):=hi _ (eE i1);have N:=hs _ (eE (d:=aC.zero) i2);rw[show s.threads.getD ((j:Int)).toNat aC.zero=ay s j from rfl]at N;have x4:((am c j).ins.map aS.enc)[(ay s j).pc.toNat]? =some (bH (am c j) (ay s j).pc).enc:=bQ pa;obtain⟨o1,o2,o3⟩:=ok1 _ (eE (d:=default) pa);rw[show(am c j).ins.getD (ay s j).pc.toNat default=bH (am c j) (ay s j).pc from rfl]at o1 o2 o3;have hp:bL c s j=(if(aR s.sync j).status=1 then some ⟨j,1,-1,0,-1,[],[]⟩
  else if(aR s.sync j).status=4 then some ⟨j,17,(aR s.sync j).cond,0,(bH (am c j) (ay s j).pc).site,[],[]⟩
  else if(aR s.sync j).status=2 then(if eU (bH (am c j) (ay s j).pc).op≠0 then some (cQ (bH (am c j) (ay s j).pc) (ay s j) j)else none)
  else none):=by rw[bL,if_pos hr]
 rw[hp]at D E;have p0:=(av.1 pa).1;have ho:=F8 (bH (am c j) (ay s j).pc) (ay s j) j o1 o2 (λr hr2=>by have:=o3 r hr2;omega);have G:∀r∈aN (bH (am c j) (ay s j).pc),0<=r/\r<(ay s j).taint.length:=λr hr2=>by have:=o3 r hr2;omega
 clear hp hr hs hi ok1 o3 pa pb pd i1 i2 i3 H;generalize bH (am c j) (ay s j).pc=i at *;generalize am c j=ct at *;generalize ay s j=ts at *;generalize aR s.sync j=th at *;obtain⟨op,Z,O,S,m,u⟩:=i;rw[show aS.enc ⟨op,Z,O,S,m,u⟩=[.Uf op,.Uf Z,.Uf O,.Uf S,.Uf m,.Uf u]from rfl]at *;obtain⟨us,uc,ua⟩:=th;dsimp only at *;have tn:∀r:Int,0<=r/\r<ts.taint.length->(ts.taint.map bz)[r.toNat]? =some [.lst ((ts.tnt r).map ah)]:=λr h=>l5 h.1 h.2
 unfold eb.enc aC.enc ThrD.enc cm.enc aZ.enc at *;by_cases u1:us=1
 .subst u1;have y:=D _ (if_pos rfl);clear D E ho G tn
  repeat' (first|refine st ?_|(refine pf 39 ?_;refine pm (hf) ?_)|refine sb λM B=>?_|refine s2 (λh=>?_) λh=>?_|fail)
  exact y _ _ (by exact fl)
 by_cases u4:us=4
 .subst u4;have y:=D _ rfl;clear D E ho G tn
  repeat' (first|refine st ?_|(refine pf 39 ?_;refine pm (hf) ?_)|refine sb λM B=>?_|refine s2 (λh=>?_) λh=>?_|fail)
  exact y _ _ (by exact fl)
 have e1:decide (us=1)=false:=decide_eq_false u1;have e4:decide (us=4)=false:=decide_eq_false u4;rw[if_neg u1,if_neg u4]at D E;by_cases u2:us=2
 .subst u2;rw[if_pos rfl]at D E;by_cases h7:op=7
  .subst h7;have hk:aq Tryz.prog 40 [.Uf 7] (.Uf 3):=lq 7;have Y:∀v L,fU L v [.Uf (j:Int),.Uf 3,.Uf (cQ ⟨7,Z,O,S,m,u⟩ ts j).obj,.Uf 0,.Uf u,.lst ((ts.tnt S).map ah),.lst []]->Q (.tup [.agg v,.bool true]) L:=D _ (if_pos Ue);obtain⟨aic,bic⟩:=G S (by simp[aN]);have yic:=tn S ⟨aic,bic⟩;have lic:=N S;generalize(cQ ⟨7,Z,O,S,m,u⟩ ts j).obj=X at ho Y;clear D E G tn N
   repeat' (first|refine st ?_|(refine pf 39 ?_;refine pm (hf) ?_)|(refine pf 40 ?_;refine pm (hk) ?_)|(refine pf 41 ?_;refine pm (ho) ?_)|refine oH (λ_=>rfl) Ua Ua (λ_=>rfl) (λe_=>?_) (λM B=>?_)|refine sb λM B=>?_|refine s2 (λh=>?_) λh=>?_|fail)
   all_goals
    refine Y _ _ (.cons (.refl _) (.cons (.refl _) (.cons (.refl _) (.cons (.refl _) (.cons (.refl _) (.cons ?_ (.cons ?_ .nil)))))))
    all_goals first
     |exact .nils
     |exact Fz.sls mm rfl Ue rfl
     |(simp only[*];exact .nils)
  by_cases h8:op=8
  .subst h8;have hk:aq Tryz.prog 40 [.Uf 8] (.Uf 4):=lq 8;have Y:∀v L,fU L v [.Uf (j:Int),.Uf 4,.Uf (cQ ⟨8,Z,O,S,m,u⟩ ts j).obj,.Uf 0,.Uf u,.lst [],.lst ((ts.tnt O).map ah)]->Q (.tup [.agg v,.bool true]) L:=D _ (if_pos Ue);obtain⟨aib,bib⟩:=G O (by simp[aN]);have yib:=tn O ⟨aib,bib⟩;have lib:=N O;generalize(cQ ⟨8,Z,O,S,m,u⟩ ts j).obj=X at ho Y;clear D E G tn N
   repeat' (first|refine st ?_|(refine pf 39 ?_;refine pm (hf) ?_)|(refine pf 40 ?_;refine pm (hk) ?_)|(refine pf 41 ?_;refine pm (ho) ?_)|refine oH (λ_=>rfl) Ua Ua (λ_=>rfl) (λe_=>?_) (λM B=>?_)|refine sb λM B=>?_|refine s2 (λh=>?_) λh=>?_|fail)
   all_goals
    refine Y _ _ (.cons (.refl _) (.cons (.refl _) (.cons (.refl _) (.cons (.refl _) (.cons (.refl _) (.cons ?_ (.cons ?_ .nil)))))))
    all_goals first
     |exact .nils
     |exact Fz.sls mm rfl Ue rfl
     |(simp only[*];exact .nils)
  by_cases h9:op=9
  .subst h9;have hk:aq Tryz.prog 40 [.Uf 9] (.Uf 4):=lq 9;have Y:∀v L,fU L v [.Uf (j:Int),.Uf 4,.Uf (cQ ⟨9,Z,O,S,m,u⟩ ts j).obj,.Uf 0,.Uf u,.lst ((ts.tnt S).map ah),.lst ((ts.tnt O).map ah)]->Q (.tup [.agg v,.bool true]) L:=D _ (if_pos Ue);obtain⟨aic,bic⟩:=G S (by simp[aN]);have yic:=tn S ⟨aic,bic⟩;have lic:=N S;obtain⟨aib,bib⟩:=G O (by simp[aN]);have yib:=tn O ⟨aib,bib⟩;have lib:=N O;generalize(cQ ⟨9,Z,O,S,m,u⟩ ts j).obj=X at ho Y;clear D E G tn N
   repeat' (first|refine st ?_|(refine pf 39 ?_;refine pm (hf) ?_)|(refine pf 40 ?_;refine pm (hk) ?_)|(refine pf 41 ?_;refine pm (ho) ?_)|refine oH (λ_=>rfl) Ua Ua (λ_=>rfl) (λe_=>?_) (λM B=>?_)|refine sb λM B=>?_|refine s2 (λh=>?_) λh=>?_|fail)
   all_goals
    refine Y _ _ (.cons (.refl _) (.cons (.refl _) (.cons (.refl _) (.cons (.refl _) (.cons (.refl _) (.cons ?_ (.cons ?_ .nil)))))))
    all_goals first
     |exact .nils
     |exact Fz.sls mm rfl Ue rfl
     |(simp only[*];exact .nils)
  by_cases h10:op=10
  .subst h10;have hk:aq Tryz.prog 40 [.Uf 10] (.Uf 5):=lq 10;have Y:∀v L,fU L v [.Uf (j:Int),.Uf 5,.Uf (cQ ⟨10,Z,O,S,m,u⟩ ts j).obj,.Uf 0,.Uf u,.lst ((ts.tnt Z).map ah),.lst []]->Q (.tup [.agg v,.bool true]) L:=D _ (if_pos Ue);obtain⟨aia,bia⟩:=G Z (by simp[aN]);have yia:=tn Z ⟨aia,bia⟩;have lia:=N Z;generalize(cQ ⟨10,Z,O,S,m,u⟩ ts j).obj=X at ho Y;clear D E G tn N
   repeat' (first|refine st ?_|(refine pf 39 ?_;refine pm (hf) ?_)|(refine pf 40 ?_;refine pm (hk) ?_)|(refine pf 41 ?_;refine pm (ho) ?_)|refine oH (λ_=>rfl) Ua Ua (λ_=>rfl) (λe_=>?_) (λM B=>?_)|refine sb λM B=>?_|refine s2 (λh=>?_) λh=>?_|fail)
   all_goals
    refine Y _ _ (.cons (.refl _) (.cons (.refl _) (.cons (.refl _) (.cons (.refl _) (.cons (.refl _) (.cons ?_ (.cons ?_ .nil)))))))
    all_goals first
     |exact .nils
     |exact Fz.sls mm rfl Ue rfl
     |(simp only[*];exact .nils)
  by_cases h26:op=26
  .subst h26;have hk:aq Tryz.prog 40 [.Uf 26] (.Uf 22):=lq 26;have Y:∀v L,fU L v [.Uf (j:Int),.Uf 22,.Uf (cQ ⟨26,Z,O,S,m,u⟩ ts j).obj,.Uf 0,.Uf u,.lst [],.lst ((ts.tnt O).map ah)]->Q (.tup [.agg v,.bool true]) L:=D _ (if_pos Ue);obtain⟨aib,bib⟩:=G O (by simp[aN]);have yib:=tn O ⟨aib,bib⟩;have lib:=N O;generalize(cQ ⟨26,Z,O,S,m,u⟩ ts j).obj=X at ho Y;clear D E G tn N
   repeat' (first|refine st ?_|(refine pf 39 ?_;refine pm (hf) ?_)|(refine pf 40 ?_;refine pm (hk) ?_)|(refine pf 41 ?_;refine pm (ho) ?_)|refine oH (λ_=>rfl) Ua Ua (λ_=>rfl) (λe_=>?_) (λM B=>?_)|refine sb λM B=>?_|refine s2 (λh=>?_) λh=>?_|fail)
   all_goals
    refine Y _ _ (.cons (.refl _) (.cons (.refl _) (.cons (.refl _) (.cons (.refl _) (.cons (.refl _) (.cons ?_ (.cons ?_ .nil)))))))
    all_goals first
     |exact .nils
     |exact Fz.sls mm rfl Ue rfl
     |(simp only[*];exact .nils)
  have hk:=lq op;by_cases h5:op<=5
  .have hz:=E (if_neg (by rw[s9 (.inl Ua)];simp));rw[s9 (.inl Ua)]at hk;clear D E G tn N
   repeat' (first|refine st ?_|(refine pf 39 ?_;refine pm (hf) ?_)|(refine pf 40 ?_;refine pm (hk) ?_)|(refine pf 41 ?_;refine pm (ho) ?_)|refine sb λM B=>?_|refine s2 (λh=>?_) λh=>?_|fail)
   exact hz _
  have Y:=D _ (if_pos (by exact Hg Ua o2));rw[Gb ⟨h7,h8,h9,h10,h26⟩]at Y;dsimp only at Y;have dk:decide (eU op=0)=false:=decide_eq_false (Hg Ua o2);have e7:decide (op=7)=false:=decide_eq_false h7;have e8:decide (op=8)=false:=decide_eq_false h8;have e9:decide (op=9)=false:=decide_eq_false h9;have e10:decide (op=10)=false:=decide_eq_false h10;have e26:decide (op=26)=false:=decide_eq_false h26;generalize(cQ ⟨op,Z,O,S,m,u⟩ ts j).obj=X at ho Y;generalize eU op=K at hk Y dk;clear D E G tn N h5 h7 h8 h9 h10 h26 o1 o2
  repeat' (first|refine st ?_|(refine pf 39 ?_;refine pm (hf) ?_)|(refine pf 40 ?_;refine pm (hk) ?_)|(refine pf 41 ?_;refine pm (ho) ?_)|refine sb λM B=>?_|refine s2 (λh=>?_) λh=>?_|fail)
  exact Y _ _ (.cons (.refl _) (.cons (.refl _) (.cons (.refl _) (.cons (.refl _) (.cons (.refl _) (.cons .nils (.cons .nils .nil)))))))
 .have e2:decide (us=2)=false:=decide_eq_false u2;rw[if_neg u2]at E;have hz:=E rfl;clear D E ho G tn
  repeat' (first|refine st ?_|(refine pf 39 ?_;refine pm (hf) ?_)|refine sb λM B=>?_|refine s2 (λh=>?_) λh=>?_|fail)
  exact hz _
end Go.Proofs.YtbofdbhnbodbiaaGreatDoor.Am
