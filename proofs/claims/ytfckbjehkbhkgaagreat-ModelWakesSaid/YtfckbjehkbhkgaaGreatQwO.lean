/- part -/
import Derived.Test.YtfckbjehkbhkgaaGreatQwr
set_option linter.all false
set_option maxRecDepth 100000
set_option maxHeartbeats 0
namespace Go.Proofs.YtfckbjehkbhkgaaGreat.Am
def Oy{op:Int}(j:6<=op)(h2:op<=28):jv op≠0:=by
 have:∀k:Nat,k<29->6<=k->Bi.getD k 0≠0:=by decide
 unfold jv;exact this op.toNat acN acN
def M3{i:cb}{s:bI}{t:Int}(h:i.op≠7/\i.op≠8/\i.op≠9/\i.op≠10/\i.op≠26):(fN i s t).enc=[.acU t,.acU (jv i.op),.acU (fN i s t).obj,.acU 0,.acU i.site,.lst [],.lst []]:=by
 unfold fN;dsimp only
 repeat' split
 all_goals first
  |rfl
  |(exfalso;omega)
def Ll(c:bP)(s:eE)(t:Int)(hv:aq Tryz.prog 101 [.agg c.enc] (.bool true))(H:Uo c s)(hcn:c.w.conds.length<2^62)(zV:c.ts.length<2^62)(hi:∀x∈c.ts,CM x)(hs:∀x∈s.threads,∀r,(x.tnt r).length*8<=140737488355328):
  aq Tryz.prog 150 [.agg c.enc,.agg s.enc,.acU t] (N0 (eI c s t)):=by
 have hf:=RI c s hv H hcn zV;refine ac.fz (yz _ _ _ _ _ ?_);refine vw ?_;generalize hQ:(λ(v:AV) (L:SH)=>∃v2 L2,ax [v] L [v2] L2/\v2=N0 (eI c s t)/\L2=[])=Q;have E:eI c s t=none->∀L,Q (.tup [.agg [.acU 0,.acU 0,.acU 0,.acU 0,.acU 0,.nils,.nils],.bool false]) L:=λh L=>by subst hQ;exact⟨_,[],ax.all (Fz.tups (.cons (Fz.aggs (m:=bA.zero.enc) (by exact fl)) (.cons (.refl _) .nil))),by rw[h];rfl,rfl⟩
 have D:∀e,eI c s t=some e->∀v L,fy L v e.enc->Q (.tup [.agg v,.bool true]) L:=λe h v L hv=>by subst hQ;exact⟨_,[],ax.all (Fz.tups (.cons (Fz.aggs hv) (.cons (.refl _) .nil))),by rw[h];rfl,rfl⟩
 clear hQ;have hr:=W3 H t;by_cases h0:t<0
 .have d1:decide (t<0)=true:=decide_eq_true h0;have hz:=E (by rw[eI,if_neg];rw[hr];simp[inB];omega);clear D E hs hi H;unfold eE.enc bP.enc at *
  repeat' (first|refine st ?_|(refine pf 172 ?_;refine pm (hf) ?_)|refine sb λM B=>?_|refine s2 (λh=>?_) λh=>?_|fail)
  exact hz _
 have d1:decide (t<0)=false:=decide_eq_false h0;by_cases h1:t>=c.ts.length
 .have d2:decide (t>=(c.ts.length:Int))=true:=decide_eq_true h1;have hz:=E (by rw[eI,if_neg];rw[hr];simp[inB];omega);clear D E hs hi H;unfold eE.enc bP.enc at *
  repeat' (first|refine st ?_|(refine pf 172 ?_;refine pm (hf) ?_)|refine sb λM B=>?_|refine s2 (λh=>?_) λh=>?_|fail)
  exact hz _
 have d2:decide (t>=(c.ts.length:Int))=false:=decide_eq_false h1;have i1:inB t c.ts.length=true:=by simp[inB];omega
 have i2:inB t s.threads.length=true:=by rw[H.nt];exact i1
 have i3:inB t s.sync.threads.length=true:=by rw[H.sy];exact i1
 rw[i1]at hr;obtain⟨j,rfl⟩:=abH (show 0<=t by omega);obtain⟨pa,pb,pd⟩:=H.pc j acN;have x1:(c.ts.map i6.enc)[((j:Int)).toNat]? =some (aE c j).enc:=CN i1;have x2:(s.threads.map bI.enc)[((j:Int)).toNat]? =some (aI s j).enc:=CN i2;have x3:(s.sync.threads.map ThrD.enc)[((j:Int)).toNat]? =some (a8 s.sync j).enc:=CN i3;have ok1:CM (aE c j):=hi _ (j9 i1);have N:=hs _ (j9 (d:=bI.zero) i2);rw[show s.threads.getD ((j:Int)).toNat bI.zero=aI s j from rfl]at N;have x4:((aE c j).ins.map cb.enc)[(aI s j).pc.toNat]? =some (cK (aE c j) (aI s j).pc).enc:=cq pa;obtain⟨o1,o2,o3⟩:=ok1 _ (j9 (d:=default) pa);rw[show(aE c j).ins.getD (aI s j).pc.toNat default=cK (aE c j) (aI s j).pc from rfl]at o1 o2 o3;have hp:eI c s j=(if(a8 s.sync j).status=1 then some ⟨j,1,-1,0,-1,[],[]⟩
  else if(a8 s.sync j).status=4 then some ⟨j,17,(a8 s.sync j).cond,0,(cK (aE c j) (aI s j).pc).site,[],[]⟩
  else if(a8 s.sync j).status=2 then(if jv (cK (aE c j) (aI s j).pc).op≠0 then some (fN (cK (aE c j) (aI s j).pc) (aI s j) j)else none)
  else none):=by rw[eI,if_pos hr]
 rw[hp]at D E;have p0:=(ao.1 pa).1;have ho:=Mt (cK (aE c j) (aI s j).pc) (aI s j) j o1 o2 (λr hr2=>by have:=o3 r hr2;omega);have G:∀r∈bS (cK (aE c j) (aI s j).pc),0<=r/\r<(aI s j).taint.length:=λr hr2=>by have:=o3 r hr2;omega
 clear hp hr hs hi ok1 o3 pa pb pd i1 i2 i3 H;generalize cK (aE c j) (aI s j).pc=i at *;generalize aE c j=ct at *;generalize aI s j=ts at *;generalize a8 s.sync j=th at *;obtain⟨op,Z,O,S,m,u⟩:=i;rw[show cb.enc ⟨op,Z,O,S,m,u⟩=[.acU op,.acU Z,.acU O,.acU S,.acU m,.acU u]from rfl]at *;obtain⟨us,uc,ua⟩:=th;dsimp only at *;have tn:∀r:Int,0<=r/\r<ts.taint.length->(ts.taint.map eX)[r.toNat]? =some [.lst ((ts.tnt r).map aa)]:=λr h=>Rt h.1 h.2
 unfold i6.enc bI.enc ThrD.enc eE.enc bP.enc at *;by_cases u1:us=1
 .subst u1;have y:=D _ (if_pos rfl);clear D E ho G tn
  repeat' (first|refine st ?_|(refine pf 172 ?_;refine pm (hf) ?_)|refine sb λM B=>?_|refine s2 (λh=>?_) λh=>?_|fail)
  exact y _ _ (by exact fl)
 by_cases u4:us=4
 .subst u4;have y:=D _ rfl;clear D E ho G tn
  repeat' (first|refine st ?_|(refine pf 172 ?_;refine pm (hf) ?_)|refine sb λM B=>?_|refine s2 (λh=>?_) λh=>?_|fail)
  exact y _ _ (by exact fl)
 have e1:decide (us=1)=false:=decide_eq_false u1;have e4:decide (us=4)=false:=decide_eq_false u4;rw[if_neg u1,if_neg u4]at D E;by_cases u2:us=2
 .subst u2;rw[if_pos rfl]at D E;by_cases h7:op=7
  .subst h7;have hk:aq Tryz.prog 173 [.acU 7] (.acU 3):=nE 7;have Y:∀v L,fy L v [.acU (j:Int),.acU 3,.acU (fN ⟨7,Z,O,S,m,u⟩ ts j).obj,.acU 0,.acU u,.lst ((ts.tnt S).map aa),.lst []]->Q (.tup [.agg v,.bool true]) L:=D _ (if_pos acR);obtain⟨aic,bic⟩:=G S (by simp[bS]);have yic:=tn S ⟨aic,bic⟩;have lic:=N S;generalize(fN ⟨7,Z,O,S,m,u⟩ ts j).obj=X at ho Y;clear D E G tn N
   repeat' (first|refine st ?_|(refine pf 172 ?_;refine pm (hf) ?_)|(refine pf 173 ?_;refine pm (hk) ?_)|(refine pf 174 ?_;refine pm (ho) ?_)|refine qX (λ_=>rfl) acN acN (λ_=>rfl) (λe_=>?_) (λM B=>?_)|refine sb λM B=>?_|refine s2 (λh=>?_) λh=>?_|fail)
   all_goals
    refine Y _ _ (.cons (.refl _) (.cons (.refl _) (.cons (.refl _) (.cons (.refl _) (.cons (.refl _) (.cons ?_ (.cons ?_ .nil)))))))
    all_goals first
     |exact .nils
     |exact Fz.sls mm rfl acR rfl
     |(simp only[*];exact .nils)
  by_cases h8:op=8
  .subst h8;have hk:aq Tryz.prog 173 [.acU 8] (.acU 4):=nE 8;have Y:∀v L,fy L v [.acU (j:Int),.acU 4,.acU (fN ⟨8,Z,O,S,m,u⟩ ts j).obj,.acU 0,.acU u,.lst [],.lst ((ts.tnt O).map aa)]->Q (.tup [.agg v,.bool true]) L:=D _ (if_pos acR);obtain⟨aib,bib⟩:=G O (by simp[bS]);have yib:=tn O ⟨aib,bib⟩;have lib:=N O;generalize(fN ⟨8,Z,O,S,m,u⟩ ts j).obj=X at ho Y;clear D E G tn N
   repeat' (first|refine st ?_|(refine pf 172 ?_;refine pm (hf) ?_)|(refine pf 173 ?_;refine pm (hk) ?_)|(refine pf 174 ?_;refine pm (ho) ?_)|refine qX (λ_=>rfl) acN acN (λ_=>rfl) (λe_=>?_) (λM B=>?_)|refine sb λM B=>?_|refine s2 (λh=>?_) λh=>?_|fail)
   all_goals
    refine Y _ _ (.cons (.refl _) (.cons (.refl _) (.cons (.refl _) (.cons (.refl _) (.cons (.refl _) (.cons ?_ (.cons ?_ .nil)))))))
    all_goals first
     |exact .nils
     |exact Fz.sls mm rfl acR rfl
     |(simp only[*];exact .nils)
  by_cases h9:op=9
  .subst h9;have hk:aq Tryz.prog 173 [.acU 9] (.acU 4):=nE 9;have Y:∀v L,fy L v [.acU (j:Int),.acU 4,.acU (fN ⟨9,Z,O,S,m,u⟩ ts j).obj,.acU 0,.acU u,.lst ((ts.tnt S).map aa),.lst ((ts.tnt O).map aa)]->Q (.tup [.agg v,.bool true]) L:=D _ (if_pos acR);obtain⟨aic,bic⟩:=G S (by simp[bS]);have yic:=tn S ⟨aic,bic⟩;have lic:=N S;obtain⟨aib,bib⟩:=G O (by simp[bS]);have yib:=tn O ⟨aib,bib⟩;have lib:=N O;generalize(fN ⟨9,Z,O,S,m,u⟩ ts j).obj=X at ho Y;clear D E G tn N
   repeat' (first|refine st ?_|(refine pf 172 ?_;refine pm (hf) ?_)|(refine pf 173 ?_;refine pm (hk) ?_)|(refine pf 174 ?_;refine pm (ho) ?_)|refine qX (λ_=>rfl) acN acN (λ_=>rfl) (λe_=>?_) (λM B=>?_)|refine sb λM B=>?_|refine s2 (λh=>?_) λh=>?_|fail)
   all_goals
    refine Y _ _ (.cons (.refl _) (.cons (.refl _) (.cons (.refl _) (.cons (.refl _) (.cons (.refl _) (.cons ?_ (.cons ?_ .nil)))))))
    all_goals first
     |exact .nils
     |exact Fz.sls mm rfl acR rfl
     |(simp only[*];exact .nils)
  by_cases h10:op=10
  .subst h10;have hk:aq Tryz.prog 173 [.acU 10] (.acU 5):=nE 10;have Y:∀v L,fy L v [.acU (j:Int),.acU 5,.acU (fN ⟨10,Z,O,S,m,u⟩ ts j).obj,.acU 0,.acU u,.lst ((ts.tnt Z).map aa),.lst []]->Q (.tup [.agg v,.bool true]) L:=D _ (if_pos acR);obtain⟨aia,bia⟩:=G Z (by simp[bS]);have yia:=tn Z ⟨aia,bia⟩;have lia:=N Z;generalize(fN ⟨10,Z,O,S,m,u⟩ ts j).obj=X at ho Y;clear D E G tn N
   repeat' (first|refine st ?_|(refine pf 172 ?_;refine pm (hf) ?_)|(refine pf 173 ?_;refine pm (hk) ?_)|(refine pf 174 ?_;refine pm (ho) ?_)|refine qX (λ_=>rfl) acN acN (λ_=>rfl) (λe_=>?_) (λM B=>?_)|refine sb λM B=>?_|refine s2 (λh=>?_) λh=>?_|fail)
   all_goals
    refine Y _ _ (.cons (.refl _) (.cons (.refl _) (.cons (.refl _) (.cons (.refl _) (.cons (.refl _) (.cons ?_ (.cons ?_ .nil)))))))
    all_goals first
     |exact .nils
     |exact Fz.sls mm rfl acR rfl
     |(simp only[*];exact .nils)
  by_cases h26:op=26
  .subst h26;have hk:aq Tryz.prog 173 [.acU 26] (.acU 22):=nE 26;have Y:∀v L,fy L v [.acU (j:Int),.acU 22,.acU (fN ⟨26,Z,O,S,m,u⟩ ts j).obj,.acU 0,.acU u,.lst [],.lst ((ts.tnt O).map aa)]->Q (.tup [.agg v,.bool true]) L:=D _ (if_pos acR);obtain⟨aib,bib⟩:=G O (by simp[bS]);have yib:=tn O ⟨aib,bib⟩;have lib:=N O;generalize(fN ⟨26,Z,O,S,m,u⟩ ts j).obj=X at ho Y;clear D E G tn N
   repeat' (first|refine st ?_|(refine pf 172 ?_;refine pm (hf) ?_)|(refine pf 173 ?_;refine pm (hk) ?_)|(refine pf 174 ?_;refine pm (ho) ?_)|refine qX (λ_=>rfl) acN acN (λ_=>rfl) (λe_=>?_) (λM B=>?_)|refine sb λM B=>?_|refine s2 (λh=>?_) λh=>?_|fail)
   all_goals
    refine Y _ _ (.cons (.refl _) (.cons (.refl _) (.cons (.refl _) (.cons (.refl _) (.cons (.refl _) (.cons ?_ (.cons ?_ .nil)))))))
    all_goals first
     |exact .nils
     |exact Fz.sls mm rfl acR rfl
     |(simp only[*];exact .nils)
  have hk:=nE op;by_cases h5:op<=5
  .have hz:=E (if_neg (by rw[wT (.inl acN)];simp));rw[wT (.inl acN)]at hk;clear D E G tn N
   repeat' (first|refine st ?_|(refine pf 172 ?_;refine pm (hf) ?_)|(refine pf 173 ?_;refine pm (hk) ?_)|(refine pf 174 ?_;refine pm (ho) ?_)|refine sb λM B=>?_|refine s2 (λh=>?_) λh=>?_|fail)
   exact hz _
  have Y:=D _ (if_pos (by exact Oy acN o2));rw[M3 ⟨h7,h8,h9,h10,h26⟩]at Y;dsimp only at Y;have dk:decide (jv op=0)=false:=decide_eq_false (Oy acN o2);have e7:decide (op=7)=false:=decide_eq_false h7;have e8:decide (op=8)=false:=decide_eq_false h8;have e9:decide (op=9)=false:=decide_eq_false h9;have e10:decide (op=10)=false:=decide_eq_false h10;have e26:decide (op=26)=false:=decide_eq_false h26;generalize(fN ⟨op,Z,O,S,m,u⟩ ts j).obj=X at ho Y;generalize jv op=K at hk Y dk;clear D E G tn N h5 h7 h8 h9 h10 h26 o1 o2
  repeat' (first|refine st ?_|(refine pf 172 ?_;refine pm (hf) ?_)|(refine pf 173 ?_;refine pm (hk) ?_)|(refine pf 174 ?_;refine pm (ho) ?_)|refine sb λM B=>?_|refine s2 (λh=>?_) λh=>?_|fail)
  exact Y _ _ (.cons (.refl _) (.cons (.refl _) (.cons (.refl _) (.cons (.refl _) (.cons (.refl _) (.cons .nils (.cons .nils .nil)))))))
 .have e2:decide (us=2)=false:=decide_eq_false u2;rw[if_neg u2]at E;have hz:=E rfl;clear D E ho G tn
  repeat' (first|refine st ?_|(refine pf 172 ?_;refine pm (hf) ?_)|refine sb λM B=>?_|refine s2 (λh=>?_) λh=>?_|fail)
  exact hz _
