/- A part of the proof; the statement is proved in the last part. -/
import Derived.Test.YtdnpdghlggbklaaGreatDoorQtm
set_option linter.unusedSimpArgs false
set_option linter.unusedVariables false
namespace Go.Proofs.YtdnpdghlggbklaaGreatDoor.Am
section
set_option maxRecDepth 100000
set_option maxHeartbeats 1000000
set_option linter.unusedSimpArgs false
theorem Qf:Rq 1=.pptr [oU.map .str] 0 0:=rfl
theorem UH{i:Nat}(h:i<oU.length):W0.rowLd false 1 (oU.map .str) ((i:Int).toNat*1)=some (.str oU[i]):=by unfold W0.rowLd;simp[h]
theorem Tj(s:bC):az Tryz.prog 128 [.str s] (.bool (IA s)):=by
 refine um _ _ _ ?_;unfold kZ;rw[Qf];have hk:IA s=oU.any λx=>decide (s=x):=by simp only[IA,eq_comm]
 repeat' (first|refine st ?_|refine sb λnb_ hnb_=>?_|refine s2 (λh=>?_) λh=>?_|fail)
 refine fH oU (λx=>decide (s=x)) (λi=>[.str s,.agg (oU.map .str),.ZO i]) ZN rfl (λi h1 hd hi hno nx hn=>?_) (λi h1 hd hno nx=>?_)
 all_goals unfold jS
 ·have hx:=UH h1;have hd2:decide ((i:Int)<22)=true:=hd;have h22:(i:Int).toNat<22:=h1
  repeat' (first|refine st ?_|refine V4 (Int.natCast_nonneg _) h22 hx ?_|refine sb λnb_ hnb_=>?_|refine s2 (λh=>?_) λh=>?_|fail)
  ·exact⟨by rw[hk,MY h1 h],rfl⟩
  ·exact hn h
 ·have hd2:decide ((i:Int)<22)=false:=hd
  repeat' (first|refine st ?_|refine sb λnb_ hnb_=>?_|refine s2 (λh=>?_) λh=>?_|fail)
  exact⟨by rw[hk,PB hno],rfl⟩
theorem WH{s:bC}{i:Nat}(h:i<s.length):(⟨s.toArray⟩:ByteArray).get! i=s[i]:=by show s.toArray[i]! =s[i];simp[h]
theorem WI{s:bC}{i:Nat}(h:i<s.length):∃c wd,Utf8.decode ⟨s.toArray⟩ i=(c,wd)∧((c=s[i].toNat∧wd=1∧c<128)∨(128≤c∧128≤s[i].toNat)):=by
 refine⟨(Utf8.decode ⟨s.toArray⟩ i).1,(Utf8.decode ⟨s.toArray⟩ i).2,rfl,?_⟩;unfold Utf8.decode;simp only[Zy,WH h];by_cases hb:s[i].toNat<128
 ·rw[if_pos hb];exact .inl ⟨rfl,rfl,hb⟩
 ·rw[if_neg hb];refine .inr ⟨?_,ZJ⟩;have h0:128≤Utf8.runeError:=by decide
  repeat' split
  all_goals first
   |exact h0
   |(simp only[ge_iff_le,Yl,decide_eq_true_eq]at *;omega)
theorem Nc(s:bC):az Tryz.prog 102 [.str s] (.bool (eE s)):=by
 refine af.fz (DA _ _ _ ?_);unfold qS;generalize hQ:(λ(v:AV) (L:SH)=>∃v2 L2,aG [v] L [v2] L2∧v2=AV.bool (eE s)∧L2=[])=Q;have hq:∀b L,eE s=b→Q (.bool b) L:=λb L h=>by subst hQ;exact⟨_,[],aG.all (.refl _),by rw[h],rfl⟩
 clear hQ;by_cases h0:1≤s.length∧s.length≤12∧IA s=false
 ·obtain⟨h1,h12,hk⟩:=h0;have hkk:=Tj s;rw[hk]at hkk;have d1:decide ((s.length:Int)<1)=false:=decide_eq_false ZJ;have d2:decide ((s.length:Int) > 12)=false:=decide_eq_false ZJ;have hno:∀i (h:i<s.length),¬(ii s[i].toNat=true∧(i=0→gA s[i].toNat=true))→eE s=false:=λi h hb=>by
   cases hn:eE s with
   |false=>rfl
   |true=>exfalso;unfold eE at hn;simp only[Yl,Yo]at hn;refine hb ⟨hn.2 _ (Yr h),λe=>?_⟩;subst e;have:=hn.1.1.2;simpa[List.getD,h]using this
  repeat' (first|refine st ?_|(refine pf 128 ?_;refine pm (hkk) ?_)|refine UB (λnb_ hnb_=>?_)|refine sb λnb_ hnb_=>?_|refine s2 (λh=>?_) λh=>?_|fail)
  refine EZ (λi:Nat=>([.it nb_],[(nb_,⟨0,[[.str s,.ZO (i:Int)]]⟩)])) (λi=>s.length-i) (λi=>i≤s.length∧∀j (h:j<s.length),j<i→ii s[j].toNat=true∧(j=0→gA s[j].toNat=true)) 0 ⟨Nat.zero_le _,λj h h2=>absurd h2 (Nat.not_lt_zero _)⟩ rfl rfl (λi hG nx hn=>?_);obtain⟨hi,hG⟩:=hG;unfold oW;dsimp only;rcases Nat.lt_or_ge i s.length with h|h
  ·obtain⟨c,wd,hd,hc⟩:=WI h;replace hno:=hno i h;have hgo:ii s[i].toNat=true∧(i=0→gA s[i].toNat=true)→nx [.it nb_] [(nb_,⟨0,[[.str s,.ZO ((i+1:Nat):Int)]]⟩)]:=λhb=>hn (i+1) ⟨h,λj hj hji=>by
    rcases X9 j i with g|g
    ·exact hG j hj g
    ·have e:j=i:=by omega
     subst e;exact hb⟩ ZJ
   clear hn hG
   repeat' (first|refine st ?_|refine sb λnb_ hnb_=>?_|refine s2 (λh=>?_) λh=>?_|fail)
   refine WE (.head _) h (.here _) ?_;simp only[hd];clear hd;rcases hc with⟨rfl,rfl,hc⟩|⟨hc,hb⟩
   ·generalize s[i].toNat=x at *
    repeat' (first|refine st ?_|refine sb λnb_ hnb_=>?_|refine s2 (λh=>?_) λh=>?_|fail)
    all_goals first
     |(refine hgo ?_;clear hgo hno hq;simp only[ii,gA,Br,ZD,Yl,decide_eq_true_eq,decide_eq_false_iff_not]at *;omega)
     |(refine hq _ _ (hno ?_);clear hgo hno hq;simp only[ii,gA,Br,ZD,Yl,decide_eq_true_eq,decide_eq_false_iff_not]at *;omega)
   ·generalize s[i].toNat=x at *;have e1:decide ((c:Int)≤122)=false:=decide_eq_false ZJ;have e2:decide ((c:Int)≤90)=false:=decide_eq_false ZJ;have e3:decide ((c:Int)≤57)=false:=decide_eq_false ZJ;have e4:decide ((c:Int)=95)=false:=decide_eq_false ZJ
    repeat' (first|refine st ?_|refine sb λnb_ hnb_=>?_|refine s2 (λh=>?_) λh=>?_|fail)
    all_goals first
     |(refine hq _ _ (hno ?_);clear hgo hno hq;simp only[ii,gA,Br,ZD,Yl,decide_eq_true_eq,decide_eq_false_iff_not]at *;omega)
  ·repeat' (first|refine st ?_|refine sb λnb_ hnb_=>?_|refine s2 (λh=>?_) λh=>?_|fail)
   refine NZ (.head _) ZJ ?_
   repeat' (first|refine st ?_|refine sb λnb_ hnb_=>?_|refine s2 (λh=>?_) λh=>?_|fail)
   refine hq _ _ ?_;unfold eE;have e1:(s.all λc=>ii c.toNat)=true:=Yo.2 λx hx=>by obtain⟨j,hj,rfl⟩:=Zc hx;exact(hG j hj ZJ).1
   have e2:gA ((s.getD 0 0).toNat:Nat)=true:=by have:=(hG 0 ZJ ZJ).2 rfl;simpa[List.getD,show 0<s.length by omega]using this
   rw[e1,e2,hk];simp;omega
 ·have hkk:=Tj s;have hf:eE s=false:=by
   cases hn:eE s with
   |false=>rfl
   |true=>exfalso;refine h0 ?_;unfold eE at hn;simp only[Yl,decide_eq_true_eq,Bool.not_eq_true']at hn;exact⟨ZJ,ZJ,hn.1.2⟩
  cases hk:IA s with
  |true=>
   rw[hk]at hkk
   repeat' (first|refine st ?_|(refine pf 128 ?_;refine pm (hkk) ?_)|refine sb λnb_ hnb_=>?_|refine s2 (λh=>?_) λh=>?_|fail)
   all_goals exact hq _ _ hf
  |false=>
   rw[hk]at hkk
   repeat' (first|refine st ?_|(refine pf 128 ?_;refine pm (hkk) ?_)|refine sb λnb_ hnb_=>?_|refine s2 (λh=>?_) λh=>?_|fail)
   all_goals first
    |exact hq _ _ hf
    |(exfalso;refine h0 ⟨?_,?_,hk⟩<;>simp only[decide_eq_true_eq,decide_eq_false_iff_not]at * <;>omega)
end
section
set_option maxRecDepth 100000
set_option maxHeartbeats 1000000
def Fh(A:List bC):Prop:=(∀s∈A,eE s=true)∧A.Nodup
def mG(l:List bC):List (List AV):=l.map λs=>[.str s,.bool true]
theorem LN(l:List bC):(mG l).all xz=true:=by
 induction l with
 |nil=>rfl
 |cons s l ih=>simp only[mG,Yb,List.all_cons]at *;rw[ih];rfl
theorem ry{s:bC}:∀{l:List bC} {k:Nat},(s∉l→gN s (mG l) k=none)∧(s∈l→∃j,gN s (mG l) k=some (j,.bool true))
 |[],k=>⟨λ_=>rfl,λh=>by simp at h⟩
 | x::l,k=>by
  have ih:=ry (s:=s) (l:=l) (k:=k+1);have e:gN s (mG (x::l)) k=if s==x then some (k,.bool true)else gN s (mG l) (k+1):=rfl
  rw[e];by_cases h:s=x
  ·subst h;exact⟨λh=>by simp at h,λ_=>⟨k,ZM⟩⟩
  ·have:(s==x)=false:=by simpa using h
   rw[this];exact⟨λh2=>ih.1 (by simp at h2;exact h2.2),λh2=>ih.2 (by simpa[h]using h2)⟩
theorem Sd{s:bC}{l:List bC}(h:s∉l):W0.found (.bool false) false (gN s (mG l) 0)=.bool false:=by rw[ry.1 h];rfl
theorem Qg{s:bC}{l:List bC}(h:s∈l):W0.found (.bool false) false (gN s (mG l) 0)=.bool true:=by obtain⟨j,hj⟩:=(ry (k:=0)).2 h;rw[hj];rfl
theorem Qh{s:bC}{l:List bC}(h:s∉l):W0.putR s (.bool true) (mG l)=mG (l++[s]):=by unfold W0.putR;rw[ry.1 h];simp[mG]
theorem Nd{o:Option Nat}{k:Nat}{K:AV→Prop}(h:K (.ZO (k:Int)))(h0:o=none→k=0):W.len (ao o k) K:=by
 cases o with
 |none=>rw[h0 rfl]at h;exact Ic h
 |some b=>exact H9 h
theorem Qi{α:Type}{f:α→List AV}{l:List α}{n by_:Nat}{L:SH}{KL:AV→SH→Prop}(hn:∀x,(f x).length=n)(h2:2*l.length*by_≤2^48)(h3:2*l.length≤2^62)(h4:∀x,(f x).all AV.one=true)
  (h:l=[]→KL .nils L) (h':∀b,b∉L.names→KL (.sl b 0 l.length) ((b,⟨n,l.map f⟩)::L)):W.append n by_ .nils (.lst (l.map f)) L KL:=by
 have h4':((l.map f).all λr=>r.all AV.one)=true:=by rw[Yo];intro r hr;obtain⟨x,_,rfl⟩:=YH.1 hr;exact h4 x
 refine⟨[],l.map f,rfl,xR hn,by simpa using h2,by simpa using h3,h4',λe=>?_,λe b hb=>?_⟩
 ·exact h (by simpa using e)
 ·have:=h' b hb;simpa using this
theorem WJ{A:List bC}(hA:A.length<2^40){Q:R}(hq:∀b L,nZ (Fh A)=b→Q (.bool b) L){vs:List AV}{L:SH}{bm:Nat}(hz:aG vs L [.mp bm,.lst (A.map av),.ZO A.length,.ZO 0] [(bm,⟨0,[]⟩)]):W.loop (ep Q) vs L:=by
 refine Fg (α:=Nat) (λi=>([.mp bm,.lst (A.map av),.ZO A.length,.ZO (i:Int)],[(bm,⟨0,mG (A.take i)⟩)])) (λi=>A.length-i) (λi=>i≤A.length∧Fh (A.take i)) 0 ⟨Nat.zero_le _,by simp[Fh]⟩ hz ?_;rintro i ⟨hi,hG⟩ nx hnx;unfold ep;dsimp only;rcases Nat.lt_or_ge i A.length with h|h
 ·have d1:decide ((i:Int)<(A.length:Int))=true:=bE h;have hw1:IntKind.i64.wrap ((i:Int)+1)=((i+1:Nat):Int):=aA h ZJ;have hx:=ay (f:=av) h;have hok:=Nc A[i];have ht:=Yd h;have hno:¬Fh (A.take (i+1))→∀L,Q (.bool false) L:=λhb L=>hq _ _ (jK λhN=>hb ⟨λs hs=>hN.1 s (List.mem_of_mem_take hs),hN.2.sublist (List.take_sublist _ _)⟩)
  have hgo:Fh (A.take (i+1))→nx [.mp bm,.lst (A.map av),.ZO A.length,.ZO ((i+1:Nat):Int)] [(bm,⟨0,mG (A.take (i+1))⟩)]:=λhb=>hnx (i+1) ⟨h,hb⟩ ZJ _ _ (.refl _ _)
  rw[ht]at hno hgo;clear hq hnx ht hz;generalize A[i]=s at *;generalize A.take i=l at *;have hk:=LN l;cases hnm:eE s with
  |false=>
   rw[hnm]at hok;have hb:¬Fh (l++[s]):=λhb=>by have:=hb.1 s ZM;rw[hnm]at this;cases this
   repeat' (first|refine st ?_|(refine pf 102 ?_;refine pm (hok) ?_)|refine sb λnb_ hnb_=>?_|refine s2 (λh=>?_) λh=>?_|fail)
   all_goals exact hno hb _
  |true=>
   rw[hnm]at hok;by_cases hm:s∈l
   ·have hf:=Qg hm;have hb:¬Fh (l++[s]):=λhb=>by have:=(ZF.1 hb.2).2.2 s hm s ZM;exact this rfl
    repeat' (first|refine st ?_|(refine pf 102 ?_;refine pm (hok) ?_)|refine P7 (.head _) hk hf ?_|refine sb λnb_ hnb_=>?_|refine s2 (λh=>?_) λh=>?_|fail)
    all_goals exact hno hb _
   ·have hf:=Sd hm;have hp:=Qh hm;have hb:Fh (l++[s]):=⟨λx hx=>by
     rcases Yg.1 hx with h|h
     ·exact hG.1 x h
     ·rw[Ye.1 h];exact hnm,ZF.2 ⟨hG.2,ZM,λa ha b hb=>by rw[Ye.1 hb];rintro rfl;exact hm ha⟩⟩
    repeat' (first|refine st ?_|(refine pf 102 ?_;refine pm (hok) ?_)|refine P7 (.head _) hk hf ?_|refine WC (.here _) hk rfl hp ?_|refine sb λnb_ hnb_=>?_|refine s2 (λh=>?_) λh=>?_|fail)
    all_goals exact hgo hb
 ·have d1:decide ((i:Int)<(A.length:Int))=false:=bI h;rw[YL h]at hG
  repeat' (first|refine st ?_|refine sb λnb_ hnb_=>?_|refine s2 (λh=>?_) λh=>?_|fail)
  exact hq _ _ (kW hG)
section
variable {w:aO} {Q:R} {ns:List bC} (hns:ns.length≤12) (h4:w.locks.length≤4) (h2:w.conds.length≤2) (hf2:w.futures.length≤2) (ht4:w.threads.length≤4) (hq:∀b L,nZ (Fh (oV w ns))=b→Q (.bool b) L)
include hns h4 h2 hf2 ht4 hq
theorem WL{vs:List AV}{L:SH}(o:Option Nat)(ho:o=none→ns++w.locks.map cq.name=[])(hz:aG vs L [.pptr [w.enc] 0 0,ao o (ns++w.locks.map cq.name).length,.lst (w.conds.map db.enc),.ZO w.conds.length,.ZO 0] (ae o 1 ((ns++w.locks.map cq.name).map av))):W.loop (eu Q) vs L:=by
 obtain⟨S,hS⟩:∃S:Nat→List bC,S=λi=>ns++w.locks.map cq.name++(w.conds.take i).map db.name:=⟨_,rfl⟩
 have hS0:S 0=ns++w.locks.map cq.name:=by subst hS;simp
 have hSl:S w.conds.length++w.futures++w.threads=oV w ns:=by subst hS;simp[oV]
 have hSs:∀i (h:i<w.conds.length),S (i+1)=S i++[w.conds[i].name]:=λi h=>by subst hS;simp only[Yd h,Yc,YP,Yb,YT]
 have hSn:∀i,(S i).length≤18:=λi=>by subst hS;rw[Yf,Yf,Y9,Y9,Yx];omega
 rw[←hS0]at hz ho;clear hS0 hS;refine Fg (α:=Nat×Option Nat) (λa=>([.pptr [w.enc] 0 0,ao a.2 (S a.1).length,.lst (w.conds.map db.enc),.ZO w.conds.length,.ZO (a.1:Int)],ae a.2 1 ((S a.1).map av))) (λa=>w.conds.length-a.1) (λa=>a.1≤w.conds.length∧(a.2=none→S a.1=[])) (0,o) ⟨Nat.zero_le _,ho⟩ hz ?_;rintro⟨i,o⟩ ⟨hi,ho⟩ nx hnx;unfold eu;dsimp only at *;have hA:=hSn i;rcases Nat.lt_or_ge i w.conds.length with h|h
 ·have d1:decide ((i:Int)<(w.conds.length:Int))=true:=bE h;have hw1:IntKind.i64.wrap ((i:Int)+1)=((i+1:Nat):Int):=aA h ZJ;have hx:=ay (f:=db.enc) h;have hgo:∀nb_ L',gJ L' [(nb_,⟨1,(S i).map av++[[.str w.conds[i].name]]⟩)]→nx [.pptr [w.enc] 0 0,.sl nb_ 0 ((S i).length+1),.lst (w.conds.map db.enc),.ZO w.conds.length,.ZO ((i+1:Nat):Int)] L':=λnb_ L' h3=>
   hnx (i+1,some nb_) ⟨h,nofun⟩ (by dsimp only;omega) _ _ (aG.pickE h3 (by simp[ao,hSs i h]) (by simp[ae,av,hSs i h]))
  clear hnx hSs hSl hSn hz;generalize w.conds[i]=c at *;generalize S i=C at *;obtain⟨nm,mx⟩:=c;unfold db.enc at hx;dsimp only at *
  repeat' (first|refine st ?_|refine cx mm rp ZM (λe=>by simp[ho e]) ZL ZM (by simp;omega) (by simp;omega) ZL (λnb_ hnb_=>?_)|refine sb λnb_ hnb_=>?_|refine s2 (λh=>?_) λh=>?_|fail)
  exact hgo _ _ rp
 ·have d1:decide ((i:Int)<(w.conds.length:Int))=false:=bI h;obtain rfl:i=w.conds.length:=by omega
  repeat' (first|refine st ?_|refine sb λnb_ hnb_=>?_|refine s2 (λh=>?_) λh=>?_|fail)
  refine EB rp (λ_=>rfl) ZM (λe=>by simp[ho e]) ZJ ZJ (λ_=>rfl) (λo1 ho1=>?_)
  repeat' (first|refine st ?_|refine sb λnb_ hnb_=>?_|refine s2 (λh=>?_) λh=>?_|fail)
  refine EB rp (λ_=>rfl) ZM (λe=>ho1 e) ZJ ZJ (λ_=>rfl) (λo2 ho2=>?_);refine Sa λbm hbm=>?_
  refine Nd ?_ (λe=>by have:=ho2 e;simp only[List.append_eq_nil_iff,List.map_eq_nil_iff]at this;simp[this]);have e1:(S w.conds.length).map av++w.futures.map av++w.threads.map av=(oV w ns).map av:=by rw[←hSl];simp
  have e2:(S w.conds.length).length+w.futures.length+w.threads.length=(oV w ns).length:=by rw[←hSl];simp;omega
  have e3:(oV w ns).length≤30:=by rw[←e2];omega
  rw[e1]at ho2 ⊢;rw[e2];refine WJ (A:=oV w ns) ZJ hq (bm:=bm) (aG.drop (K:=ae o2 1 ((oV w ns).map av)) (R:=[(bm,⟨0,[]⟩)]) (by rw[YM];exact(List.perm_append_singleton _ _).symm) rfl ((iV.cons (.refl _) (.cons (Fz.slot rfl ho2 ZN (λ_ _=>rfl) λ_ _ q a a2 h1 h2=>by rw[h1]at h2;cases h2;exact .refl _) (.cons (.refl _) (.cons (.refl _) .nil)))).at_.2))
theorem WM{vs:List AV}{L:SH}(o:Option Nat)(ho:o=none→ns=[])(hz:aG vs L [.pptr [w.enc] 0 0,ao o ns.length,.lst (w.locks.map cq.enc),.ZO w.locks.length,.ZO 0] (ae o 1 (ns.map av))):W.loop (ew Q) vs L:=by
 have hl2:=λvs L o ho hz=>WL hns h4 h2 hf2 ht4 hq (vs:=vs) (L:=L) o ho hz
 obtain⟨S,hS⟩:∃S:Nat→List bC,S=λi=>ns++(w.locks.take i).map cq.name:=⟨_,rfl⟩
 have hS0:S 0=ns:=by subst hS;simp
 have hSl:S w.locks.length=ns++w.locks.map cq.name:=by subst hS;simp
 have hSs:∀i (h:i<w.locks.length),S (i+1)=S i++[w.locks[i].name]:=λi h=>by subst hS;simp only[Yd h,Yc,YP,Yb,YT]
 have hSn:∀i,(S i).length≤18:=λi=>by subst hS;rw[Yf,Y9,Yx];omega
 rw[←hSl]at hl2;rw[←hS0]at hz ho;clear hS0 hS hq;refine Fg (α:=Nat×Option Nat) (λa=>([.pptr [w.enc] 0 0,ao a.2 (S a.1).length,.lst (w.locks.map cq.enc),.ZO w.locks.length,.ZO (a.1:Int)],ae a.2 1 ((S a.1).map av))) (λa=>w.locks.length-a.1) (λa=>a.1≤w.locks.length∧(a.2=none→S a.1=[])) (0,o) ⟨Nat.zero_le _,ho⟩ hz ?_;rintro⟨i,o⟩ ⟨hi,ho⟩ nx hnx;unfold ew;dsimp only at *;have hA:=hSn i;rcases Nat.lt_or_ge i w.locks.length with h|h
 ·have d1:decide ((i:Int)<(w.locks.length:Int))=true:=bE h;have hw1:IntKind.i64.wrap ((i:Int)+1)=((i+1:Nat):Int):=aA h ZJ;have hx:=ay (f:=cq.enc) h;have hgo:∀nb_ L',gJ L' [(nb_,⟨1,(S i).map av++[[.str w.locks[i].name]]⟩)]→nx [.pptr [w.enc] 0 0,.sl nb_ 0 ((S i).length+1),.lst (w.locks.map cq.enc),.ZO w.locks.length,.ZO ((i+1:Nat):Int)] L':=λnb_ L' h3=>
   hnx (i+1,some nb_) ⟨h,nofun⟩ (by dsimp only;omega) _ _ (aG.pickE h3 (by simp[ao,hSs i h]) (by simp[ae,av,hSs i h]))
  clear hnx hSs hSl hSn hz hl2;generalize w.locks[i]=c at *;generalize S i=C at *;obtain⟨nm,mx⟩:=c;unfold cq.enc at hx;dsimp only at *
  repeat' (first|refine st ?_|refine cx mm rp ZM (λe=>by simp[ho e]) ZL ZM (by simp;omega) (by simp;omega) ZL (λnb_ hnb_=>?_)|refine sb λnb_ hnb_=>?_|refine s2 (λh=>?_) λh=>?_|fail)
  exact hgo _ _ rp
 ·have d1:decide ((i:Int)<(w.locks.length:Int))=false:=bI h;obtain rfl:i=w.locks.length:=by omega
  repeat' (first|refine st ?_|refine sb λnb_ hnb_=>?_|refine s2 (λh=>?_) λh=>?_|fail)
  exact hl2 _ _ o ho (.refl _ _)
theorem XR:eV (.agg w.enc) (.lst (ns.map av)) [] Q:=by
 have hl3:=λvs L o ho hz=>WM hns h4 h2 hf2 ht4 hq (vs:=vs) (L:=L) o ho hz
 clear hq;unfold eV
 repeat' (first|refine st ?_|refine sb λnb_ hnb_=>?_|refine s2 (λh=>?_) λh=>?_|fail)
 refine Qi (λ_=>rfl) ZJ ZJ (λ_=>rfl) (λe=>?_) (λnb_ hnb_=>?_)
 ·subst e
  repeat' (first|refine st ?_|refine sb λnb_ hnb_=>?_|refine s2 (λh=>?_) λh=>?_|fail)
  exact hl3 _ _ none (λ_=>rfl) (aG.drop (K:=[]) (.refl _) rfl ((iV.cons (.refl _) (.cons .nile (.cons (.refl _) (.cons (.refl _) (.cons (.refl _) .nil))))).at_.2))
 ·repeat' (first|refine st ?_|refine sb λnb_ hnb_=>?_|refine s2 (λh=>?_) λh=>?_|fail)
  exact hl3 _ _ (some nb_) nofun (.refl _ _)
end
theorem N3(w:aO){ns:List bC}(hns:ns.length≤12)(h4:w.locks.length≤4)(h2:w.conds.length≤2)(hf2:w.futures.length≤2)(ht4:w.threads.length≤4):az Tryz.prog 64 [.agg w.enc,.lst (ns.map av)] (.bool (nZ (Fh (oV w ns)))):=
 af.fz (pK _ _ _ _ (XR hns h4 h2 hf2 ht4 λb L h=>⟨_,[],aG.all (.refl _),by rw[h],rfl⟩))
theorem LO{l:List bA}(hl:l.length≤12){ns:List bC}(h:dQ l ns):az Tryz.prog 63 [.lst (l.map bA.enc)] (.tup [.lst (ns.map av),.bool true]):=
 af.fz (gR _ _ _ (tQ l hl (λns' L v h1 h2=>⟨_,[],aG.all (.tups (.cons h2 (.cons (.refl _) .nil))),by rw[h.uniq h1],rfl⟩) λh2=>absurd h (h2 ns)))
theorem N4{l:List bA}(hl:l.length≤12)(h:∀ns,¬dQ l ns):az Tryz.prog 63 [.lst (l.map bA.enc)] (.tup [.nils,.bool false]):=
 af.fz (gR _ _ _ (tQ l hl (λns' L v h1 h2=>absurd h1 (h ns')) λ_ L=>⟨_,[],aG.all (.refl _),rfl,rfl⟩))
end
section
set_option maxRecDepth 100000
set_option maxHeartbeats 1000000
theorem UI{n:Nat}{t x:Int}{s:cQ}{l:List cQ}:GP n t x (s::l)↔t≤s.thread∧s.thread<n∧s.stmt=(if t<s.thread then 0 else x)∧GP n s.thread (s.stmt+1) l:=Iff.rfl
theorem GQ(w:aO)(h60:w.sites.length≤60):az Tryz.prog 66 [.agg w.enc] (.bool (nZ (GP w.threads.length 0 0 w.sites))):=by
  refine pF _ _ _ ?_;unfold iB;generalize hQ:(λ(u:AV) (K:SH)=>u=AV.bool (nZ (GP w.threads.length 0 0 w.sites))∧K=[])=Q;have hq:∀b,nZ (GP w.threads.length 0 0 w.sites)=b→Q (.bool b) []:=λb hb=>by subst hQ;exact⟨by rw[hb],rfl⟩
  clear hQ
  repeat' (first|refine st ?_|refine sb λnb_ hnb_=>?_|refine s2 (λh=>?_) λh=>?_|fail)
  refine EZ (α:=Nat×Int×Nat) (λa=>([.pptr [w.enc] 0 0,.ZO a.2.1,.ZO (a.2.2:Int),.lst (w.sites.map cQ.enc),.ZO w.sites.length,.ZO (a.1:Int)],[])) (λa=>w.sites.length-a.1) (λa=>a.1≤w.sites.length∧a.2.2≤a.1∧(GP w.threads.length 0 0 w.sites↔GP w.threads.length a.2.1 a.2.2 (w.sites.drop a.1))) (0,0,0) ⟨Nat.zero_le _,Nat.le_refl _,ZM⟩ rfl rfl ?_;rintro⟨i,t,x⟩ ⟨hi,hx0,hG⟩ nx hnx;unfold gS;dsimp only at *;rcases Nat.lt_or_ge i w.sites.length with h|h
  · have d1:decide ((i:Int)<(w.sites.length:Int))=true:=bE h
    have hw1:IntKind.i64.wrap ((i:Int)+1)=((i+1:Nat):Int):=aA h ZJ;have hw2:IntKind.i64.wrap ((x:Int)+1)=((x+1:Nat):Int):=by rw[YU _ ZJ];omega
    have hw3:IntKind.i64.wrap (0+1)=((0+1:Nat):Int):=rfl;have hx:=ay (f:=cQ.enc) h;rw[Zg h]at hG;generalize w.sites[i]=s at *;rw[UI]at hG;have hno:¬(t≤s.thread∧s.thread<w.threads.length∧s.stmt=if t<s.thread then 0 else(x:Int))→Q (.bool false) []:=λhb=>hq _ (jK λh2=>hb (by have:=hG.1 h2;exact⟨this.1,this.2.1,this.2.2.1⟩))
    have hgo:∀y:Nat,y≤i→(t≤s.thread∧s.thread<w.threads.length∧s.stmt=if t<s.thread then 0 else(x:Int))→s.stmt=(y:Int)→nx [.pptr [w.enc] 0 0,.ZO s.thread,.ZO ((y+1:Nat):Int),.lst (w.sites.map cQ.enc),.ZO w.sites.length,.ZO ((i+1:Nat):Int)] []:=λy hy hb hs=>
      hnx (i+1,s.thread,y+1) ⟨h,by dsimp only;omega,by
        rw[hG];dsimp only;have e:s.stmt+1=((y+1:Nat):Int):=by omega
        rw[e];exact⟨λh=>h.2.2.2,λh=>⟨hb.1,hb.2.1,hb.2.2,h⟩⟩⟩ (by dsimp only;omega)
    clear hnx hG;obtain⟨th,sm,ln⟩:=s;unfold cQ.enc at hx;dsimp only at *
    repeat' (first|refine st ?_|refine sb λnb_ hnb_=>?_|refine s2 (λh=>?_) λh=>?_|fail)
    all_goals first
      |(refine hno λh2=>?_;have h3:=h2.1;have h4:=h2.2.1;have h5:=h2.2.2;clear h2 hno hgo;split at h5<;>simp only[decide_eq_true_eq,decide_eq_false_iff_not,ge_iff_le,ne_eq,Decidable.not_not]at * <;>omega)
      |(refine hgo 0 (YK _) ?_ ?_<;>clear hno hgo<;>simp only[decide_eq_true_eq,decide_eq_false_iff_not,ge_iff_le,ne_eq,Decidable.not_not]at * <;>first|omega|(refine⟨ZJ,ZJ,?_⟩;rw[if_pos ZJ];omega))
      | (simp only [decide_eq_true_eq, decide_eq_false_iff_not, ge_iff_le, ne_eq, Decidable.not_not] at *
         obtain rfl:t=th:=by omega
         refine hgo x hx0 ?_ ?_<;>clear hno hgo<;>first|omega|(refine⟨ZJ,ZJ,?_⟩;rw[if_neg ZJ];omega))
  · have d1:decide ((i:Int)<(w.sites.length:Int))=false:=bI h
    rw[List.drop_eq_nil_of_le h]at hG
    repeat' (first|refine st ?_|refine sb λnb_ hnb_=>?_|refine s2 (λh=>?_) λh=>?_|fail)
    exact hq _ (kW (hG.2 trivial))
theorem N5(w:aO):az Tryz.prog 38 [.agg w.enc] (.bool (nZ (Kq w))):=by
 refine pw _ _ _ ?_;unfold iA;generalize hQ:(λ(u:AV) (K:SH)=>u=AV.bool (nZ (Kq w))∧K=[])=Q;have hq:∀b,nZ (Kq w)=b→Q (.bool b) []:=λb hb=>by subst hQ;exact⟨by rw[hb],rfl⟩
 clear hQ;by_cases h0:w.cells.length≤12∧w.locks.length≤4∧w.conds.length≤2∧w.futures.length≤2∧w.sites.length≤60∧1≤w.threads.length∧w.threads.length≤4
 ·obtain⟨c12,l4,d2,f2,s60,t1,t4⟩:=h0;have e1:decide ((w.cells.length:Int) > 12)=false:=decide_eq_false ZJ;have e2:decide ((w.locks.length:Int) > 4)=false:=decide_eq_false ZJ;have e3:decide ((w.conds.length:Int) > 2)=false:=decide_eq_false ZJ;have e4:decide ((w.futures.length:Int) > 2)=false:=decide_eq_false ZJ;have e5:decide ((w.sites.length:Int) > 60)=false:=decide_eq_false ZJ;have e6:decide ((w.threads.length:Int)<1)=false:=decide_eq_false ZJ;have e7:decide ((w.threads.length:Int) > 4)=false:=decide_eq_false ZJ;by_cases hv:∃ns,dQ w.cells ns
  ·obtain⟨ns,hv⟩:=hv;have hvc:=LO c12 hv;have hns:ns.length≤12:=by have:=hv.len;omega
   have hvn:=N3 w hns l4 d2 f2 t4;have hvs:=GQ w s60;cases hN:nZ (Fh (oV w ns))with
   |false=>
    rw[hN]at hvn;have hb:nZ (Kq w)=false:=jK λh=>by obtain⟨n2,h1,h2⟩:=h.names;obtain rfl:=hv.uniq h1;rw[kW ⟨h2.1,h2.2⟩]at hN;cases hN
    repeat' (first|refine st ?_|(refine pf 63 ?_;refine pm (hvc) ?_)|(refine pf 64 ?_;refine pm (hvn) ?_)|refine sb λnb_ hnb_=>?_|refine s2 (λh=>?_) λh=>?_|fail)
    all_goals exact hq _ hb
   |true=>
    rw[hN]at hvn
    repeat' (first|refine st ?_|(refine pf 63 ?_;refine pm (hvc) ?_)|(refine pf 64 ?_;refine pm (hvn) ?_)|refine sb λnb_ hnb_=>?_|refine s2 (λh=>?_) λh=>?_|fail)
    refine fH w.conds (λc=>!J5 w c.mutex false) (λi=>[.pptr [w.enc] 0 0,.lst (w.conds.map db.enc),.ZO w.conds.length,.ZO (i:Int)]) ZJ rfl (λi h1 hd hi hno nx hn=>?_) (λi h1 hd hno nx=>?_)
    all_goals unfold gP
    ·have hx:=ay (f:=db.enc) h1;have hlk:=Hz w w.conds[i].mutex false;have hbad:J5 w w.conds[i].mutex false=false→nZ (Kq w)=false:=λh=>jK λh2=>by rw[h2.mtx _ (Yr h1)]at h;cases h
     generalize w.conds[i]=c at *;obtain⟨nm,mx⟩:=c;unfold db.enc at hx;dsimp only at *;cases hl:J5 w mx false with
     |false=>
      rw[hl]at hlk
      repeat' (first|refine st ?_|(refine pf 65 ?_;refine pm (hlk) ?_)|refine sb λnb_ hnb_=>?_|refine s2 (λh=>?_) λh=>?_|fail)
      exact hq _ (hbad hl)
     |true=>
      rw[hl]at hlk
      repeat' (first|refine st ?_|(refine pf 65 ?_;refine pm (hlk) ?_)|refine sb λnb_ hnb_=>?_|refine s2 (λh=>?_) λh=>?_|fail)
      exact hn (by rw[hl];rfl)
    ·repeat' (first|refine st ?_|(refine pf 66 ?_;refine pm (hvs) ?_)|refine sb λnb_ hnb_=>?_|refine s2 (λh=>?_) λh=>?_|fail)
     refine hq _ ?_;cases hs:nZ (GP w.threads.length 0 0 w.sites)with
     |false=>exact jK λh=>by rw[kW h.sites]at hs;cases hs
     |true=>have hN:=jm.1 hN;exact kW ⟨c12,l4,d2,f2,s60,t1,t4,⟨ns,hv,hN.1,hN.2⟩,λc hc=>by simpa using hno c hc,jm.1 hs⟩
  ·have hvc:=N4 c12 λns h=>hv ⟨ns,h⟩
   repeat' (first|refine st ?_|(refine pf 63 ?_;refine pm (hvc) ?_)|refine sb λnb_ hnb_=>?_|refine s2 (λh=>?_) λh=>?_|fail)
   all_goals exact hq _ (jK λh=>by obtain⟨ns,h1,_⟩:=h.names;exact hv ⟨ns,h1⟩)
 ·have hb:nZ (Kq w)=false:=jK λh=>h0 ⟨h.c12,h.l4,h.d2,h.f2,h.s60,h.t1,h.t4⟩
  repeat' (first|refine st ?_|refine sb λnb_ hnb_=>?_|refine s2 (λh=>?_) λh=>?_|fail)
  all_goals first
   |exact hq _ hb
   |(exfalso;refine h0 ?_;clear hq hb h0;simp only[decide_eq_true_eq,decide_eq_false_iff_not]at *;omega)
structure mH(c:bB):Prop where
 world:Kq c.w
 len:c.ts.length=c.w.threads.length
 thr:∀i (h:i<c.ts.length),Km c.w i c.ts[i]
theorem Qj(c:bB)(hl:∀t∈c.ts,t.ins.length<2^48):az Tryz.prog 21 [.agg c.enc] (.bool (nZ (mH c))):=by
 have hw:=N5 c.w;have ht:=λi (h:i<c.ts.length)=>E0 c.w i c.ts[i] (hl _ (Yr h))
 obtain⟨w,ts⟩:=c;dsimp only at *;refine Bp _ _ _ ?_;unfold oL;generalize hQ:(λ(u:AV) (K:SH)=>u=AV.bool (nZ (mH ⟨w,ts⟩))∧K=[])=Q;have hq:∀b,nZ (mH ⟨w,ts⟩)=b→Q (.bool b) []:=λb hb=>by subst hQ;exact⟨by rw[hb],rfl⟩
 clear hQ;cases hW:nZ (Kq w)with
 |false=>
  rw[hW]at hw
  repeat' (first|refine st ?_|(refine pf 38 ?_;refine pm (hw) ?_)|refine sb λnb_ hnb_=>?_|refine s2 (λh=>?_) λh=>?_|fail)
  all_goals exact hq _ (jK λh=>by have:=h.world;rw[kW this]at hW;cases hW)
 |true=>
  rw[hW]at hw;have hW:=jm.1 hW;by_cases hlen:ts.length=w.threads.length
  ·have e1:decide ((ts.length:Int)≠(w.threads.length:Int))=false:=by simp[hlen]
   have h4:=hW.t4
   repeat' (first|refine st ?_|(refine pf 38 ?_;refine pm (hw) ?_)|refine sb λnb_ hnb_=>?_|refine s2 (λh=>?_) λh=>?_|fail)
   refine mu ts.length (λk=>∀j (h:j<ts.length),j<k→Km w j ts[j]) (λk=>[.pptr [(⟨w,ts⟩:bB).enc] 0 0,.lst (ts.map hY.enc),.ZO ts.length,.ZO k]) ZJ (λj h hj=>absurd hj (Zx _)) rfl (λk hk hd hi hG nx hn=>?_) (λk hk hd hG nx=>?_)
   all_goals unfold mB
   ·have hx:=ay (f:=hY.enc) hk;have hok:=ht k hk;have hbad:¬Km w k ts[k]→Q (.bool false) []:=λh=>hq _ (jK λh2=>h (h2.thr k hk))
    have hgo:Km w k ts[k]→nx [.pptr [(⟨w,ts⟩:bB).enc] 0 0,.lst (ts.map hY.enc),.ZO ts.length,.ZO ((k+1:Nat):Int)] []:=λh=>hn λj hj hjk=>by
     rcases X9 j k with g|g
     ·exact hG j hj g
     ·have e:j=k:=by omega
      subst e;exact h
    clear hn hG;generalize ts[k]=c at *;obtain⟨rg,ins⟩:=c;cases hT:nZ (Km w k ⟨rg,ins⟩)with
    |false=>
     rw[hT]at hok
     repeat' (first|refine st ?_|(refine pf 39 ?_;refine pm (hok) ?_)|refine sb λnb_ hnb_=>?_|refine s2 (λh=>?_) λh=>?_|fail)
     exact hbad λh=>by rw[kW h]at hT;cases hT
    |true=>
     rw[hT]at hok
     repeat' (first|refine st ?_|(refine pf 39 ?_;refine pm (hok) ?_)|refine sb λnb_ hnb_=>?_|refine s2 (λh=>?_) λh=>?_|fail)
     exact hgo (jm.1 hT)
   ·repeat' (first|refine st ?_|refine sb λnb_ hnb_=>?_|refine s2 (λh=>?_) λh=>?_|fail)
    exact hq _ (kW ⟨hW,hlen,λj h=>hG j h (by have:j<ts.length:=h;omega)⟩)
  ·have e1:decide ((ts.length:Int)≠(w.threads.length:Int))=true:=by simp;omega
   repeat' (first|refine st ?_|(refine pf 38 ?_;refine pm (hw) ?_)|refine sb λnb_ hnb_=>?_|refine s2 (λh=>?_) λh=>?_|fail)
   all_goals exact hq _ (jK λh=>hlen h.len)
end
structure aY where
 thread:Int
 kind:Int
 obj:Int
 value:Int
 site:Int
 deps:List Int
 frm:List Int
def aY.enc(e:aY):List AV:=[.ZO e.thread,.ZO e.kind,.ZO e.obj,.ZO e.value,.ZO e.site,.lst (e.deps.map aj),.lst (e.frm.map aj)]
structure dw where
 sync:SyncD
 cells:List Int
 futures:List Int
 threads:List aH
def dw.enc(s:dw):List AV:=[.lst (s.sync.locks.map LockD.enc),.ZO s.sync.tx,.lst (s.sync.done.map bj),.lst (s.sync.threads.map ThrD.enc),.lst (s.cells.map aj),.lst (s.futures.map aj),.lst (s.threads.map aH.enc)]
def ij(op:Int):Int:=dI.getD op.toNat 0
def ixS(i n:Int):Int:=if n<1 then 0 else if i.tmod n<0 then IntKind.i64.wrap (i.tmod n+n)else i.tmod n
def cm(i:bq)(s:aH)(t:Int):aY:=
 let e:aY:=⟨t,ij i.op,i.a,0,i.site,[],[]⟩
 if i.op=6∨i.op=27 then {e with obj:=i.b}
 else if i.op=7 then {e with obj:=IntKind.i64.wrap (i.b+ixS (s.reg i.c) i.n),deps:=s.tnt i.c}
 else if i.op=8∨i.op=26 then {e with frm:=s.tnt i.b}
 else if i.op=9 then {e with obj:=IntKind.i64.wrap (i.a+ixS (s.reg i.c) i.n),deps:=s.tnt i.c,frm:=s.tnt i.b}
 else if i.op=10 then {e with obj:=-1,deps:=s.tnt i.a}
 else if i.op=28∨i.op=17∨i.op=18∨i.op=19∨i.op=20 then {e with obj:=-1}
 else e
def am(c:bB)(t:Int):hY:=c.ts.getD t.toNat ⟨0,[]⟩
def aI(s:dw)(t:Int):aH:=s.threads.getD t.toNat aH.zero
def aT(c:hY)(k:Int):bq:=c.ins.getD k.toNat default
def iQ(c:bB)(s:dw)(t:Int):Bool:=
 inB t c.ts.length&&inB t s.threads.length&&inB t s.sync.threads.length&&inB (aI s t).pc (am c t).ins.length&&decide (((aI s t).regs.length:Int)=(am c t).regs)&&decide (((aI s t).taint.length:Int)=(am c t).regs)
def eF(c:bB)(s:dw)(t:Int):Option aY:=
 if iQ c s t then
  let i:=aT (am c t) (aI s t).pc
  if(aE s.sync t).status=1 then some ⟨t,1,-1,0,-1,[],[]⟩
  else if(aE s.sync t).status=4 then some ⟨t,17,(aE s.sync t).cond,0,i.site,[],[]⟩
  else if(aE s.sync t).status=2 then(if ij i.op≠0 then some (cm i (aI s t) t)else none)
  else none
 else none
structure UJ where
 value:Int
 cells:List Int
 futures:List Int
 thread:aH
def kH(l:List Int)(o:Int):Int:=l.getD o.toNat 0
def bS(i:bq)(e:aY)(s:dw)(th:aH)(sv:Int):UJ:=
 let nx:Int:=IntKind.i64.wrap (th.pc+1)
 let ev:Int:=IntKind.i64.wrap (th.ev+1)
 if e.kind=3 then⟨kH s.cells e.obj,s.cells,s.futures,⟨nx,th.regs.set i.a.toNat (kH s.cells e.obj),th.taint.set i.a.toNat [th.ev],ev⟩⟩
 else if e.kind=23 then⟨kH s.futures e.obj,s.cells,s.futures,⟨nx,th.regs.set i.a.toNat (kH s.futures e.obj),th.taint.set i.a.toNat [th.ev],ev⟩⟩
 else if e.kind=4 then⟨th.reg i.b,s.cells.set e.obj.toNat (th.reg i.b),s.futures,⟨nx,th.regs,th.taint,ev⟩⟩
 else if e.kind=22 then⟨th.reg i.b,s.cells,s.futures.set e.obj.toNat (th.reg i.b),⟨nx,th.regs,th.taint,ev⟩⟩
 else if e.kind=5 then(if th.reg i.a≠0 then⟨1,s.cells,s.futures,⟨nx,th.regs,th.taint,ev⟩⟩else⟨e.value,s.cells,s.futures,⟨i.b,th.regs,th.taint,ev⟩⟩)
 else if e.kind=18∨e.kind=19 then⟨sv,s.cells,s.futures,⟨nx,th.regs,th.taint,ev⟩⟩
 else if e.kind=1∨e.kind=16∨e.kind=2 then⟨e.value,s.cells,s.futures,⟨th.pc,th.regs,th.taint,ev⟩⟩
 else⟨e.value,s.cells,s.futures,⟨nx,th.regs,th.taint,ev⟩⟩
def oX(c:bB)(s:dw)(t wake:Int):Option (dw×aY):=
 match eF c s t with
 |none=>none
 |some e=>
  if s.cells.length=c.w.cells.length∧s.futures.length=c.w.futures.length then
   let r:=fI c.w s.sync t e.kind e.obj wake
   if r.2.2 then
    let a:=bS (aT (am c t) (aI s t).pc) e s (aI s t) r.2.1
    let e':={e with value:=a.value}
    if e.kind≠16∧e.kind≠2 then
     let z:=aQ (am c t) a.thread
     if z.2 then some (⟨r.1,a.cells,a.futures,s.threads.set t.toNat z.1⟩,e')else none
    else some (⟨r.1,a.cells,a.futures,s.threads.set t.toNat a.thread⟩,e')
   else none
  else none
def bN(c:bB):dw:=⟨cU c.w,c.w.cells.map bA.init,List.replicate c.w.futures.length 0,c.ts.map λt=>⟨0,List.replicate t.regs.toNat 0,List.replicate t.regs.toNat [],0⟩⟩
def Jf(c:bB)(p:List aY×dw)(ch:dq):List aY×dw:=
 if 400≤p.1.length then p else match oX c p.2 ch.thread ch.wake with
  |none=>p
  |some (n,e)=>(p.1++[e],n)
def cN(c:bB)(l:List dq):List aY×dw:=l.foldl (Jf c) ([],bN c)
section
set_option maxRecDepth 100000
def LP(Q:R)(d:SH)(b c:AV):Prop:=W.build [.nils,.nils,.nils,.nils,.nils,.nils,.nils] [] λe=>W.build [.nils,(.ZO 0),.nils,.nils,.nils,.nils,.nils] [] λf=>W.store 7 b e d λg=>W.store 7 c f g λa=>W.load true 7 b a λh=>W.load true 7 c a λi=>Q (.tup [h,i]) a
def LQ(Q:R)(e:SH)(f g b c:AV)(h:Fp)(i:AV)(d:SH)(j:Ns):Prop:=wn [] j [] e.names λk=>W.build [.nils,.nils,.nils,.nils,.nils,.nils,.nils] [(0,6,i),(6,1,f)] λl=>dr [rc 2 k,rm 1 h] 5 7 g d λm n=>ds [rm 5 n] 6 7 b l d λo r=>ds [] 7 7 c m o λa s=>W.load true 7 b a λp=>W.load true 7 c a λq=>Q (.tup [p,q]) a
def LR(Q:R)(c d e b:AV)(f:SH):Prop:=W.ext 0 b λg=>W.ext 1 b λh=>rE [.nils,(.ZO 0),.nils,.nils,.nils,.nils,.nils] 7 h f λi a=>(true=true)∧(W.faddr 0 c λj=>dr [] 1 6 j a λk l=>wd [] 2 (.fn 23 []) [k] a (LQ Q a g i d e l))
def LS(Q:R)(e b c d f:AV)(a:SH):Prop:=W.un .not f λg=>wk g ((LP Q a b c)) (cp 7 d a λh=>wc (.fn 22 []) [h,e] a (LR Q d b c))
def HB(c d:AV)(L:SH)(Q:R):Prop:=W.box c L λe f=>W.alloc [.nils,.nils,.nils,.nils,.nils,.nils,.nils] f λg h=>W.alloc [.nils,(.ZO 0),.nils,.nils,.nils,.nils,.nils] h λi j=>W.frz1 e j λa b=>cp 7 a b λk=>wc (.fn 21 []) [k] b (LS Q d g i a)
theorem LT(t0 t1:AV)(L:SH)(Q:R)(h:HB t0 t1 L Q):af Tryz.prog 8 [t0,t1] L Q:=
 fs [] [] [(0,[2]),(3,[7])] [(4,[0,1,3,0,15,0,31,127])] Tryz.func8 h
def IB(f:Kn)(c:SH)(d e a g h i:AV):Prop:=ma 5 d e c λj=>rE [(.str []),(.ZO 0),(.ZO 0),(.bool false),(.ZO 0)] 5 j c λk b=>aC 4 a b λl=>aC 4 k b λm=>W.bslice 1 [(.ZO 0)] 1 [(0,m)] b λn o=>W.append 1 8 l n o λp q=>W.faddr 4 a λr=>W.store 1 r p q λs=>wb .add 3 e (.ZO 1) λt=>f [g,h,a,d,i,t] s
def IC(r:Kn)(f:SH)(g h d s t:AV):Prop:=ma 2 g h f λu=>rE [(.ZO 0),.nils] 2 u f λi e=>(true=true)∧(aN 6 d [] 1 e λa b=>aN 0 i [rm 1 b] 3 e λj k=>W.calm [rm 1 b] ⟨4,[],[],[],false,[]⟩ (W.mslice 1 8 [(.ZO 0)] j j e λl m=>wn [] [] (aa l) [] λn=>aN 0 i [rm 4 n,rm 3 k,rm 1 b] 6 m λo C=>W.calm [rm 4 n,rm 3 k,rm 1 b] ⟨7,[],[],[],false,[]⟩ (W.mslice 1 24 [.nils] o o m λp v=>wn [] [] (aa p) [] λD=>W.build [(.ZO 0),.nils,.nils,(.ZO 0)] [(1,1,l),(2,1,p)] λw=>W.calm [rm 1 b] ⟨9,[],[],[],false,[]⟩ (W.bslice 4 [(.ZO 0),.nils,.nils,(.ZO 0)] 1 [(0,w)] v λc x=>wn [] [] (aa c) [] λE=>W.calm [] ⟨10,(aa a++aa c),(aa a),[],false,[]⟩ (W.append 4 64 a c x λq y=>wn (aa a++aa c) (aa a) (aa q) [] λF=>W.faddr 6 d λz=>ds [] 12 1 z q y λA G=>wb .add 3 h (.ZO 1) λB=>r [s,d,g,t,B] A)))))
def jo(Q:R)(g:Vs)(a:SH)(h:Kn):Prop:=Jd 2 3 43 44 45 g λb c i d e=>wb .lss 3 e d λj=>wk j ((IC h a i e c b d)) (cp 7 c a λk=>W.store 7 b k a λf=>W.load true 7 b f λl=>Q l f)
def jp(Q:R)(h:Vs)(a:SH)(i:Kn):Prop:=J1 1 2 3 28 29 30 h λb c d j e f=>wb .lss 3 f e λk=>wk k ((IB i a j f d b c e)) (aC 6 b a λg=>W.len g λl=>W.loop (jo Q) [c,d,g,l,(.ZO 0)] a)
def ID(Q:R)(r:SH)(c s:AV)(a:Fp)(t:AV)(i:SH)(u:Ns):Prop:=wn [] u [] r.names λb=>W.faddr 0 c λv=>aN 0 v [rc 2 b,rm 1 a] 5 i λw d=>W.len w λx=>W.calm [rc 2 b,rm 1 a] ⟨7,[],[],[],false,[]⟩ (W.mslice 1 8 [(.ZO 0)] (.ZO 0) x i λj k=>wn [] [] (aa j) [] λe=>W.faddr 0 c λy=>aN 3 y [rm 7 e,rm 5 d,rc 2 b,rm 1 a] 10 k λz f=>W.len z λl=>W.calm [rm 7 e,rm 5 d,rc 2 b,rm 1 a] ⟨12,[],[],[],false,[]⟩ (W.mslice 1 8 [(.ZO 0)] l l k λm n=>wn [] [] (aa m) [] λg=>aN 6 c [rm 12 g,rm 10 f,rm 7 e,rm 5 d,rc 2 b,rm 1 a] 14 n λA B=>W.len A λC=>W.calm [rm 12 g,rm 10 f,rm 7 e,rm 5 d,rc 2 b,rm 1 a] ⟨16,[],[],[],false,[]⟩ (W.mslice 4 64 [(.ZO 0),.nils,.nils,(.ZO 0)] (.ZO 0) C n λo D=>wn [] [] (aa o) [] λE=>W.build [.nils,(.ZO 0),.nils,.nils,.nils,.nils,.nils] [(0,4,t),(4,1,j),(5,1,m),(6,1,o)] λF=>W.calm [rm 16 E,rm 14 B,rm 12 g,rm 10 f,rm 7 e,rm 5 d,rc 2 b,rm 1 a] ⟨18,[],[],[],false,[]⟩ (W.alloc [.nils,(.ZO 0),.nils,.nils,.nils,.nils,.nils] D λh G=>wn [] [] (aa h) [] λJ=>ds [] 19 7 h F G λp M=>W.faddr 0 c λH=>aC 0 H p λq=>W.len q λI=>W.loop (jp Q) [c,s,h,q,I,(.ZO 0)] p))))
def Cr(c:AV)(L:SH)(Q:R):Prop:=W.box c L λd e=>W.alloc [.nils,(.ZO 0),.nils,.nils,.nils,.nils,.nils] e λf g=>W.frz1 d g λb a=>(true=true)∧(W.faddr 0 b λh=>dr [] 1 6 h a λi j=>wd [] 2 (.fn 71 []) [i] a (ID Q a b f j))
theorem IE(t0:AV)(L:SH)(Q:R)(h:Cr t0 L Q):af Tryz.prog 40 [t0] L Q:=
 fs [] [(3,[1,2,3,28,29,30]),(8,[2,3,43,44,45])] [(0,[1]),(4,[5]),(9,[7])] [(1,[0,1,3,0,8,24,56,120,0,256,768,1792,3840,0,8192,24576,57344,131071,0,524287]),(10,[0,1,0,4,12,0,32,96,252,508,1023,2047,4095])] Tryz.func40 h
def ir(Q:R)(d:Vs)(a:SH):Prop:=tI 5 6 7 d λb e f=>(true=true)∧(dr [] 1 7 e a λg i=>ds [] 3 7 b g a λc j=>W.load true 7 b c λh=>Q (.tup [f,h]) c)
def GR(g:Kn)(c:SH)(h a i d j k l m n:AV):Prop:=(true=true)∧(dr [] 1 7 h c λo p=>W.calm [] ⟨2,[],[],[],false,[]⟩ (W.bslice 7 [(.ZO 0),(.ZO 0),(.ZO 0),(.ZO 0),(.ZO 0),.nils,.nils] 1 [(0,o)] c λb q=>wn [] [] (aa b) [] λr=>W.calm [] ⟨3,(aa a++aa b),(aa a),[],false,[]⟩ (W.append 7 88 a b q λe f=>wn (aa a++aa b) (aa a) (aa e) [] λs=>dr [rm 3 s,rm 2 r,rm 1 p] 4 7 i f λt w=>ds [] 6 7 d t f λu x=>wb .add 3 j (.ZO 1) λv=>g [k,l,d,e,m,n,v] u)))
def GS(b:Kn)(c d e f g h i a:AV)(m:SH):Prop:=W.ext 0 a λn=>W.ext 1 a λo=>W.ext 2 a λp=>W.alloc [.nils,(.ZO 0),.nils,.nils,.nils,.nils,.nils] m λj q=>W.alloc [(.ZO 0),(.ZO 0),(.ZO 0),(.ZO 0),(.ZO 0),.nils,.nils] q λk r=>W.store 7 j n r λs=>W.store 7 k o s λt=>W.frz1 j t λu v=>W.frz1 k v λw l=>wk p ((GR b l w c u d e f g h i)) (wb .add 3 e (.ZO 1) λx=>b [f,g,d,c,h,i,x] l)
def GT(i j:Kn)(d:SH)(e f b g c h k:AV):Prop:=ma 2 e f d λl=>rE [(.ZO 0),(.ZO 0)] 2 l d λm a=>W.len b λn=>wb .geq 3 n (.ZO 400) λo=>wk o (j [g,c,b] a) (cp 7 h a λp=>cp 7 c a λq=>cp 2 m a λr=>wc (.fn 25 []) [p,q,r] a (GS i b c f h g e k))
def lX(a:Kn)(h:Vs)(b:SH)(i:Kn):Prop:=NN 2 5 6 7 15 16 17 h λj c d e k f g=>wb .lss 3 g f λl=>wk l ((GT i a b k g e c d j f)) (a [c,d,e] b)
def GU(Q:R)(a c d e:AV)(f:SH):Prop:=W.alloc [.nils,(.ZO 0),.nils,.nils,.nils,.nils,.nils] f λb g=>W.store 7 b e g λh=>W.join (ir Q) λi=>W.len a λj=>W.loop (lX i) [c,d,b,.nils,a,j,(.ZO 0)] h
def zc(c d:AV)(L:SH)(Q:R):Prop:=W.box c L λe f=>W.alloc [.nils,(.ZO 0),.nils,.nils,.nils,.nils,.nils] f λg h=>W.frz1 e h λa b=>cp 7 a b λi=>wc (.fn 40 []) [i] b (GU Q d a g)
theorem GV(t0 t1:AV)(L:SH)(Q:R)(h:zc t0 t1 L Q):af Tryz.prog 22 [t0,t1] L Q:=
 fs [(10,[5,6,7])] [(4,[2,5,6,7,15,16,17])] [(0,[2]),(5,[9]),(7,[10,11])] [(9,[0,0,2,7,0,15,63]),(11,[0,0,1,7])] Tryz.func22 h
def Fi(Q:R)(c:SH)(a:AV):Prop:=W.build [(.ZO 0),(.ZO 0),(.ZO 0),(.ZO 0),(.ZO 0),.nils,.nils] [] λd=>W.store 7 a d c λb=>W.load true 7 a b λe=>Q (.tup [e,(.bool false)]) b
def Fj(Q:R)(c:SH)(a:AV):Prop:=W.build [(.ZO 0),(.ZO 0),(.ZO 0),(.ZO 0),(.ZO 0),.nils,.nils] [] λd=>W.store 7 a d c λb=>W.load true 7 a b λe=>Q (.tup [e,(.bool false)]) b
def Fk(Q:R)(c:SH)(d a:AV):Prop:=W.build [(.ZO 0),(.ZO 0),(.ZO 0),(.ZO 0),(.ZO 0),.nils,.nils] [(0,1,d),(1,1,(.ZO 1)),(2,1,(.ZO (-1))),(4,1,(.ZO (-1)))] λe=>W.store 7 a e c λb=>W.load true 7 a b λf=>Q (.tup [f,(.bool true)]) b
def Fm(Q:R)(a:SH)(d e f b:AV):Prop:=aC 1 e a λg=>aC 5 f a λh=>W.build [(.ZO 0),(.ZO 0),(.ZO 0),(.ZO 0),(.ZO 0),.nils,.nils] [(0,1,d),(1,1,(.ZO 17)),(2,1,g),(4,1,h)] λi=>W.store 7 b i a λc=>W.load true 7 b c λj=>Q (.tup [j,(.bool true)]) c
def Fn(Q:R)(a c:AV)(d:SH):Prop:=W.store 7 a c d λb=>W.load true 7 a b λe=>Q (.tup [e,(.bool true)]) b
def Fo(Q:R)(c:SH)(a:AV):Prop:=W.build [(.ZO 0),(.ZO 0),(.ZO 0),(.ZO 0),(.ZO 0),.nils,.nils] [] λd=>W.store 7 a d c λb=>W.load true 7 a b λe=>Q (.tup [e,(.bool false)]) b
def Fq(Q:R)(a:SH)(d b e c:AV):Prop:=aC 0 b a λf=>W.idxP 29 1 (Rq 0) f λg=>wl g a λh=>wb .neq 3 h (.ZO 0) λi=>wk i (cp 6 b a λj=>cp 4 e a λk=>wc (.fn 53 []) [j,k,d] a (Fn Q c)) ((Fo Q a c))
def Fs(Q:R)(c:SH)(a:AV):Prop:=W.build [(.ZO 0),(.ZO 0),(.ZO 0),(.ZO 0),(.ZO 0),.nils,.nils] [] λd=>W.store 7 a d c λb=>W.load true 7 a b λe=>Q (.tup [e,(.bool false)]) b
def Ft(Q:R)(a:SH)(c d f e b g:AV):Prop:=wb .eql 3 d (.ZO 4) λh=>wk h ((Fm Q a c f e b)) (wb .eql 3 d (.ZO 2) λi=>wk i ((Fq Q a c e g b)) ((Fs Q a b)))
def Fu(Q:R)(a:SH)(c h d e f:AV):Prop:=aC 1 h a λi=>aC 0 d a λj=>ma 6 i j a λk=>rE [(.ZO 0),(.ZO 0),(.ZO 0),(.ZO 0),(.ZO 0),(.ZO 0)] 6 k a λl b=>aC 0 e b λg=>wb .eql 3 g (.ZO 1) λm=>wk m ((Fk Q b c f)) ((Ft Q b c g e l f d))
def Fv(Q:R)(a:SH)(o E t u:AV):Prop:=(true=true)∧(aN 6 E [] 1 a λF b=>di [] 3 2 F o a λG c=>dr [] 4 2 G a λH d=>aN 6 t [rm 4 d,rm 3 c,rm 1 b] 6 a λI e=>di [rm 4 d,rm 3 c,rm 1 b] 8 4 I o a λJ f=>dr [rm 4 d,rm 3 c,rm 1 b] 9 4 J a λM g=>W.faddr 0 t λN=>aN 3 N [rm 9 g,rm 8 f,rm 6 e,rm 4 d,rm 3 c,rm 1 b] 12 a λO k=>di [rm 9 g,rm 8 f,rm 6 e,rm 4 d,rm 3 c,rm 1 b] 14 3 O o a λP l=>dr [rm 9 g,rm 8 f,rm 6 e,rm 4 d,rm 3 c,rm 1 b] 15 3 P a λS m=>W.calm [rm 15 m,rm 14 l,rm 12 k,rm 9 g,rm 8 f,rm 6 e,rm 4 d,rm 3 c,rm 1 b] ⟨16,[],[],[],false,[]⟩ (W.alloc [(.ZO 0),.nils] a λq T=>wn [] [] (aa q) [] λv=>W.calm [rm 16 v,rm 15 m,rm 14 l,rm 12 k,rm 9 g,rm 8 f,rm 6 e,rm 4 d,rm 3 c,rm 1 b] ⟨17,[],[],[],false,[]⟩ (W.alloc [(.ZO 0),.nils,.nils,(.ZO 0)] T λr U=>wn [] [] (aa r) [] λV=>W.calm [rm 17 V,rm 16 v,rm 15 m,rm 14 l,rm 12 k,rm 9 g,rm 8 f,rm 6 e,rm 4 d,rm 3 c,rm 1 b] ⟨18,[],[],[],false,[]⟩ (W.alloc [(.ZO 0),(.ZO 0),(.bool false)] U λs X=>wn [] [] (aa s) [] λd5=>ds [rm 15 m,rm 14 l,rm 12 k,rm 9 g,rm 8 f,rm 6 e] 19 2 q H X λY d6=>ds [rm 15 m,rm 14 l,rm 12 k] 20 4 r M Y λZ d7=>ds [] 21 3 s S Z λa0 d8=>W.frz1 q a0 λp a1=>W.frz1 r a1 λn a2=>W.frz1 s a2 λa3 w=>aC 0 n w λa4=>wb .lss 3 a4 (.ZO 0) λh=>wg h false (W.faddr 0 n) w λa5 x=>wg h false (wl a5 x) x λa6 a7=>wg h false (W.faddr 1 p) a7 λa8 y=>wg h false (wl a8 y) y λa9 b0=>wg h false (W.len a9) b0 λb1 b2=>wg h false (wb .geq 3 a6 b1) b2 λb3 b4=>W.pick h (.bool true) b3 λi=>wg i false (W.faddr 1 n) b4 λb5 z=>wg i false (wl b5 z) z λb6 b7=>wg i false (W.len b6) b7 λb8 b9=>wg i false (W.faddr 0 p) b9 λc0 A=>wg i false (wl c0 A) A λc1 c2=>wg i false (wb .neq 3 b8 c1) c2 λc3 c4=>W.pick i (.bool true) c3 λj=>wg j false (W.faddr 2 n) c4 λc5 B=>wg j false (wl c5 B) B λc6 c7=>wg j false (W.len c6) c7 λc8 c9=>wg j false (W.faddr 0 p) c9 λd0 C=>wg j false (wl d0 C) C λd1 d2=>wg j false (wb .neq 3 c8 d1) d2 λd3 D=>W.pick j (.bool true) d3 λd4=>wk d4 ((Fj Q D u)) ((Fu Q D o p n a3 u))))))
def tR(l m d:AV)(L:SH)(Q:R):Prop:=W.box l L λn o=>W.box m o λp q=>W.alloc [(.ZO 0),(.ZO 0),(.ZO 0),(.ZO 0),(.ZO 0),.nils,.nils] q λf r=>W.frz1 n r λg s=>W.frz1 p s λe t=>wb .lss 3 d (.ZO 0) λb=>bJ b false d t λu v=>wg b false (W.faddr 6 g) v λw h=>wg b false (wl w h) h λx y=>wg b false (W.len x) y λz A=>wg b false (wb .geq 3 u z) A λB C=>W.pick b (.bool true) B λc=>bJ c false d C λD E=>wg c false (W.faddr 6 e) E λF i=>wg c false (wl F i) i λG H=>wg c false (W.len G) H λI J=>wg c false (wb .geq 3 D I) J λM N=>W.pick c (.bool true) M λa=>bJ a false d N λO P=>wg a false (W.faddr 0 e) P λS T=>wg a false (W.faddr 3 S) T λU j=>wg a false (wl U j) j λV X=>wg a false (W.len V) X λY Z=>wg a false (wb .geq 3 O Y) Z λa0 k=>W.pick a (.bool true) a0 λa1=>wk a1 ((Fi Q k f)) ((Fv Q k d g e f))
theorem Fx(t0 t1 t2:AV)(L:SH)(Q:R)(h:tR t0 t1 t2 L Q):af Tryz.prog 26 [t0,t1,t2] L Q:=
 fs [] [] [(0,[3,4]),(3,[8,9,10]),(6,[11])] [(3,[0,1,0,7,15,0,32,0,224,480,0,1024,3072,0,15360,31744,0,0,0,458783,984063,2097151])] Tryz.func26 h
def uo(Q:R)(a:SH)(f b c:AV):Prop:=aC 2 f a λg=>W.faddr 2 b λh=>W.store 1 h g a λd=>cp 7 b d λi=>W.store 7 c i d λe=>W.load true 7 c e λj=>Q j e
def uq(Q:R)(a b e:AV)(f:SH):Prop:=W.faddr 5 a λg=>W.store 1 g e f λc=>cp 7 a c λh=>W.store 7 b h c λd=>W.load true 7 b d λi=>Q i d
def ur(Q:R)(c:SH)(d b e f g h:AV)(i:SH)(j:Ns):Prop:=wn [] j [] c.names λp=>wb .add 3 d h λk=>W.faddr 2 b λl=>ds [] 13 1 l k i λa q=>aC 2 e a λm=>aC 3 f a λn=>tH 1 m n a λo=>wc (.fn 81 []) [o] a (uq Q b g)
def ut(Q:R)(a:SH)(c d f g:AV):Prop:=(true=true)∧(aN 2 c [] 1 a λh b=>aN 1 d [rm 1 b] 3 a λi e=>aN 3 c [rm 3 e,rm 1 b] 5 a λj k=>di [rm 1 b] 6 1 i j a λl m=>dl [rm 1 b] 7 l a λn o=>aN 4 c [rm 7 o,rm 6 m,rm 5 k,rm 3 e,rm 1 b] 9 a λp q=>wd [rm 1 b] 10 (.fn 84 []) [n,p] a (ur Q a h f d c g))
def uu(Q:R)(a b e:AV)(f:SH):Prop:=W.faddr 6 a λg=>W.store 1 g e f λc=>cp 7 a c λh=>W.store 7 b h c λd=>W.load true 7 b d λi=>Q i d
def uv(Q:R)(a b e:AV)(f:SH):Prop:=W.faddr 6 a λg=>W.store 1 g e f λc=>cp 7 a c λh=>W.store 7 b h c λd=>W.load true 7 b d λi=>Q i d
def uw(Q:R)(b c d e f:AV)(g:SH):Prop:=W.faddr 5 b λh=>W.store 1 h f g λa=>aC 2 c a λi=>aC 2 d a λj=>tH 1 i j a λk=>wc (.fn 81 []) [k] a (uv Q b e)
def ux(Q:R)(e:SH)(f b c d g h:AV)(i:SH)(j:Ns):Prop:=wn [] j [] e.names λp=>wb .add 3 f h λk=>W.faddr 2 b λl=>ds [] 13 1 l k i λa q=>aC 2 c a λm=>aC 3 d a λn=>tH 1 m n a λo=>wc (.fn 81 []) [o] a (uw Q b c d g)
def uy(Q:R)(a:SH)(c d f g:AV):Prop:=(true=true)∧(aN 1 c [] 1 a λh b=>aN 1 d [rm 1 b] 3 a λi e=>aN 3 c [rm 3 e,rm 1 b] 5 a λj k=>di [rm 1 b] 6 1 i j a λl m=>dl [rm 1 b] 7 l a λn o=>aN 4 c [rm 7 o,rm 6 m,rm 5 k,rm 3 e,rm 1 b] 9 a λp q=>wd [rm 1 b] 10 (.fn 84 []) [n,p] a (ux Q a h f d c g))
def uz(Q:R)(a b e:AV)(f:SH):Prop:=W.faddr 5 a λg=>W.store 1 g e f λc=>cp 7 a c λh=>W.store 7 b h c λd=>W.load true 7 b d λi=>Q i d
def uA(Q:R)(c:SH)(b d e f:AV):Prop:=W.faddr 2 b λg=>W.store 1 g (.ZO (-1)) c λa=>aC 2 d a λh=>aC 1 e a λi=>tH 1 h i a λj=>wc (.fn 81 []) [j] a (uz Q b f)
def uB(Q:R)(e:SH)(a b:AV):Prop:=W.faddr 2 a λf=>W.store 1 f (.ZO (-1)) e λc=>cp 7 a c λg=>W.store 7 b g c λd=>W.load true 7 b d λh=>Q h d
def uC(Q:R)(e:SH)(a b:AV):Prop:=W.faddr 2 a λf=>W.store 1 f (.ZO (-1)) e λc=>cp 7 a c λg=>W.store 7 b g c λd=>W.load true 7 b d λh=>Q h d
def uD(Q:R)(e:SH)(a b:AV):Prop:=W.faddr 2 a λf=>W.store 1 f (.ZO (-1)) e λc=>cp 7 a c λg=>W.store 7 b g c λd=>W.load true 7 b d λh=>Q h d
def uE(Q:R)(e:SH)(a b:AV):Prop:=W.faddr 2 a λf=>W.store 1 f (.ZO (-1)) e λc=>cp 7 a c λg=>W.store 7 b g c λd=>W.load true 7 b d λh=>Q h d
def uF(Q:R)(e:SH)(a b:AV):Prop:=W.faddr 2 a λf=>W.store 1 f (.ZO (-1)) e λc=>cp 7 a c λg=>W.store 7 b g c λd=>W.load true 7 b d λh=>Q h d
def uG(Q:R)(a:SH)(e c b:AV):Prop:=wb .eql 3 e (.ZO 20) λf=>wk f ((uF Q a c b)) (cp 7 c a λg=>W.store 7 b g a λd=>W.load true 7 b d λh=>Q h d)
def rY(Q:R)(a:SH)(d c b:AV):Prop:=wb .eql 3 d (.ZO 19) λe=>wk e (wk e ((uE Q a c b)) (cp 7 c a λg=>W.store 7 b g a λf=>W.load true 7 b f λh=>Q h f)) ((uG Q a d c b))
def rZ(Q:R)(a:SH)(d c b:AV):Prop:=wb .eql 3 d (.ZO 18) λe=>wk e (wk e ((uD Q a c b)) (cp 7 c a λg=>W.store 7 b g a λf=>W.load true 7 b f λh=>Q h f)) ((rY Q a d c b))
def r6(Q:R)(a:SH)(d c b:AV):Prop:=wb .eql 3 d (.ZO 17) λe=>wk e (wk e ((uC Q a c b)) (cp 7 c a λg=>W.store 7 b g a λf=>W.load true 7 b f λh=>Q h f)) ((rZ Q a d c b))
def r7(Q:R)(a:SH)(d c b:AV):Prop:=wb .eql 3 d (.ZO 28) λe=>wk e (wk e ((uB Q a c b)) (cp 7 c a λg=>W.store 7 b g a λf=>W.load true 7 b f λh=>Q h f)) ((r6 Q a d c b))
def r8(Q:R)(a:SH)(b e f c d:AV):Prop:=wb .eql 3 b (.ZO 9) λg=>wk g ((uy Q a e f c d)) (wb .eql 3 b (.ZO 10) λh=>wk h ((uA Q a c f e d)) ((r7 Q a b c d)))
def uH(Q:R)(f:Vs)(a:SH):Prop:=J1 3 4 6 7 19 49 f λb c d e g h=>wk h (aC 2 c a λi=>aC 2 b a λj=>tH 1 i j a λk=>wc (.fn 81 []) [k] a (uu Q e d)) ((r8 Q a g b c e d))
def r9(Q:R)(b:SH)(a c d e f:AV):Prop:=W.join (uH Q) λg=>wb .eql 3 a (.ZO 8) λh=>wk h (g [c,d,e,f,a,h] b) (wb .eql 3 a (.ZO 26) λi=>g [c,d,e,f,a,i] b)
def uI(Q:R)(g:Vs)(a:SH):Prop:=J1 3 4 6 7 19 20 g λb e c d f h=>wk h ((uo Q a b d c)) (wb .eql 3 f (.ZO 7) λi=>wk i ((ut Q a b e d c)) ((r9 Q a f b e c d)))
def bG(n o p:AV)(L:SH)(Q:R):Prop:=W.box n L λq r=>W.box o r λs t=>W.alloc [(.ZO 0),(.ZO 0),(.ZO 0),(.ZO 0),(.ZO 0),.nils,.nils] t λi u=>W.frz1 q u λa v=>W.frz1 s v λj b=>(true=true)∧(aN 0 a [] 2 b λw e=>W.calm [] ⟨3,(ed (Rq 0)),[],[],false,[]⟩ (W.idxP 29 1 (Rq 0) w λx=>wn (ed (Rq 0)) [] [] [] λf=>dl [] 4 x b λy g=>aN 1 a [rm 4 g,rm 3 f,rm 2 e] 6 b λz k=>aN 5 a [rm 6 k,rm 4 g,rm 3 f,rm 2 e] 8 b λA B=>W.build [(.ZO 0),(.ZO 0),(.ZO 0),(.ZO 0),(.ZO 0),.nils,.nils] [(0,1,p),(1,1,y),(2,1,z),(4,1,A)] λC=>W.calm [rm 8 B,rm 6 k,rm 4 g,rm 3 f,rm 2 e] ⟨10,[],[],[],false,[]⟩ (W.alloc [(.ZO 0),(.ZO 0),(.ZO 0),(.ZO 0),(.ZO 0),.nils,.nils] b λc D=>wn [] [] (aa c) [] λF=>ds [] 11 7 c C D λh G=>aC 0 a h λd=>W.join (uI Q) λl=>wb .eql 3 d (.ZO 6) λm=>wk m (l [a,j,i,c,d,m] h) (wb .eql 3 d (.ZO 27) λE=>l [a,j,i,c,d,E] h))))
theorem uJ(t0 t1 t2:AV)(L:SH)(Q:R)(h:bG t0 t1 t2 L Q):af Tryz.prog 53 [t0,t1,t2] L Q:=
 fs [(4,[3,4,6,7,19,20]),(10,[3,4,6,7,19,49])] [] [(0,[3,4])] [(1,[0,0,2,6,14,0,32,0,128,511,0,2047]),(7,[0,1,0,4,0,16,60,124,0,256,1020,2047,4095,8191]),(13,[0,1,0,4,0,16,60,124,0,256,1020,2047,4095,8191])] Tryz.func53 h
def Kr(Q:R)(d:SH)(b c:AV):Prop:=W.build [.nils,(.ZO 0),.nils,.nils,.nils,.nils,.nils] [] λe=>W.build [(.ZO 0),(.ZO 0),(.ZO 0),(.ZO 0),(.ZO 0),.nils,.nils] [] λf=>W.store 7 b e d λg=>W.store 7 c f g λa=>W.load true 7 b a λh=>W.load true 7 c a λi=>Q (.tup [h,i,(.bool false)]) a
def Ks(Q:R)(d:SH)(b c:AV):Prop:=W.build [.nils,(.ZO 0),.nils,.nils,.nils,.nils,.nils] [] λe=>W.build [(.ZO 0),(.ZO 0),(.ZO 0),(.ZO 0),(.ZO 0),.nils,.nils] [] λf=>W.store 7 b e d λg=>W.store 7 c f g λa=>W.load true 7 b a λh=>W.load true 7 c a λi=>Q (.tup [h,i,(.bool false)]) a
def Kt(Q:R)(e:Vs)(a:SH):Prop:=ug 6 7 9 13 e λc d f g=>(true=true)∧(dr [] 0 7 g a λh i=>dr [rm 0 i] 1 7 f a λj k=>ds [rm 1 k] 2 7 c h a λl o=>ds [] 3 7 d j l λb p=>W.load true 7 c b λm=>W.load true 7 d b λn=>Q (.tup [m,n,(.bool true)]) b)
def Ku(Q:R)(d:SH)(b c:AV):Prop:=W.build [.nils,(.ZO 0),.nils,.nils,.nils,.nils,.nils] [] λe=>W.build [(.ZO 0),(.ZO 0),(.ZO 0),(.ZO 0),(.ZO 0),.nils,.nils] [] λf=>W.store 7 b e d λg=>W.store 7 c f g λa=>W.load true 7 b a λh=>W.load true 7 c a λi=>Q (.tup [h,i,(.bool false)]) a
def qT(Q:R)(f:Kn)(g:SH)(c d h i j:AV)(k l m n o:Fp)(e:AV)(p:SH)(q:Ns):Prop:=wn [] q [] g.names λr=>W.ext 0 e λs=>W.ext 1 e λt=>W.calm [rc 9 r,rm 8 k,rm 5 l,rm 4 m,rm 3 n,rm 1 o] ⟨13,[],[],[],false,[]⟩ (W.alloc [(.ZO 0),.nils,.nils,(.ZO 0)] p λa u=>wn [] [] (aa a) [] λB=>ds [] 14 4 a s u λv C=>W.frz1 a v λw b=>W.un .not t λx=>wk x ((Ku Q b c d)) (cp 4 w b λy=>W.nilchk h λz=>W.store 4 z y b λA=>f [c,d,i,j] A))
def Kv(Q:R)(g:Kn)(a:SH)(h i c j k l m:AV):Prop:=(true=true)∧(aN 6 h [] 1 a λn b=>aN 0 i [rm 1 b] 3 a λo d=>di [] 4 2 n o a λp e=>dr [] 5 2 p a λq f=>W.nilchk c λr=>dr [rm 5 f,rm 4 e,rm 3 d,rm 1 b] 8 4 r a λs t=>wd [] 9 (.fn 52 []) [q,s] a (qT Q g a j k c l m t f e d b))
def bR(Q:R)(l:Vs)(m:SH):Prop:=Ua 3 5 6 7 9 13 14 17 l λn o d e a f b p=>W.nilchk b λq=>W.faddr 0 q λr=>W.store 1 r p m λg=>dV 3 b g λs=>wb .add 3 s (.ZO 1) λt=>W.nilchk b λu=>W.faddr 3 u λv=>W.store 1 v t g λh=>W.join (Kt Q) λi=>aC 1 a h λw=>wb .neq 3 w (.ZO 16) λc=>wg c true (W.faddr 1 a) h λx j=>wg c true (wl x j) j λy z=>wg c true (wb .neq 3 y (.ZO 2)) z λA k=>W.pick c A (.bool false) λB=>wk B ((Kv Q i k n o b d e a f)) (i [d,e,a,f] k)
def Cs(o:Kn)(c:SH)(i d g j p q r s t u:AV):Prop:=aC 4 i c λv=>aC 2 d c λw=>tH 1 v w c λx=>W.faddr 3 d λy=>W.store 1 y x c λa=>(true=true)∧(W.nilchk g λz=>aN 1 z [] 3 a λA b=>aN 1 j [rm 3 b] 5 a λB e=>W.nilchk g λC=>aN 2 C [rm 5 e,rm 3 b] 9 a λD h=>aN 1 j [rm 9 h,rm 5 e,rm 3 b] 11 a λE f=>aN 3 d [rm 11 f,rm 9 h,rm 5 e,rm 3 b] 13 a λF G=>W.calm [rm 13 G,rm 11 f,rm 9 h,rm 5 e,rm 3 b] ⟨15,[],[],[],false,[]⟩ (W.bslice 1 [(.ZO 0)] 1 [(0,p)] a λk l=>wn [] [] (aa k) [] λm=>di [rm 15 m,rm 11 f] 16 1 A B l λH M=>ds [rm 15 m,rm 11 f] 17 1 H F l λn N=>di [] 18 1 D E n λI O=>ds [] 19 1 I k n λJ P=>o [q,r,s,t,d,i,g,u] J))
def Kw(o:Kn)(c:SH)(i d g j p q r s t u:AV):Prop:=aC 5 i c λv=>aC 2 d c λw=>tH 1 v w c λx=>W.faddr 3 d λy=>W.store 1 y x c λa=>(true=true)∧(W.nilchk g λz=>aN 1 z [] 3 a λA b=>aN 1 j [rm 3 b] 5 a λB e=>W.nilchk g λC=>aN 2 C [rm 5 e,rm 3 b] 9 a λD h=>aN 1 j [rm 9 h,rm 5 e,rm 3 b] 11 a λE f=>aN 3 d [rm 11 f,rm 9 h,rm 5 e,rm 3 b] 13 a λF G=>W.calm [rm 13 G,rm 11 f,rm 9 h,rm 5 e,rm 3 b] ⟨15,[],[],[],false,[]⟩ (W.bslice 1 [(.ZO 0)] 1 [(0,p)] a λk l=>wn [] [] (aa k) [] λm=>di [rm 15 m,rm 11 f] 16 1 A B l λH M=>ds [rm 15 m,rm 11 f] 17 1 H F l λn N=>di [] 18 1 D E n λI O=>ds [] 19 1 I k n λJ P=>o [q,r,s,t,d,i,g,u] J))
def Kx(f:Kn)(a:SH)(d g c e h i j k l:AV):Prop:=(true=true)∧(W.nilchk d λm=>aN 1 m [] 3 a λn o=>aN 2 g [rm 3 o] 5 a λp y=>di [] 6 1 n p a λq z=>dl [] 7 q a λr A=>W.faddr 3 c λs=>ds [] 9 1 s r a λb B=>aC 4 e b λt=>aC 2 c b λu=>aC 3 c b λv=>W.idx 1 t u b λw=>W.store 1 w v b λx=>f [h,i,j,k,c,e,d,l] x)
def Ky(f:Kn)(a:SH)(d g c e h i j k l:AV):Prop:=(true=true)∧(W.nilchk d λm=>aN 1 m [] 3 a λn o=>aN 2 g [rm 3 o] 5 a λp y=>di [] 6 1 n p a λq z=>dl [] 7 q a λr A=>W.faddr 3 c λs=>ds [] 9 1 s r a λb B=>aC 5 e b λt=>aC 2 c b λu=>aC 3 c b λv=>W.idx 1 t u b λw=>W.store 1 w v b λx=>f [h,i,j,k,c,e,d,l] x)
def Kz(d:Kn)(a:SH)(b e c f g h i j k:AV):Prop:=(true=true)∧(W.nilchk b λl=>aN 1 l [] 3 a λm n=>aN 1 e [rm 3 n] 5 a λo v=>di [] 6 1 m o a λp w=>dl [] 7 p a λq x=>wb .neq 2 q (.ZO 0) λr=>wk r (W.faddr 3 c λs=>W.store 1 s (.ZO 1) a λt=>d [f,g,h,i,c,j,b,k] t) (aC 2 e a λu=>d [f,g,h,i,c,j,b,u] a))
def KA(c:Kn)(j:Vs)(a:SH):Prop:=OJ 3 5 6 7 9 13 14 17 215 j λd e f g h i b k l=>wk l (dV 0 b a λm=>c [d,e,f,g,h,i,b,m] a) (c [d,e,f,g,h,i,b,k] a)
def KB(a:Kn)(b:SH)(c d e f g h i j k:AV):Prop:=wb .eql 3 c (.ZO 16) λl=>wk l (a [d,e,f,g,h,i,j,k,l] b) (wb .eql 3 c (.ZO 2) λm=>a [d,e,f,g,h,i,j,k,m] b)
def IF(m:Kn)(a:SH)(b c d e f g h i j:AV):Prop:=W.join (KA m) λk=>wb .eql 3 b (.ZO 1) λl=>wk l (k [c,d,e,f,g,h,i,j,l] a) ((KB k a b c d e f g h i j))
def KC(b:Kn)(k:Vs)(c:SH):Prop:=Ud 3 5 6 7 9 12 13 14 17 105 210 k λd e f g a l h i j m n=>wk n (W.faddr 3 a λo=>W.store 1 o l c λp=>b [d,e,f,g,a,h,i,j] p) ((IF b c m d e f g a h i j))
def IG(n:Kn)(b:SH)(a c d e f g h i j k:AV):Prop:=W.join (KC n) λl=>wb .eql 3 a (.ZO 18) λm=>wk m (l [c,d,e,f,g,h,i,j,k,a,m] b) (wb .eql 3 a (.ZO 19) λo=>l [c,d,e,f,g,h,i,j,k,a,o] b)
def IH(a:Kn)(b:SH)(c d l e f g h i j k m:AV):Prop:=wb .eql 3 c (.ZO 5) λn=>wk n ((Kz a b d l e f g h i j k)) ((IG a b c f g h i e m j d k))
def II(a:Kn)(b:SH)(c d e f g h i j k l m:AV):Prop:=wb .eql 3 c (.ZO 22) λn=>wk n ((Ky a b d e f g h i j k l)) ((IH a b c d e f h i j k g l m))
def IJ(a:Kn)(b:SH)(c d e f g h i j k l m:AV):Prop:=wb .eql 3 c (.ZO 4) λn=>wk n ((Kx a b d e f g h i j k l)) ((II a b c d e f g h i j k l m))
def zd(a:Kn)(b:SH)(c d e f g m h i j k l n:AV):Prop:=wb .eql 3 c (.ZO 23) λo=>wk o ((Kw a b d e f g m h i j k l)) ((IJ a b c f g e d h i j k l n))
def ld(Q:R)(u e f g j k v w:AV)(x:SH):Prop:=W.alloc [.nils,(.ZO 0),.nils,.nils,.nils,.nils,.nils] x λb y=>W.store 7 b w y λl=>cp 4 u l λz=>W.faddr 0 b λA=>W.store 4 A z l λa=>aC 6 b a λB=>aC 0 e a λC=>W.idx 4 B C a λc=>(true=true)∧(aN 6 f [] 1 a λD h=>aN 0 e [rm 1 h] 3 a λE m=>di [] 4 2 D E a λF n=>aN 1 F [] 6 a λG o=>W.nilchk c λH=>aN 0 H [rm 6 o,rm 4 n,rm 3 m,rm 1 h] 10 a λI J=>di [] 11 6 G I a λM N=>dr [] 12 6 M a λO P=>W.calm [rm 12 P,rm 11 N,rm 10 J,rm 6 o,rm 4 n,rm 3 m,rm 1 h] ⟨13,[],[],[],false,[]⟩ (W.alloc [(.ZO 0),(.ZO 0),(.ZO 0),(.ZO 0),(.ZO 0),(.ZO 0)] a λi S=>wn [] [] (aa i) [] λa0=>ds [] 14 6 i O S λT a1=>W.frz1 i T λp d=>(true=true)∧(W.nilchk c λU=>aN 3 U [] 3 d λq V=>W.nilchk c λX=>aN 0 X [rm 3 V] 7 d λY a2=>wb .add 3 Y (.ZO 1) λr=>W.join (bR Q) λs=>aC 1 g d λt=>wb .eql 3 t (.ZO 3) λZ=>wk Z ((Cs s d b g c p q f e j k r)) ((zd s d t b g c p q f e j k r v)))))
def KD(Q:R)(c d e f g h a:AV)(i:SH):Prop:=W.ext 0 a λj=>W.ext 1 a λk=>W.ext 2 a λl=>rE [.nils,(.ZO 0),.nils,.nils] 4 j i λm b=>W.un .not l λn=>wk n ((Ks Q b c d)) (cp 7 e b λo=>wc (.fn 51 []) [o] b (ld Q m f g h c d k))
def IK(Q:R)(a:SH)(d e b c f g:AV):Prop:=W.faddr 0 d λh=>cp 6 h a λi=>W.faddr 0 e λj=>cp 4 j a λk=>aC 0 b a λl=>aC 1 c a λm=>aC 2 c a λn=>aC 1 b a λo=>wc (.fn 50 []) [i,k,l,m,n,o] a (KD Q f g e b d c)
def KE(Q:R)(c d e f n g:AV)(o:SH):Prop:=W.ext 0 g λp=>W.ext 1 g λq=>W.alloc [(.ZO 0),(.ZO 0),(.ZO 0),(.ZO 0),(.ZO 0),.nils,.nils] o λh r=>W.store 7 h p r λs=>W.un .not q λa=>wg a false (W.faddr 4 c) s λt i=>wg a false (wl t i) i λu v=>wg a false (W.len u) v λw x=>wg a false (W.faddr 0 d) x λy z=>wg a false (W.faddr 0 y) z λA j=>wg a false (wl A j) j λB C=>wg a false (W.len B) C λD E=>wg a false (wb .neq 3 w D) E λF G=>W.pick a (.bool true) F λb=>wg b false (W.faddr 5 c) G λH k=>wg b false (wl H k) k λI J=>wg b false (W.len I) J λM N=>wg b false (W.faddr 0 d) N λO P=>wg b false (W.faddr 3 O) P λS l=>wg b false (wl S l) l λT U=>wg b false (W.len T) U λV X=>wg b false (wb .neq 3 M V) X λY m=>W.pick b (.bool true) Y λZ=>wk Z ((Kr Q m e f)) ((IK Q m d c n h e f))
def Fy(e f g:AV)(L:SH)(Q:R):Prop:=W.box e L λh i=>W.box f i λj k=>W.box g k λl m=>W.alloc [.nils,(.ZO 0),.nils,.nils,.nils,.nils,.nils] m λn o=>W.alloc [(.ZO 0),(.ZO 0),(.ZO 0),(.ZO 0),(.ZO 0),.nils,.nils] o λp q=>W.frz1 h q λb r=>W.frz1 j r λc s=>W.frz1 l s λd a=>cp 7 b a λt=>cp 7 c a λu=>aC 0 d a λv=>wc (.fn 26 []) [t,u,v] a (KE Q c b n p d)
theorem KG(t0 t1 t2:AV)(L:SH)(Q:R)(h:Fy t0 t1 t2 L Q):af Tryz.prog 25 [t0,t1,t2] L Q:=
 fs [(35,[3,5,6,7,9,13,14,17]),(42,[6,7,9,13]),(30,[3,5,6,7,9,12,13,14,17,105,210]),(34,[3,5,6,7,9,13,14,17,215])] [] [(0,[3,4,5]),(4,[11]),(10,[15]),(39,[18])] [(10,[0,1,0,4,15,31,63,0,128,384,896,2047,4095,0,16383]),(11,[0,1,3,7,0,16,48,112,240,15,1023]),(15,[0,1,3,7,0,16,0,64,192,448,0,1024,0,4096,0,16384,13311,78847,262143,524287]),(18,[0,1,3,7,0,16,0,64,192,448,0,1024,0,4096,0,16384,13311,78847,262143,524287]),(20,[0,1,3,7,0,16,63,127,255,511]),(23,[0,1,3,7,0,16,63,127,255,511]),(26,[0,1,3,7,0,16,63,127,255]),(39,[0,1,0,4,15,31,0,64,192,511,1023,2047,2047,0,12287,32767]),(43,[0,0,1,7,15])] Tryz.func25 h
def Bs(e:Kn)(f:SH)(a c g h i j k l m n:AV)(o:Fp)(p:AV)(q:SH)(r:Ns):Prop:=wn [] r [] f.names λx=>W.calm [rm 1 o] ⟨4,[],[],[],false,[]⟩ (W.bslice 1 [.nils] 1 [(0,p)] q λb s=>wn [] [] (aa b) [] λy=>W.calm [] ⟨5,(aa a++aa b),(aa a),[],false,[]⟩ (W.append 1 24 a b s λd t=>wn (aa a++aa b) (aa a) (aa d) [] λz=>W.faddr 2 c λu=>ds [] 7 1 u d t λv A=>wb .add 3 g (.ZO 1) λw=>e [h,i,c,j,k,l,m,n,w] v))
def Bt(f:Kn)(a:SH)(b c d g h i j k l:AV):Prop:=tH 1 b c a λm=>(true=true)∧(aN 2 d [] 1 a λn e=>wd [rm 1 e] 3 (.fn 81 []) [m] a (Bs f a n d c g h i j k b l e))
def fe(c:Kn)(a:SH)(b d e f g h:AV):Prop:=aC 6 b a λi=>cp 4 d a λj=>W.bslice 4 [(.ZO 0),.nils,.nils,(.ZO 0)] 1 [(0,j)] a λk l=>W.append 4 64 i k l λm n=>W.faddr 6 b λo=>W.store 1 o m n λp=>wb .add 3 e (.ZO 1) λq=>c [f,b,g,h,q] p
def ik(j:Kn)(k:Vs)(a:SH)(l:Kn):Prop:=OJ 2 3 6 21 22 23 41 42 43 k λb c d e f g m h i=>wb .lss 3 i h λn=>wk n ((Bt l a m i d b c e f g h)) ((fe j a c d g b e f))
def mI(j:Kn)(k:SH)(b l m n o p q:AV)(c d:Fp)(r:AV)(e:SH)(s:Ns):Prop:=wn [] s [] k.names λf=>aN 3 b [rc 4 f,rm 3 c,rm 1 d] 6 e λt u=>W.build [(.ZO 0),.nils,.nils,(.ZO 0)] [(0,1,l),(1,1,r),(3,1,t)] λv=>W.calm [rm 6 u,rc 4 f,rm 3 c,rm 1 d] ⟨8,[],[],[],false,[]⟩ (W.alloc [(.ZO 0),.nils,.nils,(.ZO 0)] e λa w=>wn [] [] (aa a) [] λD=>ds [] 9 4 a v w λg E=>aC 2 b g λx=>W.len x λy=>W.mslice 1 24 [.nils] (.ZO 0) y g λz A=>W.faddr 2 a λB=>W.store 1 B z A λh=>aC 2 b h λi=>W.len i λC=>W.loop (ik j) [m,n,a,o,p,q,i,C,(.ZO 0)] h)
def Bu(g:Kn)(d:SH)(e f h i j:AV):Prop:=ma 4 e f d λk=>rE [(.ZO 0),.nils,.nils,(.ZO 0)] 4 k d λb a=>(true=true)∧(aN 0 b [] 1 a λl c=>aN 1 b [rm 1 c] 3 a λm n=>wd [rm 1 c] 4 (.fn 80 []) [m] a (mI g a b l h i e j f n c))
def ff(Q:R)(g:Vs)(a:SH)(h:Kn):Prop:=Jd 2 3 21 22 23 g λb c i d e=>wb .lss 3 e d λj=>wk j ((Bu h a i e b c d)) (cp 7 c a λk=>W.store 7 b k a λf=>W.load true 7 b f λl=>Q l f)
def mJ(Q:R)(k:SH)(f l m:AV)(a b c:Fp)(n:AV)(g:SH)(o:Ns):Prop:=wn [] o [] k.names λd=>aN 6 f [rc 5 d,rm 4 a,rc 2 b,rm 1 c] 7 g λp q=>W.len p λr=>W.calm [rc 5 d,rm 4 a,rc 2 b,rm 1 c] ⟨9,[],[],[],false,[]⟩ (W.mslice 4 64 [(.ZO 0),.nils,.nils,(.ZO 0)] (.ZO 0) r g λh s=>wn [] [] (aa h) [] λt=>W.build [.nils,(.ZO 0),.nils,.nils,.nils,.nils,.nils] [(4,1,l),(5,1,n),(6,1,h)] λu=>W.calm [rm 9 t,rm 7 q,rc 5 d,rm 4 a,rc 2 b,rm 1 c] ⟨11,[],[],[],false,[]⟩ (W.alloc [.nils,(.ZO 0),.nils,.nils,.nils,.nils,.nils] s λe v=>wn [] [] (aa e) [] λx=>ds [] 12 7 e u v λi y=>aC 6 f i λj=>W.len j λw=>W.loop (ff Q) [m,e,j,w,(.ZO 0)] i))
def mK(Q:R)(e:SH)(b f:AV)(c:Fp)(g:AV)(a:SH)(h:Ns):Prop:=wn [] h [] e.names λd=>aN 5 b [rc 2 d,rm 1 c] 4 a λi j=>wd [] 5 (.fn 80 []) [i] a (mJ Q a b g f j d c)
def oY(c:AV)(L:SH)(Q:R):Prop:=W.box c L λd e=>W.alloc [.nils,(.ZO 0),.nils,.nils,.nils,.nils,.nils] e λf g=>W.frz1 d g λb a=>(true=true)∧(aN 4 b [] 1 a λh i=>wd [] 2 (.fn 80 []) [h] a (mK Q a b f i))
theorem Bv(t0:AV)(L:SH)(Q:R)(h:oY t0 L Q):af Tryz.prog 51 [t0] L Q:=
 fs [] [(8,[2,3,6,21,22,23,41,42,43]),(3,[2,3,21,22,23])] [(0,[1]),(4,[5])] [(1,[0,1,3,0,8,31,0,64,192,448,1023,0,4095]),(5,[0,1,0,4,12,0,32,127,0,511]),(10,[0,1,0,4,12,31,63,127])] Tryz.func51 h
def Bw(Q:R)(c:SH)(d e f g h a i:AV)(j:SH)(k:Ns):Prop:=wn [] k [] c.names λn=>W.build [.nils,.nils,.nils,.nils,.nils,.nils] [(0,1,d),(1,1,e),(2,1,f),(3,1,g),(4,1,h),(5,1,i)] λl=>ds [] 19 6 a l j λb o=>W.load true 6 a b λm=>Q m b
def Bx(Q:R)(b:SH)(c d e f g h:AV)(i j k l m n o p q:Fp)(r:AV)(a:SH)(s:Ns):Prop:=wn [] s [] b.names λt=>aN 5 c [rc 14 t,rm 13 i,rc 11 j,rm 10 k,rc 8 l,rm 7 m,rc 5 n,rm 4 o,rc 2 p,rm 1 q] 16 a λu v=>wd [] 17 (.fn 45 []) [u] a (Bw Q a d e f g r h)
def By(Q:R)(k:SH)(b l m n o:AV)(c d e f g h i:Fp)(p:AV)(a:SH)(q:Ns):Prop:=wn [] q [] k.names λj=>aN 4 b [rc 11 j,rm 10 c,rc 8 d,rm 7 e,rc 5 f,rm 4 g,rc 2 h,rm 1 i] 13 a λr s=>wd [] 14 (.fn 44 []) [r] a (Bx Q a b l m n p o s j c d e f g h i)
def Bz(Q:R)(i:SH)(b j k l:AV)(c d e f g:Fp)(m:AV)(a:SH)(n:Ns):Prop:=wn [] n [] i.names λh=>aN 3 b [rc 8 h,rm 7 c,rc 5 d,rm 4 e,rc 2 f,rm 1 g] 10 a λo p=>wd [] 11 (.fn 44 []) [o] a (By Q a b j k m l p h c d e f g)
def BA(Q:R)(g:SH)(b h i:AV)(c d e:Fp)(j:AV)(a:SH)(k:Ns):Prop:=wn [] k [] g.names λf=>aN 2 b [rc 5 f,rm 4 c,rc 2 d,rm 1 e] 7 a λl m=>wd [] 8 (.fn 43 []) [l] a (Bz Q a b h j i m f c d e)
def BB(Q:R)(e:SH)(b f:AV)(c:Fp)(g:AV)(a:SH)(h:Ns):Prop:=wn [] h [] e.names λd=>aN 1 b [rc 2 d,rm 1 c] 4 a λi j=>wd [] 5 (.fn 42 []) [i] a (BA Q a b g f j d c)
def oZ(c:AV)(L:SH)(Q:R):Prop:=W.box c L λd e=>W.alloc [.nils,.nils,.nils,.nils,.nils,.nils] e λf g=>W.frz1 d g λb a=>(true=true)∧(aN 0 b [] 1 a λh i=>wd [] 2 (.fn 41 []) [h] a (BB Q a b f i))
theorem BC(t0:AV)(L:SH)(Q:R)(h:oZ t0 L Q):af Tryz.prog 23 [t0] L Q:=
 fs [] [] [(0,[1])] [(1,[0,1,3,0,8,31,0,64,255,0,512,2047,0,4096,16383,0,32768,131071,262143,524287])] Tryz.func23 h
def zf(c a:AV)(L:SH)(Q:R):Prop:=wb .lss 3 a (.ZO 1) λd=>wk d (Q (.ZO 0) L) (wb .rem 2 c a λb=>wb .lss 2 b (.ZO 0) λe=>wk e (wb .add 2 b a λf=>Q f L) (Q b L))
theorem GW(t0 t1:AV)(L:SH)(Q:R)(h:zf t0 t1 L Q):af Tryz.prog 84 [t0,t1] L Q:=
 fs [] [] [] [] Tryz.func84 h
end
end Go.Proofs.YtdnpdghlggbklaaGreatDoor.Am
