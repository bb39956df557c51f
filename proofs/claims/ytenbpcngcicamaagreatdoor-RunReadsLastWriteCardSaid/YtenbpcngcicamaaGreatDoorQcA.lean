/- A part of the proof; the statement is proved in the last part. -/
import Derived.Test.YtenbpcngcicamaaGreatDoorQcz
import Derived.Test.YtenbpcngcicamaaGreatDoorRows
import Derived.OpenShut
import Derived.MakeChecks
import Derived.FnData
set_option linter.unusedSimpArgs false
set_option linter.unusedVariables false
namespace Go.Proofs.YtenbpcngcicamaaGreatDoor.Am
section
set_option maxRecDepth 100000
set_option maxHeartbeats 1000000
theorem Qh(i:bn):aB Tryz.prog 21 [.agg i.enc] (.lst ((bU i).map ao)):=by
 obtain⟨op,ia,ib,ic,n,site⟩:=i;refine ai.fz (vN _ _ _ ?_);unfold kQ;generalize hQ:(λ(v:AV) (L:SH)=>∃v2 L2,aI [v] L [v2] L2∧v2=AV.lst ((bU ⟨op,ia,ib,ic,n,site⟩).map ao)∧L2=[])=Q;have hq:∀(l:List Int),bU ⟨op,ia,ib,ic,n,site⟩=l→∀v L,Fz L v (.lst (l.map ao))→Q v L:=λl hl v L h=>by subst hQ;exact⟨_,[],aI.all h,by rw[hl],rfl⟩
 clear hQ
 repeat' (first|refine st ?_|refine sb λnb_ hnb_=>?_|refine s2 (λh=>?_) λh=>?_|fail)
 all_goals first
  |exact hq [ia] (by simp_all[bU];done) _ _ (Fz.sls (l:=[ia]) (f:=ao) (.head _) rfl W8 rfl)
  |exact hq [ib] (by simp_all[bU];done) _ _ (Fz.sls (l:=[ib]) (f:=ao) (.head _) rfl W8 rfl)
  |exact hq [ia,ib] (by simp_all[bU];done) _ _ (Fz.sls (l:=[ia,ib]) (f:=ao) (.head _) rfl W8 rfl)
  |exact hq [ia,ic] (by simp_all[bU];done) _ _ (Fz.sls (l:=[ia,ic]) (f:=ao) (.head _) rfl W8 rfl)
  |exact hq [ib,ic] (by simp_all[bU];done) _ _ (Fz.sls (l:=[ib,ic]) (f:=ao) (.head _) rfl W8 rfl)
  |exact hq [ia,ib,ic] (by simp_all[bU];done) _ _ (Fz.sls (l:=[ia,ib,ic]) (f:=ao) (.head _) rfl W8 rfl)
  |exact hq [] (by simp_all[bU];done) _ _ .nils
end
section
set_option maxRecDepth 100000
set_option maxHeartbeats 4000000
theorem OQ{α:Type}{f:α→List AV}{l:List α}{n by_:Nat}{L:SH}{KL:AV→SH→Prop}(hn:∀x,(f x).length=n)(h2:2*l.length*by_≤2^48)(h3:2*l.length≤2^62)(h4:∀x,(f x).all AV.one=true)
  (h:l=[]→KL .nils L) (h':∀b,KL (.sl b 0 l.length) ((b,⟨n,l.map f⟩)::L)):W.append n by_ .nils (.lst (l.map f)) L KL:=by
 have h4':((l.map f).all λr=>r.all AV.one)=true:=by rw[VE];intro r hr;obtain⟨x,_,rfl⟩:=V0.1 hr;exact h4 x
 refine⟨[],l.map f,rfl,wu hn,by simpa using h2,by simpa using h3,h4',λe=>?_,λe b hb=>?_⟩
 ·exact h (by simpa using e)
 ·have:=h' b;simpa using this
theorem SS{n23:Kn}{bm bt b0 bp nmb bh lb a n i:Nat}{t:List UInt8}{th le:Int}{se tx at_ lo:Bool}{o oT:Option Nat}{ar:List bj}{ts:List aj}{nm:bj}
  (ht:t.length<2^40) (ha:a≤t.length) (ho:o=none→ar=[]) (hoT:oT=none→ts=[]) (hts:ts.length≤4)
  (f1:bh≠bm) (f2:bh≠bt) (f3:∀b,o=some b→bh≠b) (hnm:nm.length≤4)
  (hz:decide ((i:Int)=0)=false) (hn:∀(x:aj) (a':Nat) (th' le':Int) (se' tx' at' lo':Bool) (o':Option Nat) (ar':List bj) (nbT:Nat) (L':SH),(aj.wt x≤40000∧x.name=nm∧x.locals=[[97],[98]])→a'≤t.length→(o'=none→ar'=[])→aI [.ptr b0 0 0,.ptr bm 0 0,.ptr bp 0 0,.W9 n,.sl nmb 0 4,.W9 (IntKind.i64.wrap ((i:Int)+1))] L' [.ptr b0 0 0,.ptr bm 0 0,.ptr bp 0 0,.W9 n,.sl nmb 0 4,.W9 (IntKind.i64.wrap ((i:Int)+1))] (PH bm bt b0 bp nmb t a' th' le' se' tx' at' lo' o' ar' (some nbT) (ts.length+1) (ts++[x]))→aI [.ptr b0 0 0,.ptr bm 0 0,.ptr bp 0 0,.W9 n,.sl nmb 0 4,.W9 (IntKind.i64.wrap ((i:Int)+1))] L' [.ptr b0 0 0,.ptr bm 0 0,.ptr bp 0 0,.W9 n,.sl nmb 0 4,.W9 (IntKind.i64.wrap ((i:Int)+1))] (PZ b0 bp (ts++[x]))→n23 [.ptr b0 0 0,.ptr bm 0 0,.ptr bp 0 0,.W9 n,.sl nmb 0 4,.W9 (IntKind.i64.wrap ((i:Int)+1))] L')
  : bZ n23 [.ptr b0 0 0,.ptr bm 0 0,.ptr bp 0 0,.W9 n,.sl nmb 0 4,.W9 (i:Int),.ptr bh 0 0] ((bh,⟨4,[[.str nm,.W9 0,.sl lb 0 2,AV.nils]]⟩)::(lb,⟨1,[[.str [97]],[.str [98]]]⟩)::(bm,dm bt th le se tx at_ lo o 0)::(bt,aP t a)::(b0,⟨2,[[.nils,.nils]]⟩)::(bp,⟨2,[[.lst (bC.map aH.enc),aq oT ts.length]]⟩)::(nmb,⟨1,qj.map aw⟩)::(ah oT 4 (ts.map aj.enc)++ah o 1 (ar.map aw))):=by
 unfold bZ dm mq
 repeat' (first|refine mN (sQ ?_ (Qd W4))|refine st ?_|((with_reducible refine aZ 23 ?_);(refine fF ht W5 rp (λr_ a_ hr_ ha_=>?_)))|((with_reducible refine ef 23 ?_);refine Cv ht W5 rp (λr_ a_ hr_ ha_=>?_))|((with_reducible refine ef 24 ?_);refine I7 rfl W4 rp rp rp ht W5 W5 (I6 f1 f2 f3) ?_;rintro l_ a_ th_ le_ se_ tx_ at_ lo_ o_ ar_ ks_ hl_ ha_ ho_;have hl9_:=ab.wts_len l_;rcases o_ with _|ob_;all_goals dsimp only[Ct,Cu,List.nil_append,List.cons_append])|(refine OQ (λx=>by rw[ab.enc_row];rfl) W4 W4 (λx=>by rw[ab.enc_row];rfl) ?_ ?_;all_goals first|(intro e_;subst e_)|intro ob2_)|refine cy rp rp W7 (λe=>by first|simp[hoT e]) W6 W7 (by simp;omega) (by simp;omega) W6 (λnb_ hnb_=>?_)|refine sb λnb_ hnb_=>?_|refine s2 (λh=>?_) λh=>?_|fail)
 all_goals first
  |exact hn ⟨nm,0,[[97],[98]],l_⟩ a_ th_ le_ se_ tx_ at_ lo_ none ar_ nb_ _ ⟨by simp only[aj.wt,ab.wts,Vp,V9,VL,VU,Wm,WH];omega,rfl,rfl⟩ ha_ ho_ (aI.rowA (A:=[(bm,_),(bt,_),(b0,_),(bp,_),(nmb,_)]) (b:=nb_) (R:=[]) (rows':=(ts++[_]).map aj.enc) rp W7 (cV (f:=aj.enc) (.cons (.refl _) (.cons (.refl _) (.cons (Fz.sls (l:=[[97],[98]]) (f:=aw) (size:=1) (b:=lb) mm W6 W8 W6) (.cons (Fz.sls (l:=l_) (f:=ab.enc) (size:=11) (b:=ob2_) mm W6 W8 W6) .nil))))) rfl) (aI.rowA (A:=[(b0,_)]) (b:=bp) (R:=[]) (rows':=[[.lst (bC.map aH.enc),.lst ((ts++[_]).map aj.enc)]]) rp W6 (cN (.cons (.refl _) (.cons (eU (b:=nb_) mm W6 W6 (.cons (.refl _) (.cons (.refl _) (.cons (Fz.sls (l:=[[97],[98]]) (f:=aw) (size:=1) (b:=lb) mm W6 W8 W6) (.cons (Fz.sls (l:=l_) (f:=ab.enc) (size:=11) (b:=ob2_) mm W6 W8 W6) .nil))))) .nil))) rfl)
  |exact hn ⟨nm,0,[[97],[98]],[]⟩ a_ th_ le_ se_ tx_ at_ lo_ none ar_ nb_ _ ⟨by simp only[aj.wt,ab.wts,Vp,V9,VL,VU,Wm,WH];omega,rfl,rfl⟩ ha_ ho_ (aI.rowA (A:=[(bm,_),(bt,_),(b0,_),(bp,_),(nmb,_)]) (b:=nb_) (R:=[]) (rows':=(ts++[_]).map aj.enc) rp W7 (cV (f:=aj.enc) (.cons (.refl _) (.cons (.refl _) (.cons (Fz.sls (l:=[[97],[98]]) (f:=aw) (size:=1) (b:=lb) mm W6 W8 W6) (.cons .nils .nil))))) rfl) (aI.rowA (A:=[(b0,_)]) (b:=bp) (R:=[]) (rows':=[[.lst (bC.map aH.enc),.lst ((ts++[_]).map aj.enc)]]) rp W6 (cN (.cons (.refl _) (.cons (eU (b:=nb_) mm W6 W6 (.cons (.refl _) (.cons (.refl _) (.cons (Fz.sls (l:=[[97],[98]]) (f:=aw) (size:=1) (b:=lb) mm W6 W8 W6) (.cons .nils .nil))))) .nil))) rfl)
  |exact hn ⟨nm,0,[[97],[98]],l_⟩ a_ th_ le_ se_ tx_ at_ lo_ (some ob_) ar_ nb_ _ ⟨by simp only[aj.wt,ab.wts,Vp,V9,VL,VU,Wm,WH];omega,rfl,rfl⟩ ha_ ho_ (aI.rowA (A:=[(bm,_),(bt,_),(b0,_),(bp,_),(nmb,_)]) (b:=nb_) (R:=[(ob_,_)]) (rows':=(ts++[_]).map aj.enc) rp W7 (cV (f:=aj.enc) (.cons (.refl _) (.cons (.refl _) (.cons (Fz.sls (l:=[[97],[98]]) (f:=aw) (size:=1) (b:=lb) mm W6 W8 W6) (.cons (Fz.sls (l:=l_) (f:=ab.enc) (size:=11) (b:=ob2_) mm W6 W8 W6) .nil))))) rfl) (aI.rowA (A:=[(b0,_)]) (b:=bp) (R:=[]) (rows':=[[.lst (bC.map aH.enc),.lst ((ts++[_]).map aj.enc)]]) rp W6 (cN (.cons (.refl _) (.cons (eU (b:=nb_) mm W6 W6 (.cons (.refl _) (.cons (.refl _) (.cons (Fz.sls (l:=[[97],[98]]) (f:=aw) (size:=1) (b:=lb) mm W6 W8 W6) (.cons (Fz.sls (l:=l_) (f:=ab.enc) (size:=11) (b:=ob2_) mm W6 W8 W6) .nil))))) .nil))) rfl)
  |exact hn ⟨nm,0,[[97],[98]],[]⟩ a_ th_ le_ se_ tx_ at_ lo_ (some ob_) ar_ nb_ _ ⟨by simp only[aj.wt,ab.wts,Vp,V9,VL,VU,Wm,WH];omega,rfl,rfl⟩ ha_ ho_ (aI.rowA (A:=[(bm,_),(bt,_),(b0,_),(bp,_),(nmb,_)]) (b:=nb_) (R:=[(ob_,_)]) (rows':=(ts++[_]).map aj.enc) rp W7 (cV (f:=aj.enc) (.cons (.refl _) (.cons (.refl _) (.cons (Fz.sls (l:=[[97],[98]]) (f:=aw) (size:=1) (b:=lb) mm W6 W8 W6) (.cons .nils .nil))))) rfl) (aI.rowA (A:=[(b0,_)]) (b:=bp) (R:=[]) (rows':=[[.lst (bC.map aH.enc),.lst ((ts++[_]).map aj.enc)]]) rp W6 (cN (.cons (.refl _) (.cons (eU (b:=nb_) mm W6 W6 (.cons (.refl _) (.cons (.refl _) (.cons (Fz.sls (l:=[[97],[98]]) (f:=aw) (size:=1) (b:=lb) mm W6 W8 W6) (.cons .nils .nil))))) .nil))) rfl)
end
section
set_option maxRecDepth 100000
set_option maxHeartbeats 4000000
@[irreducible] def JJ (n23:Kn) (v:List AV) (L:SH):Prop:=bZ n23 v L
theorem QX{n23:Kn}{v:List AV}{L:SH}(h:JJ n23 v L):bZ n23 v L:=by unfold JJ at h;exact h
theorem QY{n23:Kn}{v:List AV}{L:SH}(h:bZ n23 v L):JJ n23 v L:=by unfold JJ;exact h
theorem Lm(r:Nat):(qj.getD r []).length≤4:=by
 rcases r with _|_|_|_|r
 all_goals simp[qj]
theorem ST{n23:Kn}{bm bt b0 bp nmb bh lb a n:Nat}{t:List UInt8}{th le:Int}{se tx at_ lo:Bool}{o oT:Option Nat}{ar:List bj}{ts:List aj}{nm:bj}{m:Nat}(hn4:n≤4)(h1:1≤n)
  (hj:∀(oB:Option Nat) (ps:List (List AV×ab)),(oB=none→ps=[])→ps.length≤4→fN ps→ab.wts (ps.map Prod.snd)≤100→JJ n23 [.ptr b0 0 0,.ptr bm 0 0,.ptr bp 0 0,.W9 n,.sl nmb 0 4,.W9 ((0:Nat):Int),.ptr bh 0 0] ((bh,⟨4,[[.str nm,.W9 0,.sl lb 0 2,aq oB ps.length]]⟩)::(lb,⟨1,[[.str [97]],[.str [98]]]⟩)::(bm,dm bt th le se tx at_ lo o 0)::(bt,aP t a)::(b0,⟨2,[[.nils,.nils]]⟩)::(bp,⟨2,[[.lst (bC.map aH.enc),aq oT m]]⟩)::(nmb,⟨1,qj.map aw⟩)::(ah oB 11 (ps.map Prod.fst)++(ah oT 4 (ts.map aj.enc)++ah o 1 (ar.map aw))))) :
  W.loop (iz (bZ n23)) [.ptr b0 0 0,.ptr bm 0 0,.ptr bp 0 0,.W9 n,.sl nmb 0 4,.W9 ((0:Nat):Int),.ptr bh 0 0,.W9 1] ((bh,⟨4,[[.str nm,.W9 0,.sl lb 0 2,.nils]]⟩)::(lb,⟨1,[[.str [97]],[.str [98]]]⟩)::(bm,dm bt th le se tx at_ lo o 0)::(bt,aP t a)::(b0,⟨2,[[.nils,.nils]]⟩)::(bp,⟨2,[[.lst (bC.map aH.enc),aq oT m]]⟩)::(nmb,⟨1,qj.map aw⟩)::(ah oT 4 (ts.map aj.enc)++ah o 1 (ar.map aw))):=by
 refine cg (β:=Option Nat×List (List AV×ab)) (n-1) (λj ⟨oB,ps⟩=>([.ptr b0 0 0,.ptr bm 0 0,.ptr bp 0 0,.W9 n,.sl nmb 0 4,.W9 ((0:Nat):Int),.ptr bh 0 0,.W9 ((j+1:Nat):Int)],(bh,⟨4,[[.str nm,.W9 0,.sl lb 0 2,aq oB j]]⟩)::(lb,⟨1,[[.str [97]],[.str [98]]]⟩)::(bm,dm bt th le se tx at_ lo o 0)::(bt,aP t a)::(b0,⟨2,[[.nils,.nils]]⟩)::(bp,⟨2,[[.lst (bC.map aH.enc),aq oT m]]⟩)::(nmb,⟨1,qj.map aw⟩)::(ah oB 11 (ps.map Prod.fst)++(ah oT 4 (ts.map aj.enc)++ah o 1 (ar.map aw)))))
  (λj ⟨oB,ps⟩=>(oB=none→ps=[])∧ps.length=j∧fN ps∧ab.wts (ps.map Prod.snd)≤10*j) (none,[]) ⟨λ_=>rfl,rfl,fN.mk nofun nofun,V1 _⟩ ?_ ?_
 ·refine aI.row (R:=_) (K:=[]) (rows:=[[.str nm,.W9 0,.sl lb 0 2,.nils]]) (rows':=[[.str nm,.W9 0,.sl lb 0 2,aq none 0]]) (.refl _) W6 (λj r r' q1 q2=>?_)
  match j with
   |0=>cases q1;cases q2;exact .cons (.refl _) (.cons (.refl _) (.cons (.refl _) (.cons .nile .nil)))
   |j+1=>simp at q1
 rintro j ⟨oB,ps⟩ hjn ⟨hoB,hl,hg,hw⟩;dsimp only at hoB hl hg hw ⊢;unfold iz;generalize hnx:(λ(vs':List AV) (L':SH)=>_)=nx;subst hl;rcases Nat.lt_or_ge (ps.length+1) n with g|g
 ·have hd1:=bF g;have hi1:=aE g W4;unfold dm mq
  repeat' (first|refine st ?_|refine eM (l:=qj) ?_ mm rfl (by simp[qj];omega)|refine dE ?_ W4|refine cy rp rp W7 (λe=>by first|simp[hoB e]) W6 W7 (by simp;omega) (by simp;omega) W6 (λnb_ hnb_=>?_)|refine sb λnb_ hnb_=>?_|refine s2 (λh=>?_) λh=>?_|fail)
  subst hnx;have hnl:=Lm (ps.length+1);generalize qj.getD (ps.length+1) []=w at hnl ⊢;refine⟨ps.length+1,(some nb_,ps++[(Fi 12 w,lD 12 w)]),W4,W4,⟨nofun,W7,hg.raw 12 w,?_⟩,aI.pickE (R:=(bh,_)::(lb,_)::(bm,_)::(bt,_)::(b0,_)::(bp,_)::(nmb,_)::(nb_,⟨11,ps.map Prod.fst++[Fi 12 w]⟩)::(ah oT 4 (ts.map aj.enc)++ah o 1 (ar.map aw))) (.one (.there _ (.there _ (.here _))) (.one (.there _ (.there _ (.here _))) (.one (.there _ (.there _ (.here _))) (.one (.there _ (.there _ (.here _))) (.one (.there _ (.there _ (.here _))) (.one (.there _ (.there _ (.here _))) (.one (.there _ (.there _ (.here _))) (.one (.here _) (.slot (.there _ (.here _)) (.slotl (.there _ .last))))))))))) rfl ?_⟩
  ·rw[Vr,iX];simp only[Vp,V9,lD,wz,VU];omega
  ·dsimp only;rw[List.map_append];rfl
 ·have hd1:=bM g;clear hnx;unfold dm mq at *
  repeat' (first|(with_reducible refine QX ?_)|refine st ?_|refine sb λnb_ hnb_=>?_|refine s2 (λh=>?_) λh=>?_|fail)
  exact hj oB ps hoB W4 hg W4
theorem mz{b c:Nat}{L:SH}{y:Blk}(h:¬b∈SH.names L)(hm:(c,y)∈L):b≠c:=λe=>h (by subst e;exact V0.2 ⟨_,hm,rfl⟩)
theorem I9{o:Option Nat}{b n:Nat}{rows:List (List AV)}(h:o=some b):(b,(⟨n,rows⟩:Blk))∈ah o n rows:=by subst h;exact .head _
theorem Mq{Q:R}{n23:Kn}{bm bt b0 bp nmb a n i:Nat}{t:List UInt8}{th le:Int}{se tx at_ lo:Bool}{o oT:Option Nat}{ar:List bj}{ts:List aj}
  (ht:t.length<2^40) (ha:a≤t.length) (ho:o=none→ar=[]) (hoT:oT=none→ts=[]) (hts:ts.length=i) (hi:i<n) (hn4:n≤4)
  (hn:∀(x:aj) (a':Nat) (th' le':Int) (se' tx' at' lo':Bool) (o':Option Nat) (ar':List bj) (nbT:Nat) (L':SH),(aj.wt x≤40000∧x.name=qj.getD i []∧x.locals=[[97],[98]])→a'≤t.length→(o'=none→ar'=[])→aI [.ptr b0 0 0,.ptr bm 0 0,.ptr bp 0 0,.W9 n,.sl nmb 0 4,.W9 (IntKind.i64.wrap ((i:Int)+1))] L' [.ptr b0 0 0,.ptr bm 0 0,.ptr bp 0 0,.W9 n,.sl nmb 0 4,.W9 (IntKind.i64.wrap ((i:Int)+1))] (PH bm bt b0 bp nmb t a' th' le' se' tx' at' lo' o' ar' (some nbT) (ts.length+1) (ts++[x]))→aI [.ptr b0 0 0,.ptr bm 0 0,.ptr bp 0 0,.W9 n,.sl nmb 0 4,.W9 (IntKind.i64.wrap ((i:Int)+1))] L' [.ptr b0 0 0,.ptr bm 0 0,.ptr bp 0 0,.W9 n,.sl nmb 0 4,.W9 (IntKind.i64.wrap ((i:Int)+1))] (PZ b0 bp (ts++[x]))→n23 [.ptr b0 0 0,.ptr bm 0 0,.ptr bp 0 0,.W9 n,.sl nmb 0 4,.W9 (IntKind.i64.wrap ((i:Int)+1))] L') :
  fw Q [.ptr b0 0 0,.ptr bm 0 0,.ptr bp 0 0,.W9 n,.sl nmb 0 4,.W9 (i:Int)] (PH bm bt b0 bp nmb t a th le se tx at_ lo o ar oT ts.length ts) n23:=by
 have hd1:=bF hi;unfold fw PH dm mq;rcases i with _|i
 ·repeat' (first|refine st ?_|refine eM (l:=qj) ?_ mm rfl (by simp[qj])|refine dE ?_ W4|refine sb λnb_ hnb_=>?_|refine s2 (λh=>?_) λh=>?_|fail)
  have f1:nb_≠bm:=mz hnb_ (.tail _ (.head _));have f2:nb_≠bt:=mz hnb_ (.tail _ (.tail _ (.head _)));have f3:∀b,o=some b→nb_≠b:=λb e=>mz hnb_ (.tail _ (.tail _ (.tail _ (.tail _ (.tail _ (.tail _ (VN _ (I9 e))))))))
  exact ST hn4 W4 λoB ps hoB hps hg hw=>QY (SQ ht ha ho hoT hoB W4 hps f1 f2 f3 hg W8 hw hn)
 ·have hz:decide (((i+1:Nat):Int)=0)=false:=by simp;omega
  repeat' (first|(with_reducible refine QX ?_)|refine st ?_|refine eM (l:=qj) ?_ mm rfl (by simp[qj];omega)|refine dE ?_ W4|refine sb λnb_ hnb_=>?_|refine s2 (λh=>?_) λh=>?_|fail)
  have f1:nb_≠bm:=mz hnb_ (.tail _ (.head _));have f2:nb_≠bt:=mz hnb_ (.tail _ (.tail _ (.head _)));have f3:∀b,o=some b→nb_≠b:=λb e=>mz hnb_ (.tail _ (.tail _ (.tail _ (.tail _ (.tail _ (.tail _ (VN _ (I9 e))))))))
  exact QY (SS ht ha ho hoT W4 f1 f2 f3 (Lm (i+1)) hz hn)
theorem Vj{r:Nat}(h:r<100):IntKind.i64.wrap (2+(r:Int))=((2+r:Nat):Int):=by rw[We _ W4];omega
inductive Mr (K:SH):SH→SH→Prop where
 |nil:Mr K [] []
 |same (p:Nat×Blk) {R R2:SH}:Mr K R R2→Mr K (p::R) (p::R2)
 |box {b n:Nat} {r r':List AV} {R R2:SH}:jd K r r'→Mr K R R2→Mr K ((b,⟨n,[r]⟩)::R) ((b,⟨n,[r']⟩)::R2)
theorem aI.blks{vs vs2:List AV}{L K R R2:SH}(hL:L.Perm (K++R))(h:Mr K R R2)(hv:vs=vs2):aI vs L vs2 R2:=by
 subst hv;refine⟨K,R,hL,⟨rfl,λi a a2 h1 h2=>by rw[h1]at h2;cases h2;exact .refl _⟩,?_,?_⟩
 ·clear hL
  induction h with
  |nil=>rfl
  |same p h ih=>simp[ih]
  |box h1 h ih=>simp[ih]
 ·clear hL
  induction h with
  |nil=>intro i p q h1;simp at h1
  |same p h ih=>
   intro i x y h1 h2
   match i with
   |0=>cases h1;cases h2;exact⟨rfl,rfl,rfl,λj r r2 h3 h4=>by rw[h3]at h4;cases h4;exact⟨rfl,λk a a2 h5 h6=>by rw[h5]at h6;cases h6;exact .refl _⟩⟩
   |i+1=>exact ih i x y (by simpa using h1) (by simpa using h2)
  |box hr h ih=>
   intro i x y h1 h2
   match i with
   |0=>cases h1;cases h2;exact⟨rfl,rfl,rfl,λj r r2 h3 h4=>(cN hr j r r2 h3 h4).at_⟩
   |i+1=>exact ih i x y (by simpa using h1) (by simpa using h2)
theorem Ms{L R K:SH}(h:C7 L R K)(hK:K=[]:=by rfl):L.Perm ([]++R):=by subst hK;exact h.perm
end
section
set_option maxRecDepth 100000
set_option maxHeartbeats 4000000
theorem OR(t:List UInt8)(ht:t.length<2^40):ai Tryz.prog 12 [.lst (t.map fq)] [] λv K=>∃p:bO,v=.agg p.enc∧K=[]∧p.wt≤200000∧p.decls=bC:=by
 refine ai.fz (Cm _ _ _ ?_);unfold qe;generalize hQ:(λ(v:AV) (L:SH)=>∃v2 L2,aI [v] L [v2] L2∧∃p:bO,v2=.agg p.enc∧L2=[]∧p.wt≤200000∧p.decls=bC)=Q;have hq:∀(p:bO) (v:AV) (L:SH),Fz L v (.agg p.enc)→p.wt≤200000→p.decls=bC→Q v L:=λp v L h1 h2 h3=>by subst hQ;exact⟨_,_,aI.all h1,p,rfl,rfl,h2,h3⟩
 clear hQ
 repeat' (first|refine mN (sQ (c:=((2+_:Nat):Int)) ?_ (Vj W4))|refine st ?_|(refine pf 22 ?_;refine pm (yo) ?_)|((with_reducible refine aZ 23 ?_);(refine fF (t:=t) (a:=0) ht (V1 _) rp (λr_ a_ hr_ ha_=>?_)))|refine sb λnb_ hnb_=>?_|refine s2 (λh=>?_) λh=>?_|fail)
 rename_i b0 hb0 bt hbt bm hbm bp hbp;refine cg (β:=Nat×Int×Int×Bool×Bool×Bool×Bool×Option Nat×List bj×Option Nat×List aj) (2+r_) (λi ⟨a,th,le,se,tx,at_,lo,o,ar,oT,ts⟩=>([.ptr b0 0 0,.ptr bm 0 0,.ptr bp 0 0,.W9 ((2+r_:Nat):Int),.sl nb_ 0 4,.W9 (i:Int)],if i=2+r_ then PZ b0 bp ts else PH bm bt b0 bp nb_ t a th le se tx at_ lo o ar oT ts.length ts))
  (λi ⟨a,th,le,se,tx,at_,lo,o,ar,oT,ts⟩=>a≤t.length∧(o=none→ar=[])∧(oT=none→ts=[])∧ts.length=i∧(∀x∈ts,aj.wt x≤40000)) (a_,0,20,false,false,false,false,none,[],none,[]) ⟨ha_,λ_=>rfl,λ_=>rfl,rfl,nofun⟩ ?_ ?_
 ·show aI _ _ _ (if 0=2+r_ then PZ b0 bp []else _);rw[if_neg W4];exact aI.blks (K:=[]) (R:=(bm,⟨8,[[.ptr bt 0 0,.W9 0,.W9 20,.bool false,.bool false,.bool false,.bool false,.nils]]⟩)::(bt,aP t a_)::(b0,⟨2,[[.nils,.nils]]⟩)::(bp,⟨2,[[.lst (bC.map aH.enc),.nils]]⟩)::(nb_,⟨1,qj.map aw⟩)::[]) (Ms (.one (.there _ (.there _ (.there _ (.here _)))) (.one (.there _ (.here _)) (.one (.there _ (.there _ (.here _))) (.one (.there _ (.here _)) (.one (.here _) (.nil _))))))) (.box (.cons (.refl _) (.cons (.refl _) (.cons (.refl _) (.cons (.refl _) (.cons (.refl _) (.cons (.refl _) (.cons (.refl _) (.cons .nile .nil)))))))) (.same _ (.same _ (.box (.cons (.refl _) (.cons .nile .nil)) (.same _ .nil))))) rfl
 ·rintro i ⟨a,th,le,se,tx,at_,lo,o,ar,oT,ts⟩ hi ⟨ha,ho,hoT,hts,hw⟩;dsimp only at ha ho hoT hts hw ⊢;rcases Nat.lt_or_eq_of_le hi with g|g
  ·rw[if_neg W4];refine Mq ht ha ho hoT hts g W4 ?_;intro x a' th' le' se' tx' at' lo' o' ar' nbT L' ⟨q1,_,_⟩ q2 q3 q4 q5;have e:IntKind.i64.wrap ((i:Int)+1)=((i+1:Nat):Int):=aE g W4;rw[e]at q4 q5 ⊢;refine⟨i+1,(a',th',le',se',tx',at',lo',o',ar',some nbT,ts++[x]),W4,W4,⟨q2,q3,nofun,by simp[hts],?_⟩,?_⟩
   ·intro y hy;rcases VC.1 hy with hy|hy
    ·exact hw y hy
    ·rw[Vv.1 hy];exact q1
   ·dsimp only;by_cases z:i+1=2+r_
    ·rw[if_pos z];exact q5
    ·rw[if_neg z,Vy];exact q4
  ·rw[if_pos g];subst g;have hd1:decide (((2+r_:Nat):Int)<((2+r_:Nat):Int))=false:=by simp
   have hpw:bO.wt ⟨bC,ts⟩≤200000:=by
    have h1:(ts.map aj.wt).sum≤ts.length*40000:=by
     clear hts hi hoT
     induction ts with
     |nil=>simp
     |cons y l ih=>
      have:=hw y (.head _);have:=ih λz hz=>hw z (.tail _ hz)
      simp only[Vp,Wm,VL];omega
    have h2:(bC.map aH.wt).sum=19:=by decide
    show(bC.map aH.wt).sum+(ts.map aj.wt).sum≤200000;rw[h2];omega
   have hc1:=FW ⟨bC,ts⟩ W4;unfold fw PZ
   repeat' (first|refine st ?_|(refine pf 17 ?_;refine pm (hc1) ?_)|(refine pf 22 ?_;refine pm (yo) ?_)|(refine pf 26 ?_;refine pm (G5 _) ?_)|(refine pf 25 ?_;refine pm (cC _ _) ?_)|refine sb λnb_ hnb_=>?_|refine s2 (λh=>?_) λh=>?_|fail)
   ·exact hq ⟨bC,[⟨[109,97,105,110],0,[[97],[98]],[cz [120] (G4 1)]⟩]⟩ _ _ (Fz.aggs (.cons (.refl _) (.cons (eU (ts:=[]) (b:=nb_) mm W6 W6 (.cons (.refl _) (.cons (.refl _) (.cons (Fz.sls (l:=[[97],[98]]) (f:=aw) (size:=1) mm W6 W8 W6) (.cons (Fz.sls (l:=[cz [120] (G4 1)]) (f:=ab.enc) (size:=11) mm (by simp[ab.enc_row]) W8 W6) .nil))))) .nil))) W8 rfl
   ·exact hq ⟨bC,ts⟩ _ _ (.refl _) hpw rfl
end
section
set_option maxRecDepth 100000
set_option maxHeartbeats 4000000
section
variable {w:aN} {loc:List bj}
theorem Ki(l:List ab)(hll:l.length<2^40)(h:∀i (hi:i<l.length),mv 44 [.agg l[i].row] w loc (3*l[i].wt)):mv 19 [.lst (l.map ab.enc)] w loc (3*ab.wts l):=by
 intro bg o out site next h0 hl
 refine ai.fz (vz _ _ _ _ ?_);unfold kM;generalize hQ:(λ(v:AV) (L:SH)=>∃v2 L2,aI [v] L [v2] L2∧∃(o':Option Nat) (out':List bn) (site' next':Int),_)=Q;have fin:=AI hQ;clear hQ;refine cg l.length (λi (q:Option Nat×Int×Int×List bn)=>([.ptr bg 0 0,.lst (l.map ab.enc),.W9 i],(bg,gm w loc (aq q.1 q.2.2.2.length) q.2.1 q.2.2.1)::ah q.1 6 (q.2.2.2.map bn.enc)))
  (λi q=>(q.1=none→q.2.2.2=[])∧out.length≤q.2.2.2.length∧q.2.2.2.length≤out.length+3*ab.wts (l.take i)) (o,site,next,out) ⟨h0,Vo _,VX _ _⟩ (.refl _ _) ?_
 rintro i ⟨o1,s1,n1,out1⟩ hi ⟨q1,q2,q3⟩;dsimp only at q1 q2 q3 ⊢;unfold j6;generalize hnx:(λ(vs':List AV) (L':SH)=>∃j o',i<j∧j≤l.length∧_)=nx;rcases Nat.lt_or_ge i l.length with g1|g1
 ·have hd:=bF g1;have hi1:=aE g1 W4;have hx:=FE g1;have hwi:=ab.wts_succ g1;have hwt:=ab.wts_take l (i+1);have hK:=h i g1;have hn:∀(o':Option Nat) (out':List bn) (s' n':Int),(o'=none→out'=[])→out1.length≤out'.length→out'.length≤out1.length+3*l[i].wt→nx [.ptr bg 0 0,.lst (l.map ab.enc),.W9 ((i+1:Nat):Int)] ((bg,gm w loc (aq o' out'.length) s' n')::([]++ah o' 6 (out'.map bn.enc))):=by intro o' out' s' n' h1 h2 h3;subst hnx;exact⟨i+1,(o',s',n',out'),W4,W4,⟨h1,by dsimp only;omega,by dsimp only;omega⟩,.refl _ _⟩
  clear hnx h;generalize l[i]=x at *
  repeat' (first|refine st ?_|((with_reducible refine aZ 44 ?_);(refine db hK rp rp om an om (λo_ out_ s_ n_ ho_ hl_ hm_=>?_)))|refine sb λnb_ hnb_=>?_|refine s2 (λh=>?_) λh=>?_|fail)
  exact hn _ _ _ _ ho_ hl_ hm_
 ·have hd:=bM g1;have e:i=l.length:=by omega
  subst e;rw[List.take_length]at q3
  repeat' (first|refine st ?_|refine sb λnb_ hnb_=>?_|refine s2 (λh=>?_) λh=>?_|fail)
  exact fin _ _ _ _ _ _ (.one (.here _) (.slotl .last)) om an om om
theorem Qi(hw:WQ w)(hlo:loc.length<2^40):∀(n:Nat) (l:List ab),ab.wts l≤n→n<2^27→mv 19 [.lst (l.map ab.enc)] w loc (3*ab.wts l):=by
 intro n
 induction n using Nat.strongRecOn with
 |_ n ih=>
 intro l hl hn;refine Ki l (by have:=ab.wts_len l;omega) λi hi=>?_
 have h1:=ab.wts_get l i hi;have h2:=(l[i]).wt_eq;exact(SB hw hlo l[i] W4 (ih _ W4 l[i].body (Vo _) W4) (ih _ W4 l[i].els (Vo _) W4)).mono W4
end
theorem ai.fzL{P:Program}{f:FuncId}{args args2:List AV}{L L2:SH}{Q:AV→SH→Prop}(hz:aI args L args2 L2)(h:ai P f args2 L2 Q):ai P f args L Q:=⟨h.1,λH hb hs=>by
 obtain⟨H2,f1,f2,f3,f4⟩:=lP hz hs hb;obtain⟨v,H',L',h1,h2,h3⟩:=h.2 H2 f1.bd f1.sub;refine⟨v,H',L',λw σ vs hW hvs=>?_,f1.trans (h2.low (by rw[f2];exact Vo _)) (Vo _),h3⟩;obtain⟨g1,g2,g3⟩:=f3 w σ hW;refine(h1 w σ vs g1 (g3 vs hvs)).mono ?_;rintro e w' ⟨v',σ',rfl,k1,k2,e1,k4⟩;exact⟨v',σ',rfl,k1,k2,⟨e1.os,e1.tape,e1.output,e1.size,λc hc hT=>e1.keep c hc (λh=>hT (g2 c h)),e1.shape,e1.sig,e1.eqfr,e1.frame,λc hc=>(e1.own c hc).imp (g2 c) id⟩,λc pl hc=>by rw[←f2];exact k4 c pl hc⟩⟩
section
variable {n81:Kn} {x1 x2 x3 x4 x5 x6:AV} {bt bg k:Nat} {v:AV} {R:SH}
theorem Qj(l:List Int)(hl:l.length<2^30)(hk1:IntKind.i64.wrap ((k:Int)+1)=((k+1:Nat):Int))
  (hn:∀a:Int,n81 [x1,x2,x3,x4,x5,x6,.ptr bt 0 0,.W9 ((k+1:Nat):Int)] ((bt,⟨2,[[.W9 a,v]]⟩)::R)) (a:Int) :
  W.loop (gR n81) [x1,x2,x3,x4,x5,x6,.ptr bt 0 0,.W9 k,.lst (l.map ao),.W9 0] ((bt,⟨2,[[.W9 a,v]]⟩)::R):=by
 refine cg (β:=Int) l.length (λj a=>([x1,x2,x3,x4,x5,x6,.ptr bt 0 0,.W9 k,.lst (l.map ao),.W9 j],(bt,⟨2,[[.W9 a,v]]⟩)::R)) (λ_ _=>True) a trivial (.refl _ _) λj a hj _=>?_
 dsimp only;unfold gR;generalize hnx:(λ(vs':List AV) (L':SH)=>∃i o',j<i∧i≤l.length∧_)=nx;rcases Nat.lt_or_ge j l.length with g|g
 ·have hd:=bF g;have hi1:=aE g W4;have hx:=az (f:=ao) g;have hgo:∀a:Int,nx [x1,x2,x3,x4,x5,x6,.ptr bt 0 0,.W9 k,.lst (l.map ao),.W9 ((j+1:Nat):Int)] ((bt,⟨2,[[.W9 a,v]]⟩)::R):=λa=>by subst hnx;exact⟨j+1,a,W4,W4,trivial,.refl _ _⟩
  clear hnx
  repeat' (first|refine st ?_|refine J5 ?_|refine sb λnb_ hnb_=>?_|refine s2 (λh=>?_) λh=>?_|fail)
  exact hgo _
 ·have hd:=bM g
  repeat' (first|refine st ?_|refine sb λnb_ hnb_=>?_|refine s2 (λh=>?_) λh=>?_|fail)
  exact hn _
theorem Qk{n23:Kn}{w:aN}{loc:List bj}{b:Nat}{site next:Int}{M L0:SH}(out:List bn)(a:Int)(hl:out.length<2^30)
  (hn:∀a:Int,gS n23 ((bt,⟨2,[[.W9 a,v]]⟩)::(bg,gm w loc (aq (some b) out.length) site next)::(b,⟨6,out.map bn.enc⟩)::M) x3 (.ptr bt 0 0) x5 x1 x2 x4) :
  gI L0 ((bt,⟨2,[[.W9 a,v]]⟩)::(bg,gm w loc (aq (some b) out.length) site next)::(b,⟨6,out.map bn.enc⟩)::M)→W.loop (gT n23) [x1,x2,x3,x4,x5,.ptr bg 0 0,.ptr bt 0 0,.W9 0] L0:=by
 intro hp;refine cg (β:=Int) out.length (λj a=>([x1,x2,x3,x4,x5,.ptr bg 0 0,.ptr bt 0 0,.W9 j],(bt,⟨2,[[.W9 a,v]]⟩)::(bg,gm w loc (aq (some b) out.length) site next)::(b,⟨6,out.map bn.enc⟩)::M)) (λ_ _=>True) a trivial (aI.pick hp rfl) ?_;intro j a hj0 _;dsimp only;unfold gT;generalize hnx:(λ(vs':List AV) (L':SH)=>∃k o',j<k∧k≤out.length∧_)=nx;rcases Nat.lt_or_ge j out.length with h|h
 ·have hd:=bF h;have hi:=aE h W4;have hj:=az (f:=bn.enc) h;have hlen:(bU out[j]).length<2^30:=by
   generalize out[j]=i;unfold bU
   repeat' split
   all_goals simp
  have hrun:=Qj (n81:=nx) (x1:=x1) (x2:=x2) (x3:=x3) (x4:=x4) (x5:=x5) (x6:=.ptr bg 0 0) (bt:=bt) (v:=v) (R:=(bg,gm w loc (aq (some b) out.length) site next)::(b,⟨6,out.map bn.enc⟩)::M) (bU out[j]) hlen hi (λa=>by
   subst hnx;exact⟨j+1,a,W4,W4,trivial,.refl _ _⟩) a
  clear hnx
  repeat' (first|exact hrun|refine st ?_|(refine pf 21 ?_;refine pm (Qh out[j]) ?_)|refine sb λnb_ hnb_=>?_|refine s2 (λh=>?_) λh=>?_|fail)
 ·have hd:=bM h;clear hnx
  repeat' (first|exact hn _|refine st ?_|refine sb λnb_ hnb_=>?_|refine s2 (λh=>?_) λh=>?_|fail)
end
def UR(b19:Nat)(w:aN)(v:AV):Nat×Blk:=(b19,⟨7,[[.lst (w.cells.map bb.enc),.lst (w.locks.map cb.enc),.lst (w.conds.map cX.enc),.lst (w.futures.map aw),.lst (w.threads.map aw),.lst (w.sites.map cM.enc),v]]⟩)
def QZ(b2 b19:Nat)(w:aN)(oT:Option Nat)(ts:List iD):SH:=UR b19 w (aq oT ts.length)::(b2,⟨7,[[.nils,.nils,.nils,.nils,.nils,.nils,.nils]]⟩)::ah oT 2 (ts.map iD.enc)
section
variable {n23:Kn} {b2 b19 i:Nat} {n:Int} {w:aN} {oT:Option Nat} {ts:List iD} {dl:List (List AV)} {th:List aj} {kb:Nat}
theorem Ql(hi:i<th.length)(hi1:IntKind.i64.wrap ((i:Int)+1)=((i+1:Nat):Int))(hT:oT=none→ts=[])(hts:ts.length<2^20)(hK:mv 19 [.lst (th[i].body.map ab.enc)] w th[i].locals kb)(hkb:kb<2^28)
  (hn:∀(nb:Nat) (L':SH) (n2:Int) (tc:iD),tc.ins.length<2^30→aI [.pptr [[.lst dl,.lst (th.map aj.enc)]] 0 0,.ptr b2 0 0,.ptr b19 0 0,.W9 n2,.W9 ((i+1:Nat):Int)] L' [.pptr [[.lst dl,.lst (th.map aj.enc)]] 0 0,.ptr b2 0 0,.ptr b19 0 0,.W9 n2,.W9 ((i+1:Nat):Int)] (QZ b2 b19 w (some nb) (ts++[tc]))→n23 [.pptr [[.lst dl,.lst (th.map aj.enc)]] 0 0,.ptr b2 0 0,.ptr b19 0 0,.W9 n2,.W9 ((i+1:Nat):Int)] L') :
  gU n23 (QZ b2 b19 w oT ts) (.ptr b19 0 0) (.pptr [[.lst dl,.lst (th.map aj.enc)]] 0 0) (.W9 i) (.W9 n) (.ptr b2 0 0):=by
 have hx:=az (f:=aj.enc) hi;have hT0:oT=none→ts.map iD.enc=[]:=λe=>by rw[hT e];rfl
 have h00:([]:List bn).length=0:=rfl;unfold gU QZ UR
 repeat' (first|refine st ?_|((with_reducible refine aZ 19 ?_);(refine⟨ai.fzL (aI.row (K:=[]) (rows':=(gm w th[i].locals (aq none 0) 0 n).rows) (.refl _) rfl (cN (.cons (.refl _) (.cons (.refl _) (.cons (.refl _) (.cons (.refl _) (.cons (.refl _) (.cons (.refl _) (.cons (.refl _) (.cons .nile (.cons (.refl _) (.cons (.refl _) .nil)))))))))))) (db (o:=none) (out:=[]) (m:=0) (site:=0) (next:=n) hK rp (.here _) rfl (λ_=>rfl) om (λo_ out_ s_ n_ ho_ hl_ hm_=>?_)).1⟩;dsimp only[List.nil_append,List.cons_append]))|((with_reducible refine aZ 20 ?_);(refine dD (site:=-1) rp rp om an om (λb_ out_ hl_=>?_);simp only[List.cons_append,List.append_assoc,List.nil_append,List.append_nil]))|refine sb λnb_ hnb_=>?_|refine s2 (λh=>?_) λh=>?_|fail)
 refine Qk (out:=out_) (b:=b_) (w:=w) (loc:=th[i].locals) (site:=-1) (next:=n_) (M:=(b19,⟨7,[[.lst (w.cells.map bb.enc),.lst (w.locks.map cb.enc),.lst (w.conds.map cX.enc),.lst (w.futures.map aw),.lst (w.threads.map aw),.lst (w.sites.map cM.enc),aq oT ts.length]]⟩)::(b2,⟨7,[[.nils,.nils,.nils,.nils,.nils,.nils,.nils]]⟩)::ah oT 2 (ts.map iD.enc)) th[i].locals.length W4 (λa=>?_) (.one (.here _) (.one (.here _) (gI.slot (o:=some b_) (n:=6) (.there _ (.there _ (.skip _ _ _ .last))) (.one (.here _) (.one (.here _) (.slotl rp))))));unfold gS
 repeat' (first|refine st ?_|refine cy rp rp W7 (λe=>by first|simp[hT0 e]) W6 W7 (by simp;omega) (by simp;omega) W6 (λnb_ hnb_=>?_)|refine sb λnb_ hnb_=>?_|refine s2 (λh=>?_) λh=>?_|fail)
 have e:QZ b2 b19 w (some nb_) (ts++[iD.mk a out_])=[UR b19 w (.sl nb_ 0 (ts.length+1)),(b2,⟨7,[[.nils,.nils,.nils,.nils,.nils,.nils,.nils]]⟩)]++(nb_,⟨2,(ts++[iD.mk a out_]).map iD.enc⟩)::[]:=by unfold QZ;rw[Vy];rfl
 refine hn nb_ _ _ (.mk a out_) (by show out_.length<_;omega) ?_;rw[e];refine aI.rowA (rows:=ts.map iD.enc++[[.W9 a,.sl b_ 0 out_.length]]) (.one (.there _ (.there _ (.there _ (.there _ (.there _ (.here _)))))) (.one (.there _ (.there _ (.there _ (.there _ (.there _ (.here _)))))) (.one (.here _) (.nil _)))) W7 (cV (f:=iD.enc) (x:=.mk a out_) (.cons (.refl _) (.cons (Fz.sls (l:=out_) (f:=bn.enc) (size:=6) mm rfl W8 rfl) .nil))) rfl
end
end
section
set_option maxRecDepth 100000
set_option maxHeartbeats 4000000
theorem UJ(ts:List aj):∀(w:aN),(ts.foldl dx w).cells=w.cells∧(ts.foldl dx w).locks=w.locks∧(ts.foldl dx w).conds=w.conds∧(ts.foldl dx w).futures=w.futures∧(ts.foldl dx w).threads=w.threads++ts.map aj.name:=by
 induction ts with
 |nil=>intro w;simp
 |cons t l ih=>intro w;rw[WU];obtain⟨a,b,c,d,e⟩:=ih (dx w t);exact⟨a,b,c,d,by rw[e];simp[dx]⟩
theorem UK{p:bO}(hd:p.decls=bC)(hl:p.threads.length≤200000):WQ (lC p):=by
 obtain⟨a,b,c,d,e⟩:=UJ p.threads (p.decls.foldl bT aN.zero);unfold lC;have hw0:p.decls.foldl bT aN.zero=bC.foldl bT aN.zero:=by rw[hd]
 have z:(bC.foldl bT aN.zero).cells.length=5∧(bC.foldl bT aN.zero).locks.length=3∧(bC.foldl bT aN.zero).conds.length=1∧(bC.foldl bT aN.zero).futures.length=1∧(bC.foldl bT aN.zero).threads.length=0∧w6 (bC.foldl bT aN.zero).cells [113]=3:=by decide
 rw[hw0]at a b c d e ⊢;obtain⟨z1,z2,z3,z4,z5,z6⟩:=z;refine⟨by rw[a,z1];decide,by rw[b,z2];decide,by rw[c,z3];decide,by rw[d,z4];decide,by rw[e];simp[z5];omega,3,by rw[a,z1];decide,by rw[a,z6];rfl⟩
theorem Kj:∀d∈bC,(1≤d.kind∧d.kind≤6)∧d.size≤4:=by decide
theorem bP.pure(c:bP):aY (.agg c.enc):=.aggs (ep (.lmap λx _=>by unfold bb.enc;exact pv) (ep (.lmap λx _=>by unfold cb.enc;exact pv) (ep (.lmap λx _=>by unfold cX.enc;exact pv) (ep (.lmap λx _=>md x) (ep (.lmap λx _=>md x) (ep (.lmap λx _=>by unfold cM.enc;exact pv) (ep (.lmap λx _=>by unfold iD.enc;exact ep (.int _ _) (ep (.lmap λx _=>by unfold bn.enc;exact pv) D7)) D7)))))))
theorem Ja(p:bO){e ln:Int}(hd:p.decls=bC)(hck:aB Tryz.prog 17 [.agg p.enc] (.tup [.W9 e,.W9 ln]))(hw:p.wt≤200000):
  ∃(c:bP) (a b:Int),(∀x∈c.ts,x.ins.length<2^40)∧aB Tryz.prog 11 [.agg p.enc] (.tup [.agg c.enc,.W9 a,.W9 b]):=by
 have htl:=p.threads_len
 suffices h:ai Tryz.prog 11 [.agg p.enc] [] λv K=>∃(c:bP) (a b:Int),v=.tup [.agg c.enc,.W9 a,.W9 b]∧∀x∈c.ts,x.ins.length<2^40 by obtain⟨v,K,⟨c,a,b,rfl,hc⟩,hp⟩:=h.pure pv (by rintro _ _ ⟨c,a,b,rfl,_⟩;exact .tups (ep (bP.pure c) (ep (.int _ _) (ep (.int _ _) D7))));exact⟨c,a,b,hc,hp⟩
 refine ai.fz (AH _ _ _ ?_);unfold nY bO.enc;generalize hQ:(λ(v:AV) (L:SH)=>∃v2 L2,aI [v] L [v2] L2∧∃(c:bP) (a b:Int),_)=Q;have hq:∀(c:bP) (v:AV) (a b:Int) (L:SH),Fz L v (.agg c.enc)→(∀x∈c.ts,x.ins.length<2^40)→Q (.tup [v,.W9 a,.W9 b]) L:=λc v a b L h h2=>by subst hQ;exact⟨_,[],aI.all (.tups (.cons h (.cons (.refl _) (.cons (.refl _) .nil)))),c,a,b,rfl,h2⟩
 clear hQ;by_cases he:e=0
 case neg=>
  have d0:decide (e≠0)=true:=decide_eq_true he
  repeat' (first|refine st ?_|(refine pf 17 ?_;refine pm (hck) ?_)|refine sb λnb_ hnb_=>?_|refine s2 (λh=>?_) λh=>?_|fail)
  exact hq ⟨⟨[],[],[],[],[],[]⟩,[]⟩ _ _ _ _ (Fz.aggs (.cons .nils (.cons .nils (.cons .nils (.cons .nils (.cons .nils (.cons .nils (.cons .nils .nil)))))))) nofun
 subst he;have hW:=Mp p (by rw[hd];exact Kj) hck hw;have hQ2:=UK hd W4
 repeat' (first|refine st ?_|(refine pf 17 ?_;refine pm (hck) ?_)|(refine pf 18 ?_;refine pm (hW) ?_)|refine sb λnb_ hnb_=>?_|refine s2 (λh=>?_) λh=>?_|fail)
 rename_i b0 hb0 b2 hb2;refine cg (β:=Option Nat×List iD×Int) p.threads.length (λi q=>([.pptr [[.lst (p.decls.map aH.enc),.lst (p.threads.map aj.enc)]] 0 0,.ptr b2 0 0,.ptr nb_ 0 0,.W9 q.2.2,.W9 i],QZ b2 nb_ (lC p) q.1 q.2.1)) (λi q=>(q.1=none→q.2.1=[])∧q.2.1.length=i∧∀x∈q.2.1,x.ins.length<2^40) (none,[],0) ⟨λ_=>rfl,rfl,nofun⟩ ?_ ?_
 ·dsimp only;refine aI.row (K:=[]) (b:=nb_) (n:=7) (rows:=[bA [.nils,.nils,.nils,.nils,.nils,.nils,.nils] 0 (lC p).enc]) (rows':=[[.lst ((lC p).cells.map bb.enc),.lst ((lC p).locks.map cb.enc),.lst ((lC p).conds.map cX.enc),.lst ((lC p).futures.map aw),.lst ((lC p).threads.map aw),.lst ((lC p).sites.map cM.enc),.emp]]) (.refl _) rfl ?_;refine cN ?_;show jd [] [.lst ((lC p).cells.map bb.enc),.lst ((lC p).locks.map cb.enc),.lst ((lC p).conds.map cX.enc),.lst ((lC p).futures.map aw),.lst ((lC p).threads.map aw),.lst ((lC p).sites.map cM.enc),.nils] _;exact .cons (.refl _) (.cons (.refl _) (.cons (.refl _) (.cons (.refl _) (.cons (.refl _) (.cons (.refl _) (.cons .nile .nil))))))
 rintro i ⟨oT,ts,nx⟩ hi ⟨hG,hts,hin⟩;dsimp only at hG hts hin ⊢;unfold mu;generalize hnx:(λ(vs':List AV) (L':SH)=>∃j o',i<j∧j≤p.threads.length∧_)=nxt;rcases Nat.lt_or_ge i p.threads.length with g1|g1
 ·have hd1:=bF g1;have hi1:=aE g1 W4;have hwt:=p.thread_wt g1;have hwe:(p.threads[i]).wt=1+(p.threads[i]).name.length+(p.threads[i]).locals.length+((p.threads[i]).locals.map List.length).sum+ab.wts (p.threads[i]).body:=rfl;have hK:=Qi (loc:=p.threads[i].locals) hQ2 W4 _ p.threads[i].body (Vo _) W4;have hr:=Ql (n23:=nxt) (b2:=b2) (b19:=nb_) (n:=nx) (dl:=p.decls.map aH.enc) (oT:=oT) (ts:=ts) g1 hi1 hG W4 hK W4 (λnb L' n2 tc h1 hz=>by
   subst hnx;refine⟨i+1,(some nb,ts++[tc],n2),W4,W4,⟨nofun,by simp[hts],λx hx=>?_⟩,hz⟩;rcases VC.1 hx with hx|hx
   ·exact hin x hx
   ·rw[Vv.1 hx];omega)
  clear hnx;generalize hL:QZ b2 nb_ (lC p) oT ts=LW at *
  repeat' (first|exact hr|refine st ?_|refine sb λnb_ hnb_=>?_|refine s2 (λh=>?_) λh=>?_|fail)
 ·have hd1:=bM g1;unfold QZ UR
  repeat' (first|refine st ?_|refine sb λnb_ hnb_=>?_|refine s2 (λh=>?_) λh=>?_|fail)
  refine av (.there _ (.here _)) rfl rfl (by simp[AK];exact⟨rfl,rfl,rfl,rfl,rfl,rfl⟩) rfl ?_
  repeat' (first|refine st ?_|refine sb λnb_ hnb_=>?_|refine s2 (λh=>?_) λh=>?_|fail)
  exact hq ⟨lC p,ts⟩ _ _ _ _ (Fz.aggs (.cons (.refl _) (.cons (.refl _) (.cons (.refl _) (.cons (.refl _) (.cons (.refl _) (.cons (.refl _) (.cons (EM hG W8 λq h=>.tail _ (.tail _ h)) .nil)))))))) hin
theorem Kk(s:UInt8):∀a∈fq s,aY a:=λa h=>by rw[Vv.1 h];exact .int _ _
theorem OS(t:List UInt8)(ht:t.length<2^40):∃c:bP,aB Tryz.prog 6 [.lst (t.map fq)] (.agg c.enc)∧∀x∈c.ts,x.ins.length<2^40:=by
 obtain⟨v,K,⟨p,rfl,rfl,hw,hd⟩,hprog⟩:=(OR t ht).pure (ep (.lmap λx _=>Kk x) D7) (λu K ⟨p,h1,_⟩=>by rw[h1];exact p.pure);obtain⟨c,a,b,hc,hP⟩:=Ja p hd (FW p W4) hw;refine⟨c,?_,hc⟩;refine ai.fz (G3 _ _ _ ?_);unfold A6;generalize hQ:(λ(v:AV) (L:SH)=>∃v2 L2,aI [v] L [v2] L2∧v2=AV.agg c.enc∧L2=[])=Q;have hq:∀L,Q (.agg c.enc) L:=λL=>by subst hQ;exact⟨_,[],aI.all (.refl _),rfl,rfl⟩
 clear hQ
 repeat' (first|refine st ?_|(refine pf 12 ?_;refine pm (hprog) ?_)|(refine pf 11 ?_;refine pm (hP) ?_)|refine sb λnb_ hnb_=>?_|refine s2 (λh=>?_) λh=>?_|fail)
 exact hq _
end
theorem OT(t s:List UInt8):aB Tryz.prog 4 [.lst (t.map fq),.lst (s.map fq)] (.bool true):=OC t s (OS t)
section
open Go.ChangeShapes Go.WideShapes Go.ChangeAt Go.RowKit
def Mt:bq:=⟨λ_=>none,λ_=>False⟩
def Mu:Nat→Prop:=λ_=>False
def US{α:Type}(e:α→List AV)(G:α→Prop):Rel α:=λw _ x cs=>G x∧eu w Mt Mu (e x) cs
theorem Jb{w:World}{σ:bq}{T:Nat→Prop}{a:AV}{v:Value}(h:aU w σ T a v):eu w σ T [a] [v]:=⟨rfl,λi x u h1 h2=>by
 match i with
 |0=>cases h1;cases h2;exact h
 |i+1=>simp at h1⟩
theorem F1{w:World}{σ:bq}{T:Nat→Prop}{a:AV}{v:Value}{l:List AV}{m:List Value}(h:eu w σ T [a] [v])(hl:eu w σ T l m):eu w σ T (a::l) (v::m):=⟨by simp[hl.1],λi x u h1 h2=>by
 match i with
 |0=>exact h.2 0 x u h1 h2
 |i+1=>exact hl.2 i x u (by simpa using h1) (by simpa using h2)⟩
theorem OU{w:World}{σ:bq}{T:Nat→Prop}:eu w σ T [] []:=⟨rfl,λi x u h1 h2=>by simp at h1⟩
section
variable {H:Type} {enc:TypeId×Value→H} {P:Program} {w:World} {base:Nat} {spare:Nat→Bool} {held:Bool}
theorem SU{t:TypeId}{k:IntKind}(ht:P.underlying t=some (.int k)):Opens H enc P w base spare held t (US (λn:Int=>[.int k n]) λn=>(Lit.int k n).wf=true):=λfuel cs x h=>by obtain⟨n,rfl,hn⟩:=opens_int ht fuel cs x h;exact⟨n,hn,Jb (.int k n)⟩
theorem OV{α:Type}{t e:TypeId}{size:Nat}{f:α→List AV}{G:α→Prop}(ht:P.underlying t=some (.slice e))(hc:P.cellsOf e=size)(hs:0<size)(he:Opens H enc P w base spare held e (US f G)):
  Opens H enc P w base spare held t (US (λl:List α=>[.lst (l.map f)]) λl=>l.length≤maxLen∧∀x∈l,G x):=λfuel cs x h=>by
 obtain⟨l,A,c,rfl,h1,h2,h3⟩:=opens_slice ht hc hs he fuel cs x h;refine⟨l,⟨W4,λx hx=>?_⟩,Jb ?_⟩
 ·obtain⟨i,hi,rfl⟩:=Wq hx;obtain⟨b,o,_,_,hall⟩:=h3 W4;obtain⟨cs',_,hR,_⟩:=hall i l[i] (Vn hi);exact hR.1
 ·rcases Wi l.length with h0|h0
  ·have:l=[]:=Wr.1 h0;subst this;exact .lst0 A c h2
  ·obtain⟨b,o,rfl,hb,hall⟩:=h3 h0;have:=aU.lst (w:=w) (σ:=Mt) (T:=Mu) (l.map f) b o size c ⟨λh=>h,λi r hr=>?_,λi j hi hj=>?_,hs,by simpa using h0⟩ (by simpa using h1) h2 (λi r j a u hr ha hu=>?_)
   ·simpa using this
   ·rw[VD]at hr;cases hx:l[i]? with
    |none=>rw[hx]at hr;cases hr
    |some y=>rw[hx]at hr;cases hr;obtain⟨cs',k1,k2,_⟩:=hall i y hx;rw[k2.2.1,k1]
   ·have hi':i<l.length:=by simpa using hi
    obtain⟨cs',k1,k2,k3⟩:=hall i l[i] (Vn hi');exact⟨cs'[j],k3 j _ (Vn W4)⟩
   ·rw[VD]at hr;cases hx:l[i]? with
    |none=>rw[hx]at hr;cases hr
    |some y=>
     rw[hx]at hr;cases hr;obtain⟨cs',k1,k2,k3⟩:=hall i y hx;have hj:j<cs'.length:=by rw[←k2.2.1];exact aA ha
     have hu':=k3 j _ (Vn hj);rw[hu]at hu';cases hu';exact k2.2.2 j a _ ha (Vn hj)
end
theorem Mv{P:Program}{f:FuncId}{args:List AV}{vs:List Value}(h:aB P f args (.bool true))(w:World)(hv:eu w Mt Mu args vs)(hG:ij w Mu:=by exact λg r h=>by cases h):Calls P f vs.toArray w λe w'=>e=.returned (.bool true)∧Below w.heap.size w w':=by
 obtain⟨v,H',L',h1,h2,rfl,rfl⟩:=h.2 ae.empty (λb _=>cT b) ⟨Ws,λp hp=>by simp at hp⟩;have hown:aJ Mt ae.empty=Mu:=by
  funext c;apply propext;constructor
  ·rintro(h|⟨b,x,pl,h4,_,_⟩)
   ·exact h
   ·rw[cT]at h4;cases h4
  ·exact λh=>h.elim
 have hW:aX w Mt ae.empty:=⟨λb pl hb=>(by cases hb),λb pl hb=>(by cases hb),λb x hb=>(by rw[cT]at hb;cases hb),λc hc=>hc.elim,λb b' x x' pl pl' hb=>(by rw[cT]at hb;cases hb),by rw[hown];exact hG⟩;refine(h1 w Mt vs hW (by rw[hown];exact hv)).mono ?_;rintro e w' ⟨v',σ',rfl,k1,k2,k3,_⟩;cases k1;rw[hown]at k3;exact⟨rfl,k3.os,k3.tape,k3.output,k3.size,λk hk=>k3.keep k hk λh=>h⟩
end
section
open Go.ChangeShapes Go.WideShapes Go.ChangeAt Go.RowKit
def UT(n:Int):List AV:=[.int .u8 n]
def Vl(l:List Int):List UInt8:=l.map λx=>UInt8.ofNat x.toNat
theorem Q0{x:Int}(h:(Lit.int .u8 x).wf=true):0≤x∧x<256:=by
 simp only[Lit.wf,VS,decide_eq_true_eq]at h;have h1:IntKind.u8.min=0:=by decide
 have h2:IntKind.u8.max=255:=by decide
 omega
theorem Ln{l:List Int}(h:∀x∈l,0≤x∧x<256):(Vl l).map fq=l.map UT:=by
 unfold Vl;rw[List.map_map];refine List.map_congr_left λx hx=>?_
 have:=h x hx;show [AV.int .u8 (((UInt8.ofNat x.toNat).toNat:Nat):Int)]=[AV.int .u8 x];rw[UInt8.toNat_ofNat_of_lt' (by show x.toNat<256;omega),Int.toNat_of_nonneg this.1]
section
variable {H:Type} {enc:TypeId×Value→H} {w:World} {base:Nat} {spare:Nat→Bool} {held:Bool}
theorem OW:Opens H enc Tryz.prog w base spare held 22 (US (λl:List Int=>[.lst (l.map UT)]) λl=>l.length≤maxLen∧∀x∈l,(Lit.int .u8 x).wf=true):=
 OV (size:=1) Tryz.underlying22 (by kernel_rfl) W8 (SU (by kernel_rfl))
end
end
section
open Go.ChangeShapes Go.WideShapes Go.ChangeAt Go.RowKit
set_option maxRecDepth 100000
theorem OX{H:Type}{enc:TypeId×Value→H}{P:Program}{w:World}{base:Nat}{spare:Nat→Bool}{held:Bool}{fuel:Nat}{t e:TypeId}{n:Nat}{cs:List Value}{ds:List (DataW H)}{q:List MemPlace}(ht:P.underlying t=some (.array n e))(hc:P.cellsOf e=1)(hn:P.cellsOf t=n)(h:DataW.trod enc P w base spare held fuel t cs=some (.agg ds,q)){i:Nat}{d:DataW H}(hd:ds[i]? =some d):
  ∃m c y,cs[i]? =some c∧DataW.trod enc P w base spare held m e [c]=some (d,y):=by
 obtain⟨xs,m,_,hx,hl,hxn,hel⟩:=DataW.trod_array ht h;simp only[Prod.mk.injEq,DataW.agg.injEq]at hx;rw[hx.1,VD]at hd;cases hxi:xs[i]? with
 |none=>rw[hxi]at hd;cases hd
 |some x=>
  rw[hxi]at hd;cases hd;have hi:i<n:=by rw[←hxn];exact(V7.1 hxi).1
  have hi2:i<cs.length:=by omega
  have h2:=hel i hi;rw[hc,Nat.mul_one,hxi,WF hi2,List.take_succ_cons,List.take_zero]at h2;exact⟨m,cs[i],x.2,Vn hi2,h2⟩
theorem Qm{P:Program}{w:World}{fuel:Nat}{t e:TypeId}{n:Nat}{cs:Array Value}{l:List Int}{q:List MemPlace}{g:Nat}{nm:String}(hg:P.globalNamed nm=some g)(hv:w.var? P nm=some cs)(ht:P.underlying t=some (.array n e))(hc:P.cellsOf e=1)(hn:P.cellsOf t=n)(he:P.underlying e=some (.int .i64))(h:DataW.trod (λ_=>()) P w 0 (λ_=>true) false fuel t cs.toList=some (.agg (l.map λn=>.lit (.int .i64 n)),q))(j:Nat)(a:AV)(ha:(l.map λn=>AV.int .i64 n)[j]? =some a):∃u,w.cell? ⟨g,j,none⟩=some u∧Hk u=some a:=by
 rw[VD]at ha;cases hj:l[j]? with
 |none=>rw[hj]at ha;cases ha
 |some v=>
  rw[hj]at ha;cases ha;obtain⟨m,c,y,hcj,htr⟩:=OX ht hc hn h (i:=j) (d:=.lit (.int .i64 v)) (by rw[VD,hj];rfl);obtain⟨k,e1,e2,_⟩:=DataW.trod_int he htr;simp only[List.cons.injEq,and_true]at e1;simp only[Prod.mk.injEq,DataW.lit.injEq,Lit.int.injEq,true_and]at e2;refine⟨c,?_,?_⟩
  ·rw[World.var?_cell hg hv j,←VM,hcj]
  ·rw[e1,←e2.1];rfl
theorem Qn{P:Program}{w:World}{fuel:Nat}{t e:TypeId}{n:Nat}{cs:Array Value}{l:List (List UInt8)}{q:List MemPlace}{g:Nat}{nm:String}(hg:P.globalNamed nm=some g)(hv:w.var? P nm=some cs)(ht:P.underlying t=some (.array n e))(hc:P.cellsOf e=1)(hn:P.cellsOf t=n)(he:P.underlying e=some .string)(h:DataW.trod (λ_=>()) P w 0 (λ_=>true) false fuel t cs.toList=some (.agg (l.map λn=>.lit (.string n)),q))(j:Nat)(a:AV)(ha:(l.map AV.str)[j]? =some a):∃u,w.cell? ⟨g,j,none⟩=some u∧Hk u=some a:=by
 rw[VD]at ha;cases hj:l[j]? with
 |none=>rw[hj]at ha;cases ha
 |some v=>
  rw[hj]at ha;cases ha;obtain⟨m,c,y,hcj,htr⟩:=OX ht hc hn h (i:=j) (d:=.lit (.string v)) (by rw[VD,hj];rfl);obtain⟨k,e1,e2,_⟩:=DataW.trod_string he htr;simp only[List.cons.injEq,and_true]at e1;simp only[Prod.mk.injEq,DataW.lit.injEq,Lit.string.injEq]at e2;refine⟨c,?_,?_⟩
  ·rw[World.var?_cell hg hv j,←VM,hcj]
  ·rw[e1,e2.1];rfl
theorem UL:(Tryz.prog.globals[1]?).map (·.type)=some 219:=by kernel_rfl
theorem SW:(Tryz.prog.globals[0]?).map (·.type)=some 182:=by kernel_rfl
theorem UM : Tryz.prog.globalNamed "interleave/token.keywords" = some 1 := by kernel_rfl
theorem SX : Tryz.prog.globalNamed "interleave/run.kinds" = some 0 := by kernel_rfl
theorem Qo {W : World} (h : laidMetH Tryz.prog [("interleave/token.keywords", Rows.laid_interleave_token_keywords), ("interleave/run.kinds", Rows.laid_interleave_run_kinds)] W) : ij W Mu := by
 rw[MakeChecks.laidMetH_plain _ _ _ (by kernel_rfl)]at h;obtain⟨ps,⟨g0,t0,cs0,f0,p0,q0,hg0,ht0,hv0,hd0,⟨g1,t1,cs1,f1,p1,q1,hg1,ht1,hv1,hd1,_,_⟩,_⟩,_,_⟩:=h;obtain rfl:=WX (UM.symm.trans hg0);obtain rfl:=WX (SX.symm.trans hg1);obtain rfl:=WX (UL.symm.trans ht0);obtain rfl:=WX (SW.symm.trans ht1);intro g r hg;unfold UO at hg;split at hg
 ·rename_i e;subst e;cases hg;exact⟨λh=>h,W8,Qm hg1 hv1 Tryz.underlying182 (by kernel_rfl) (by kernel_rfl) Tryz.underlying3 hd1⟩
 ·split at hg
  ·rename_i e;subst e;cases hg;exact⟨λh=>h,W8,Qn hg0 hv0 Tryz.underlying219 (by kernel_rfl) (by kernel_rfl) Tryz.underlying9 hd0⟩
  ·cases hg
end
end Go.Proofs.YtenbpcngcicamaaGreatDoor.Am
