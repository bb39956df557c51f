/- A part of the proof; the statement is proved in the last part. -/
import Derived.Test.YtdnpdghlggbklaaGreatDoorQez
import Derived.Test.YtdnpdghlggbklaaGreatDoorRows
import Derived.OpenShut
import Derived.MakeChecks
import Derived.FnData
set_option linter.unusedSimpArgs false
set_option linter.unusedVariables false
namespace Go.Proofs.YtdnpdghlggbklaaGreatDoor.Am
section
set_option maxRecDepth 100000
set_option maxHeartbeats 1000000
theorem Qn(i:bj):az Tryz.prog 32 [.agg i.enc] (.lst ((bT i).map aj)):=by
 obtain⟨op,ia,ib,ic,n,site⟩:=i;refine af.fz (vX _ _ _ ?_);unfold kP;generalize hQ:(λ(v:AV) (L:SH)=>∃v2 L2,aJ [v] L [v2] L2∧v2=AV.lst ((bT ⟨op,ia,ib,ic,n,site⟩).map aj)∧L2=[])=Q;have hq:∀(l:List Int),bT ⟨op,ia,ib,ic,n,site⟩=l→∀v L,Fz L v (.lst (l.map aj))→Q v L:=λl hl v L h=>by subst hQ;exact⟨_,[],aJ.all h,by rw[hl],rfl⟩
 clear hQ
 repeat' (first|refine st ?_|refine sb λnb_ hnb_=>?_|refine s2 (λh=>?_) λh=>?_|fail)
 all_goals first
  |exact hq [ia] (by simp_all[bT];done) _ _ (Fz.sls (l:=[ia]) (f:=aj) (.head _) rfl Xl rfl)
  |exact hq [ib] (by simp_all[bT];done) _ _ (Fz.sls (l:=[ib]) (f:=aj) (.head _) rfl Xl rfl)
  |exact hq [ia,ib] (by simp_all[bT];done) _ _ (Fz.sls (l:=[ia,ib]) (f:=aj) (.head _) rfl Xl rfl)
  |exact hq [ia,ic] (by simp_all[bT];done) _ _ (Fz.sls (l:=[ia,ic]) (f:=aj) (.head _) rfl Xl rfl)
  |exact hq [ib,ic] (by simp_all[bT];done) _ _ (Fz.sls (l:=[ib,ic]) (f:=aj) (.head _) rfl Xl rfl)
  |exact hq [ia,ib,ic] (by simp_all[bT];done) _ _ (Fz.sls (l:=[ia,ib,ic]) (f:=aj) (.head _) rfl Xl rfl)
  |exact hq [] (by simp_all[bT];done) _ _ .nils
end
section
set_option maxRecDepth 100000
set_option maxHeartbeats 4000000
theorem OW{α:Type}{f:α→List AV}{l:List α}{n by_:Nat}{L:SH}{KL:AV→SH→Prop}(hn:∀x,(f x).length=n)(h2:2*l.length*by_≤2^48)(h3:2*l.length≤2^62)(h4:∀x,(f x).all AV.one=true)
  (h:l=[]→KL .nils L) (h':∀b,KL (.sl b 0 l.length) ((b,⟨n,l.map f⟩)::L)):W.append n by_ .nils (.lst (l.map f)) L KL:=by
 have h4':((l.map f).all λr=>r.all AV.one)=true:=by rw[VR];intro r hr;obtain⟨x,_,rfl⟩:=Wd.1 hr;exact h4 x
 refine⟨[],l.map f,rfl,wH hn,by simpa using h2,by simpa using h3,h4',λe=>?_,λe b hb=>?_⟩
 ·exact h (by simpa using e)
 ·have:=h' b;simpa using this
theorem S4{n23:Kn}{bm bt b0 bp nmb bh lb a n i:Nat}{t:List UInt8}{th le:Int}{se tx at_ lo:Bool}{o oT:Option Nat}{ar:List aZ}{ts:List ah}{nm:aZ}
  (ht:t.length<2^40) (ha:a≤t.length) (ho:o=none→ar=[]) (hoT:oT=none→ts=[]) (hts:ts.length≤4)
  (f1:bh≠bm) (f2:bh≠bt) (f3:∀b,o=some b→bh≠b) (hnm:nm.length≤4)
  (hz:decide ((i:Int)=0)=false) (hn:∀(x:ah) (a':Nat) (th' le':Int) (se' tx' at' lo':Bool) (o':Option Nat) (ar':List aZ) (nbT:Nat) (L':SH),(ah.wt x≤40000∧x.name=nm∧x.locals=[[97],[98]])→a'≤t.length→(o'=none→ar'=[])→aJ [.ptr b0 0 0,.ptr bm 0 0,.ptr bp 0 0,.Xm n,.sl nmb 0 4,.Xm (IntKind.i64.wrap ((i:Int)+1))] L' [.ptr b0 0 0,.ptr bm 0 0,.ptr bp 0 0,.Xm n,.sl nmb 0 4,.Xm (IntKind.i64.wrap ((i:Int)+1))] (PH bm bt b0 bp nmb t a' th' le' se' tx' at' lo' o' ar' (some nbT) (ts.length+1) (ts++[x]))→aJ [.ptr b0 0 0,.ptr bm 0 0,.ptr bp 0 0,.Xm n,.sl nmb 0 4,.Xm (IntKind.i64.wrap ((i:Int)+1))] L' [.ptr b0 0 0,.ptr bm 0 0,.ptr bp 0 0,.Xm n,.sl nmb 0 4,.Xm (IntKind.i64.wrap ((i:Int)+1))] (PZ b0 bp (ts++[x]))→n23 [.ptr b0 0 0,.ptr bm 0 0,.ptr bp 0 0,.Xm n,.sl nmb 0 4,.Xm (IntKind.i64.wrap ((i:Int)+1))] L')
  : bY n23 [.ptr b0 0 0,.ptr bm 0 0,.ptr bp 0 0,.Xm n,.sl nmb 0 4,.Xm (i:Int),.ptr bh 0 0] ((bh,⟨4,[[.str nm,.Xm 0,.sl lb 0 2,AV.nils]]⟩)::(lb,⟨1,[[.str [97]],[.str [98]]]⟩)::(bm,de bt th le se tx at_ lo o 0)::(bt,aN t a)::(b0,⟨2,[[.nils,.nils]]⟩)::(bp,⟨2,[[.lst (bA.map aI.enc),am oT ts.length]]⟩)::(nmb,⟨1,qq.map au⟩)::(ae oT 4 (ts.map ah.enc)++ae o 1 (ar.map au))):=by
 unfold bY de ml
 repeat' (first|refine mK (sZ ?_ (Qj Xh))|refine st ?_|((with_reducible refine aX 34 ?_);(refine fI ht Xi rp (λr_ a_ hr_ ha_=>?_)))|((with_reducible refine ef 34 ?_);refine CB ht Xi rp (λr_ a_ hr_ ha_=>?_))|((with_reducible refine ef 35 ?_);refine Jf rfl Xh rp rp rp ht Xi Xi (Je f1 f2 f3) ?_;rintro l_ a_ th_ le_ se_ tx_ at_ lo_ o_ ar_ ks_ hl_ ha_ ho_;have hl9_:=ab.wts_len l_;rcases o_ with _|ob_;all_goals dsimp only[Cz,CA,List.nil_append,List.cons_append])|(refine OW (λx=>by rw[ab.enc_row];rfl) Xh Xh (λx=>by rw[ab.enc_row];rfl) ?_ ?_;all_goals first|(intro e_;subst e_)|intro ob2_)|refine cz rp rp Xk (λe=>by first|simp[hoT e]) Xj Xk (by simp;omega) (by simp;omega) Xj (λnb_ hnb_=>?_)|refine sb λnb_ hnb_=>?_|refine s2 (λh=>?_) λh=>?_|fail)
 all_goals first
  |exact hn ⟨nm,0,[[97],[98]],l_⟩ a_ th_ le_ se_ tx_ at_ lo_ none ar_ nb_ _ ⟨by simp only[ah.wt,ab.wts,VD,Wm,VZ,V7,Wz,WY];omega,rfl,rfl⟩ ha_ ho_ (aJ.rowA (A:=[(bm,_),(bt,_),(b0,_),(bp,_),(nmb,_)]) (b:=nb_) (R:=[]) (rows':=(ts++[_]).map ah.enc) rp Xk (cU (f:=ah.enc) (.cons (.refl _) (.cons (.refl _) (.cons (Fz.sls (l:=[[97],[98]]) (f:=au) (size:=1) (b:=lb) mm Xj Xl Xj) (.cons (Fz.sls (l:=l_) (f:=ab.enc) (size:=11) (b:=ob2_) mm Xj Xl Xj) .nil))))) rfl) (aJ.rowA (A:=[(b0,_)]) (b:=bp) (R:=[]) (rows':=[[.lst (bA.map aI.enc),.lst ((ts++[_]).map ah.enc)]]) rp Xj (cN (.cons (.refl _) (.cons (eX (b:=nb_) mm Xj Xj (.cons (.refl _) (.cons (.refl _) (.cons (Fz.sls (l:=[[97],[98]]) (f:=au) (size:=1) (b:=lb) mm Xj Xl Xj) (.cons (Fz.sls (l:=l_) (f:=ab.enc) (size:=11) (b:=ob2_) mm Xj Xl Xj) .nil))))) .nil))) rfl)
  |exact hn ⟨nm,0,[[97],[98]],[]⟩ a_ th_ le_ se_ tx_ at_ lo_ none ar_ nb_ _ ⟨by simp only[ah.wt,ab.wts,VD,Wm,VZ,V7,Wz,WY];omega,rfl,rfl⟩ ha_ ho_ (aJ.rowA (A:=[(bm,_),(bt,_),(b0,_),(bp,_),(nmb,_)]) (b:=nb_) (R:=[]) (rows':=(ts++[_]).map ah.enc) rp Xk (cU (f:=ah.enc) (.cons (.refl _) (.cons (.refl _) (.cons (Fz.sls (l:=[[97],[98]]) (f:=au) (size:=1) (b:=lb) mm Xj Xl Xj) (.cons .nils .nil))))) rfl) (aJ.rowA (A:=[(b0,_)]) (b:=bp) (R:=[]) (rows':=[[.lst (bA.map aI.enc),.lst ((ts++[_]).map ah.enc)]]) rp Xj (cN (.cons (.refl _) (.cons (eX (b:=nb_) mm Xj Xj (.cons (.refl _) (.cons (.refl _) (.cons (Fz.sls (l:=[[97],[98]]) (f:=au) (size:=1) (b:=lb) mm Xj Xl Xj) (.cons .nils .nil))))) .nil))) rfl)
  |exact hn ⟨nm,0,[[97],[98]],l_⟩ a_ th_ le_ se_ tx_ at_ lo_ (some ob_) ar_ nb_ _ ⟨by simp only[ah.wt,ab.wts,VD,Wm,VZ,V7,Wz,WY];omega,rfl,rfl⟩ ha_ ho_ (aJ.rowA (A:=[(bm,_),(bt,_),(b0,_),(bp,_),(nmb,_)]) (b:=nb_) (R:=[(ob_,_)]) (rows':=(ts++[_]).map ah.enc) rp Xk (cU (f:=ah.enc) (.cons (.refl _) (.cons (.refl _) (.cons (Fz.sls (l:=[[97],[98]]) (f:=au) (size:=1) (b:=lb) mm Xj Xl Xj) (.cons (Fz.sls (l:=l_) (f:=ab.enc) (size:=11) (b:=ob2_) mm Xj Xl Xj) .nil))))) rfl) (aJ.rowA (A:=[(b0,_)]) (b:=bp) (R:=[]) (rows':=[[.lst (bA.map aI.enc),.lst ((ts++[_]).map ah.enc)]]) rp Xj (cN (.cons (.refl _) (.cons (eX (b:=nb_) mm Xj Xj (.cons (.refl _) (.cons (.refl _) (.cons (Fz.sls (l:=[[97],[98]]) (f:=au) (size:=1) (b:=lb) mm Xj Xl Xj) (.cons (Fz.sls (l:=l_) (f:=ab.enc) (size:=11) (b:=ob2_) mm Xj Xl Xj) .nil))))) .nil))) rfl)
  |exact hn ⟨nm,0,[[97],[98]],[]⟩ a_ th_ le_ se_ tx_ at_ lo_ (some ob_) ar_ nb_ _ ⟨by simp only[ah.wt,ab.wts,VD,Wm,VZ,V7,Wz,WY];omega,rfl,rfl⟩ ha_ ho_ (aJ.rowA (A:=[(bm,_),(bt,_),(b0,_),(bp,_),(nmb,_)]) (b:=nb_) (R:=[(ob_,_)]) (rows':=(ts++[_]).map ah.enc) rp Xk (cU (f:=ah.enc) (.cons (.refl _) (.cons (.refl _) (.cons (Fz.sls (l:=[[97],[98]]) (f:=au) (size:=1) (b:=lb) mm Xj Xl Xj) (.cons .nils .nil))))) rfl) (aJ.rowA (A:=[(b0,_)]) (b:=bp) (R:=[]) (rows':=[[.lst (bA.map aI.enc),.lst ((ts++[_]).map ah.enc)]]) rp Xj (cN (.cons (.refl _) (.cons (eX (b:=nb_) mm Xj Xj (.cons (.refl _) (.cons (.refl _) (.cons (Fz.sls (l:=[[97],[98]]) (f:=au) (size:=1) (b:=lb) mm Xj Xl Xj) (.cons .nils .nil))))) .nil))) rfl)
end
section
set_option maxRecDepth 100000
set_option maxHeartbeats 4000000
@[irreducible] def JJ (n23:Kn) (v:List AV) (L:SH):Prop:=bY n23 v L
theorem Q6{n23:Kn}{v:List AV}{L:SH}(h:JJ n23 v L):bY n23 v L:=by unfold JJ at h;exact h
theorem Q7{n23:Kn}{v:List AV}{L:SH}(h:bY n23 v L):JJ n23 v L:=by unfold JJ;exact h
theorem Ls(r:Nat):(qq.getD r []).length≤4:=by
 rcases r with _|_|_|_|r
 all_goals simp[qq]
theorem S5{n23:Kn}{bm bt b0 bp nmb bh lb a n:Nat}{t:List UInt8}{th le:Int}{se tx at_ lo:Bool}{o oT:Option Nat}{ar:List aZ}{ts:List ah}{nm:aZ}{m:Nat}(hn4:n≤4)(h1:1≤n)
  (hj:∀(oB:Option Nat) (ps:List (List AV×ab)),(oB=none→ps=[])→ps.length≤4→fQ ps→ab.wts (ps.map Prod.snd)≤100→JJ n23 [.ptr b0 0 0,.ptr bm 0 0,.ptr bp 0 0,.Xm n,.sl nmb 0 4,.Xm ((0:Nat):Int),.ptr bh 0 0] ((bh,⟨4,[[.str nm,.Xm 0,.sl lb 0 2,am oB ps.length]]⟩)::(lb,⟨1,[[.str [97]],[.str [98]]]⟩)::(bm,de bt th le se tx at_ lo o 0)::(bt,aN t a)::(b0,⟨2,[[.nils,.nils]]⟩)::(bp,⟨2,[[.lst (bA.map aI.enc),am oT m]]⟩)::(nmb,⟨1,qq.map au⟩)::(ae oB 11 (ps.map Prod.fst)++(ae oT 4 (ts.map ah.enc)++ae o 1 (ar.map au))))) :
  W.loop (iD (bY n23)) [.ptr b0 0 0,.ptr bm 0 0,.ptr bp 0 0,.Xm n,.sl nmb 0 4,.Xm ((0:Nat):Int),.ptr bh 0 0,.Xm 1] ((bh,⟨4,[[.str nm,.Xm 0,.sl lb 0 2,.nils]]⟩)::(lb,⟨1,[[.str [97]],[.str [98]]]⟩)::(bm,de bt th le se tx at_ lo o 0)::(bt,aN t a)::(b0,⟨2,[[.nils,.nils]]⟩)::(bp,⟨2,[[.lst (bA.map aI.enc),am oT m]]⟩)::(nmb,⟨1,qq.map au⟩)::(ae oT 4 (ts.map ah.enc)++ae o 1 (ar.map au))):=by
 refine cg (β:=Option Nat×List (List AV×ab)) (n-1) (λj ⟨oB,ps⟩=>([.ptr b0 0 0,.ptr bm 0 0,.ptr bp 0 0,.Xm n,.sl nmb 0 4,.Xm ((0:Nat):Int),.ptr bh 0 0,.Xm ((j+1:Nat):Int)],(bh,⟨4,[[.str nm,.Xm 0,.sl lb 0 2,am oB j]]⟩)::(lb,⟨1,[[.str [97]],[.str [98]]]⟩)::(bm,de bt th le se tx at_ lo o 0)::(bt,aN t a)::(b0,⟨2,[[.nils,.nils]]⟩)::(bp,⟨2,[[.lst (bA.map aI.enc),am oT m]]⟩)::(nmb,⟨1,qq.map au⟩)::(ae oB 11 (ps.map Prod.fst)++(ae oT 4 (ts.map ah.enc)++ae o 1 (ar.map au)))))
  (λj ⟨oB,ps⟩=>(oB=none→ps=[])∧ps.length=j∧fQ ps∧ab.wts (ps.map Prod.snd)≤10*j) (none,[]) ⟨λ_=>rfl,rfl,fQ.mk nofun nofun,We _⟩ ?_ ?_
 ·refine aJ.row (R:=_) (K:=[]) (rows:=[[.str nm,.Xm 0,.sl lb 0 2,.nils]]) (rows':=[[.str nm,.Xm 0,.sl lb 0 2,am none 0]]) (.refl _) Xj (λj r r' q1 q2=>?_)
  match j with
   |0=>cases q1;cases q2;exact .cons (.refl _) (.cons (.refl _) (.cons (.refl _) (.cons .nile .nil)))
   |j+1=>simp at q1
 rintro j ⟨oB,ps⟩ hjn ⟨hoB,hl,hg,hw⟩;dsimp only at hoB hl hg hw ⊢;unfold iD;generalize hnx:(λ(vs':List AV) (L':SH)=>_)=nx;subst hl;rcases Nat.lt_or_ge (ps.length+1) n with g|g
 ·have hd1:=bF g;have hi1:=aE g Xh;unfold de ml
  repeat' (first|refine st ?_|refine eP (l:=qq) ?_ mm rfl (by simp[qq];omega)|refine dC ?_ Xh|refine cz rp rp Xk (λe=>by first|simp[hoB e]) Xj Xk (by simp;omega) (by simp;omega) Xj (λnb_ hnb_=>?_)|refine sb λnb_ hnb_=>?_|refine s2 (λh=>?_) λh=>?_|fail)
  subst hnx;have hnl:=Ls (ps.length+1);generalize qq.getD (ps.length+1) []=w at hnl ⊢;refine⟨ps.length+1,(some nb_,ps++[(Fq 12 w,lC 12 w)]),Xh,Xh,⟨nofun,Xk,hg.raw 12 w,?_⟩,aJ.pickE (R:=(bh,_)::(lb,_)::(bm,_)::(bt,_)::(b0,_)::(bp,_)::(nmb,_)::(nb_,⟨11,ps.map Prod.fst++[Fq 12 w]⟩)::(ae oT 4 (ts.map ah.enc)++ae o 1 (ar.map au))) (.one (.there _ (.there _ (.here _))) (.one (.there _ (.there _ (.here _))) (.one (.there _ (.there _ (.here _))) (.one (.there _ (.there _ (.here _))) (.one (.there _ (.there _ (.here _))) (.one (.there _ (.there _ (.here _))) (.one (.there _ (.there _ (.here _))) (.one (.here _) (.slot (.there _ (.here _)) (.slotl (.there _ .last))))))))))) rfl ?_⟩
  ·rw[VF,ja];simp only[VD,Wm,lC,wz,V7];omega
  ·dsimp only;rw[List.map_append];rfl
 ·have hd1:=bI g;clear hnx;unfold de ml at *
  repeat' (first|(with_reducible refine Q6 ?_)|refine st ?_|refine sb λnb_ hnb_=>?_|refine s2 (λh=>?_) λh=>?_|fail)
  exact hj oB ps hoB Xh hg Xh
theorem mu{b c:Nat}{L:SH}{y:Blk}(h:¬b∈SH.names L)(hm:(c,y)∈L):b≠c:=λe=>h (by subst e;exact Wd.2 ⟨_,hm,rfl⟩)
theorem Jh{o:Option Nat}{b n:Nat}{rows:List (List AV)}(h:o=some b):(b,(⟨n,rows⟩:Blk))∈ae o n rows:=by subst h;exact .head _
theorem Mv{Q:R}{n23:Kn}{bm bt b0 bp nmb a n i:Nat}{t:List UInt8}{th le:Int}{se tx at_ lo:Bool}{o oT:Option Nat}{ar:List aZ}{ts:List ah}
  (ht:t.length<2^40) (ha:a≤t.length) (ho:o=none→ar=[]) (hoT:oT=none→ts=[]) (hts:ts.length=i) (hi:i<n) (hn4:n≤4)
  (hn:∀(x:ah) (a':Nat) (th' le':Int) (se' tx' at' lo':Bool) (o':Option Nat) (ar':List aZ) (nbT:Nat) (L':SH),(ah.wt x≤40000∧x.name=qq.getD i []∧x.locals=[[97],[98]])→a'≤t.length→(o'=none→ar'=[])→aJ [.ptr b0 0 0,.ptr bm 0 0,.ptr bp 0 0,.Xm n,.sl nmb 0 4,.Xm (IntKind.i64.wrap ((i:Int)+1))] L' [.ptr b0 0 0,.ptr bm 0 0,.ptr bp 0 0,.Xm n,.sl nmb 0 4,.Xm (IntKind.i64.wrap ((i:Int)+1))] (PH bm bt b0 bp nmb t a' th' le' se' tx' at' lo' o' ar' (some nbT) (ts.length+1) (ts++[x]))→aJ [.ptr b0 0 0,.ptr bm 0 0,.ptr bp 0 0,.Xm n,.sl nmb 0 4,.Xm (IntKind.i64.wrap ((i:Int)+1))] L' [.ptr b0 0 0,.ptr bm 0 0,.ptr bp 0 0,.Xm n,.sl nmb 0 4,.Xm (IntKind.i64.wrap ((i:Int)+1))] (PZ b0 bp (ts++[x]))→n23 [.ptr b0 0 0,.ptr bm 0 0,.ptr bp 0 0,.Xm n,.sl nmb 0 4,.Xm (IntKind.i64.wrap ((i:Int)+1))] L') :
  fB Q [.ptr b0 0 0,.ptr bm 0 0,.ptr bp 0 0,.Xm n,.sl nmb 0 4,.Xm (i:Int)] (PH bm bt b0 bp nmb t a th le se tx at_ lo o ar oT ts.length ts) n23:=by
 have hd1:=bF hi;unfold fB PH de ml;rcases i with _|i
 ·repeat' (first|refine st ?_|refine eP (l:=qq) ?_ mm rfl (by simp[qq])|refine dC ?_ Xh|refine sb λnb_ hnb_=>?_|refine s2 (λh=>?_) λh=>?_|fail)
  have f1:nb_≠bm:=mu hnb_ (.tail _ (.head _));have f2:nb_≠bt:=mu hnb_ (.tail _ (.tail _ (.head _)));have f3:∀b,o=some b→nb_≠b:=λb e=>mu hnb_ (.tail _ (.tail _ (.tail _ (.tail _ (.tail _ (.tail _ (V1 _ (Jh e))))))))
  exact S5 hn4 Xh λoB ps hoB hps hg hw=>Q7 (S2 ht ha ho hoT hoB Xh hps f1 f2 f3 hg Xl hw hn)
 ·have hz:decide (((i+1:Nat):Int)=0)=false:=by simp;omega
  repeat' (first|(with_reducible refine Q6 ?_)|refine st ?_|refine eP (l:=qq) ?_ mm rfl (by simp[qq];omega)|refine dC ?_ Xh|refine sb λnb_ hnb_=>?_|refine s2 (λh=>?_) λh=>?_|fail)
  have f1:nb_≠bm:=mu hnb_ (.tail _ (.head _));have f2:nb_≠bt:=mu hnb_ (.tail _ (.tail _ (.head _)));have f3:∀b,o=some b→nb_≠b:=λb e=>mu hnb_ (.tail _ (.tail _ (.tail _ (.tail _ (.tail _ (.tail _ (V1 _ (Jh e))))))))
  exact Q7 (S4 ht ha ho hoT Xh f1 f2 f3 (Ls (i+1)) hz hn)
theorem Vx{r:Nat}(h:r<100):IntKind.i64.wrap (2+(r:Int))=((2+r:Nat):Int):=by rw[Wr _ Xh];omega
inductive Mw (K:SH):SH→SH→Prop where
 |nil:Mw K [] []
 |same (p:Nat×Blk) {R R2:SH}:Mw K R R2→Mw K (p::R) (p::R2)
 |box {b n:Nat} {r r':List AV} {R R2:SH}:ji K r r'→Mw K R R2→Mw K ((b,⟨n,[r]⟩)::R) ((b,⟨n,[r']⟩)::R2)
theorem aJ.blks{vs vs2:List AV}{L K R R2:SH}(hL:L.Perm (K++R))(h:Mw K R R2)(hv:vs=vs2):aJ vs L vs2 R2:=by
 subst hv;refine⟨K,R,hL,⟨rfl,λi a a2 h1 h2=>by rw[h1]at h2;cases h2;exact .refl _⟩,?_,?_⟩
 ·clear hL
  induction h with
  |nil=>rfl
  |same p h ih=>simp[ih]
  |box h1 h ih=>simp[ih]
 ·clear hL
  induction h with
  |nil=>intro i p q h1;simp at h1
  |same p h ih=>
   intro i x y h1 h2
   match i with
   |0=>cases h1;cases h2;exact⟨rfl,rfl,rfl,λj r r2 h3 h4=>by rw[h3]at h4;cases h4;exact⟨rfl,λk a a2 h5 h6=>by rw[h5]at h6;cases h6;exact .refl _⟩⟩
   |i+1=>exact ih i x y (by simpa using h1) (by simpa using h2)
  |box hr h ih=>
   intro i x y h1 h2
   match i with
   |0=>cases h1;cases h2;exact⟨rfl,rfl,rfl,λj r r2 h3 h4=>(cN hr j r r2 h3 h4).at_⟩
   |i+1=>exact ih i x y (by simpa using h1) (by simpa using h2)
theorem Mx{L R K:SH}(h:Dd L R K)(hK:K=[]:=by rfl):L.Perm ([]++R):=by subst hK;exact h.perm
end
section
set_option maxRecDepth 100000
set_option maxHeartbeats 4000000
theorem OX(t:List UInt8)(ht:t.length<2^40):af Tryz.prog 20 [.lst (t.map fx)] [] λv K=>∃p:bP,v=.agg p.enc∧K=[]∧p.wt≤200000∧p.decls=bA:=by
 refine af.fz (Cs _ _ _ ?_);unfold ql;generalize hQ:(λ(v:AV) (L:SH)=>∃v2 L2,aJ [v] L [v2] L2∧∃p:bP,v2=.agg p.enc∧L2=[]∧p.wt≤200000∧p.decls=bA)=Q;have hq:∀(p:bP) (v:AV) (L:SH),Fz L v (.agg p.enc)→p.wt≤200000→p.decls=bA→Q v L:=λp v L h1 h2 h3=>by subst hQ;exact⟨_,_,aJ.all h1,p,rfl,rfl,h2,h3⟩
 clear hQ
 repeat' (first|refine mK (sZ (c:=((2+_:Nat):Int)) ?_ (Vx Xh))|refine st ?_|(refine pf 33 ?_;refine pm (yz) ?_)|((with_reducible refine aX 34 ?_);(refine fI (t:=t) (a:=0) ht (We _) rp (λr_ a_ hr_ ha_=>?_)))|refine sb λnb_ hnb_=>?_|refine s2 (λh=>?_) λh=>?_|fail)
 rename_i b0 hb0 bt hbt bm hbm bp hbp;refine cg (β:=Nat×Int×Int×Bool×Bool×Bool×Bool×Option Nat×List aZ×Option Nat×List ah) (2+r_) (λi ⟨a,th,le,se,tx,at_,lo,o,ar,oT,ts⟩=>([.ptr b0 0 0,.ptr bm 0 0,.ptr bp 0 0,.Xm ((2+r_:Nat):Int),.sl nb_ 0 4,.Xm (i:Int)],if i=2+r_ then PZ b0 bp ts else PH bm bt b0 bp nb_ t a th le se tx at_ lo o ar oT ts.length ts))
  (λi ⟨a,th,le,se,tx,at_,lo,o,ar,oT,ts⟩=>a≤t.length∧(o=none→ar=[])∧(oT=none→ts=[])∧ts.length=i∧(∀x∈ts,ah.wt x≤40000)) (a_,0,20,false,false,false,false,none,[],none,[]) ⟨ha_,λ_=>rfl,λ_=>rfl,rfl,nofun⟩ ?_ ?_
 ·show aJ _ _ _ (if 0=2+r_ then PZ b0 bp []else _);rw[if_neg Xh];exact aJ.blks (K:=[]) (R:=(bm,⟨8,[[.ptr bt 0 0,.Xm 0,.Xm 20,.bool false,.bool false,.bool false,.bool false,.nils]]⟩)::(bt,aN t a_)::(b0,⟨2,[[.nils,.nils]]⟩)::(bp,⟨2,[[.lst (bA.map aI.enc),.nils]]⟩)::(nb_,⟨1,qq.map au⟩)::[]) (Mx (.one (.there _ (.there _ (.there _ (.here _)))) (.one (.there _ (.here _)) (.one (.there _ (.there _ (.here _))) (.one (.there _ (.here _)) (.one (.here _) (.nil _))))))) (.box (.cons (.refl _) (.cons (.refl _) (.cons (.refl _) (.cons (.refl _) (.cons (.refl _) (.cons (.refl _) (.cons (.refl _) (.cons .nile .nil)))))))) (.same _ (.same _ (.box (.cons (.refl _) (.cons .nile .nil)) (.same _ .nil))))) rfl
 ·rintro i ⟨a,th,le,se,tx,at_,lo,o,ar,oT,ts⟩ hi ⟨ha,ho,hoT,hts,hw⟩;dsimp only at ha ho hoT hts hw ⊢;rcases Nat.lt_or_eq_of_le hi with g|g
  ·rw[if_neg Xh];refine Mv ht ha ho hoT hts g Xh ?_;intro x a' th' le' se' tx' at' lo' o' ar' nbT L' ⟨q1,_,_⟩ q2 q3 q4 q5;have e:IntKind.i64.wrap ((i:Int)+1)=((i+1:Nat):Int):=aE g Xh;rw[e]at q4 q5 ⊢;refine⟨i+1,(a',th',le',se',tx',at',lo',o',ar',some nbT,ts++[x]),Xh,Xh,⟨q2,q3,nofun,by simp[hts],?_⟩,?_⟩
   ·intro y hy;rcases VP.1 hy with hy|hy
    ·exact hw y hy
    ·rw[VI.1 hy];exact q1
   ·dsimp only;by_cases z:i+1=2+r_
    ·rw[if_pos z];exact q5
    ·rw[if_neg z,VL];exact q4
  ·rw[if_pos g];subst g;have hd1:decide (((2+r_:Nat):Int)<((2+r_:Nat):Int))=false:=by simp
   have hpw:bP.wt ⟨bA,ts⟩≤200000:=by
    have h1:(ts.map ah.wt).sum≤ts.length*40000:=by
     clear hts hi hoT
     induction ts with
     |nil=>simp
     |cons y l ih=>
      have:=hw y (.head _);have:=ih λz hz=>hw z (.tail _ hz)
      simp only[VD,Wz,VZ];omega
    have h2:(bA.map aI.wt).sum=19:=by decide
    show(bA.map aI.wt).sum+(ts.map ah.wt).sum≤200000;rw[h2];omega
   have hc1:=F4 ⟨bA,ts⟩ Xh;unfold fB PZ
   repeat' (first|refine st ?_|(refine pf 28 ?_;refine pm (hc1) ?_)|(refine pf 33 ?_;refine pm (yz) ?_)|(refine pf 37 ?_;refine pm (He _) ?_)|(refine pf 36 ?_;refine pm (cD _ _) ?_)|refine sb λnb_ hnb_=>?_|refine s2 (λh=>?_) λh=>?_|fail)
   ·exact hq ⟨bA,[⟨[109,97,105,110],0,[[97],[98]],[cB [120] (Hd 1)]⟩]⟩ _ _ (Fz.aggs (.cons (.refl _) (.cons (eX (ts:=[]) (b:=nb_) mm Xj Xj (.cons (.refl _) (.cons (.refl _) (.cons (Fz.sls (l:=[[97],[98]]) (f:=au) (size:=1) mm Xj Xl Xj) (.cons (Fz.sls (l:=[cB [120] (Hd 1)]) (f:=ab.enc) (size:=11) mm (by simp[ab.enc_row]) Xl Xj) .nil))))) .nil))) Xl rfl
   ·exact hq ⟨bA,ts⟩ _ _ (.refl _) hpw rfl
end
section
set_option maxRecDepth 100000
set_option maxHeartbeats 4000000
section
variable {w:aH} {loc:List aZ}
theorem Kq(l:List ab)(hll:l.length<2^40)(h:∀i (hi:i<l.length),ms 61 [.agg l[i].row] w loc (3*l[i].wt)):ms 30 [.lst (l.map ab.enc)] w loc (3*ab.wts l):=by
 intro bg o out site next h0 hl
 refine af.fz (vM _ _ _ _ ?_);unfold kL;generalize hQ:(λ(v:AV) (L:SH)=>∃v2 L2,aJ [v] L [v2] L2∧∃(o':Option Nat) (out':List bj) (site' next':Int),_)=Q;have fin:=AP hQ;clear hQ;refine cg l.length (λi (q:Option Nat×Int×Int×List bj)=>([.ptr bg 0 0,.lst (l.map ab.enc),.Xm i],(bg,gt w loc (am q.1 q.2.2.2.length) q.2.1 q.2.2.1)::ae q.1 6 (q.2.2.2.map bj.enc)))
  (λi q=>(q.1=none→q.2.2.2=[])∧out.length≤q.2.2.2.length∧q.2.2.2.length≤out.length+3*ab.wts (l.take i)) (o,site,next,out) ⟨h0,VC _,Wb _ _⟩ (.refl _ _) ?_
 rintro i ⟨o1,s1,n1,out1⟩ hi ⟨q1,q2,q3⟩;dsimp only at q1 q2 q3 ⊢;unfold jZ;generalize hnx:(λ(vs':List AV) (L':SH)=>∃j o',i<j∧j≤l.length∧_)=nx;rcases Nat.lt_or_ge i l.length with g1|g1
 ·have hd:=bF g1;have hi1:=aE g1 Xh;have hx:=FK g1;have hwi:=ab.wts_succ g1;have hwt:=ab.wts_take l (i+1);have hK:=h i g1;have hn:∀(o':Option Nat) (out':List bj) (s' n':Int),(o'=none→out'=[])→out1.length≤out'.length→out'.length≤out1.length+3*l[i].wt→nx [.ptr bg 0 0,.lst (l.map ab.enc),.Xm ((i+1:Nat):Int)] ((bg,gt w loc (am o' out'.length) s' n')::([]++ae o' 6 (out'.map bj.enc))):=by intro o' out' s' n' h1 h2 h3;subst hnx;exact⟨i+1,(o',s',n',out'),Xh,Xh,⟨h1,by dsimp only;omega,by dsimp only;omega⟩,.refl _ _⟩
  clear hnx h;generalize l[i]=x at *
  repeat' (first|refine st ?_|((with_reducible refine aX 61 ?_);(refine cW hK rp rp om an om (λo_ out_ s_ n_ ho_ hl_ hm_=>?_)))|refine sb λnb_ hnb_=>?_|refine s2 (λh=>?_) λh=>?_|fail)
  exact hn _ _ _ _ ho_ hl_ hm_
 ·have hd:=bI g1;have e:i=l.length:=by omega
  subst e;rw[List.take_length]at q3
  repeat' (first|refine st ?_|refine sb λnb_ hnb_=>?_|refine s2 (λh=>?_) λh=>?_|fail)
  exact fin _ _ _ _ _ _ (.one (.here _) (.slotl .last)) om an om om
theorem Qo(hw:WQ w)(hlo:loc.length<2^40):∀(n:Nat) (l:List ab),ab.wts l≤n→n<2^27→ms 30 [.lst (l.map ab.enc)] w loc (3*ab.wts l):=by
 intro n
 induction n using Nat.strongRecOn with
 |_ n ih=>
 intro l hl hn;refine Kq l (by have:=ab.wts_len l;omega) λi hi=>?_
 have h1:=ab.wts_get l i hi;have h2:=(l[i]).wt_eq;exact(SN hw hlo l[i] Xh (ih _ Xh l[i].body (VC _) Xh) (ih _ Xh l[i].els (VC _) Xh)).mono Xh
end
theorem af.fzL{P:Program}{f:FuncId}{args args2:List AV}{L L2:SH}{Q:AV→SH→Prop}(hz:aJ args L args2 L2)(h:af P f args2 L2 Q):af P f args L Q:=⟨h.1,λH hb hs=>by
 obtain⟨H2,f1,f2,f3,f4⟩:=lO hz hs hb;obtain⟨v,H',L',h1,h2,h3⟩:=h.2 H2 f1.bd f1.sub;refine⟨v,H',L',λw σ vs hW hvs=>?_,f1.trans (h2.low (by rw[f2];exact VC _)) (VC _),h3⟩;obtain⟨g1,g2,g3⟩:=f3 w σ hW;refine(h1 w σ vs g1 (g3 vs hvs)).mono ?_;rintro e w' ⟨v',σ',rfl,k1,k2,e1,k4⟩;exact⟨v',σ',rfl,k1,k2,⟨e1.os,e1.tape,e1.output,e1.size,λc hc hT=>e1.keep c hc (λh=>hT (g2 c h)),e1.shape,e1.sig,e1.eqfr,e1.frame,λc hc=>(e1.own c hc).imp (g2 c) id⟩,λc pl hc=>by rw[←f2];exact k4 c pl hc⟩⟩
section
variable {n81:Kn} {x1 x2 x3 x4 x5 x6:AV} {bt bg k:Nat} {v:AV} {R:SH}
theorem Qp(l:List Int)(hl:l.length<2^30)(hk1:IntKind.i64.wrap ((k:Int)+1)=((k+1:Nat):Int))
  (hn:∀a:Int,n81 [x1,x2,x3,x4,x5,x6,.ptr bt 0 0,.Xm ((k+1:Nat):Int)] ((bt,⟨2,[[.Xm a,v]]⟩)::R)) (a:Int) :
  W.loop (gW n81) [x1,x2,x3,x4,x5,x6,.ptr bt 0 0,.Xm k,.lst (l.map aj),.Xm 0] ((bt,⟨2,[[.Xm a,v]]⟩)::R):=by
 refine cg (β:=Int) l.length (λj a=>([x1,x2,x3,x4,x5,x6,.ptr bt 0 0,.Xm k,.lst (l.map aj),.Xm j],(bt,⟨2,[[.Xm a,v]]⟩)::R)) (λ_ _=>True) a trivial (.refl _ _) λj a hj _=>?_
 dsimp only;unfold gW;generalize hnx:(λ(vs':List AV) (L':SH)=>∃i o',j<i∧i≤l.length∧_)=nx;rcases Nat.lt_or_ge j l.length with g|g
 ·have hd:=bF g;have hi1:=aE g Xh;have hx:=aw (f:=aj) g;have hgo:∀a:Int,nx [x1,x2,x3,x4,x5,x6,.ptr bt 0 0,.Xm k,.lst (l.map aj),.Xm ((j+1:Nat):Int)] ((bt,⟨2,[[.Xm a,v]]⟩)::R):=λa=>by subst hnx;exact⟨j+1,a,Xh,Xh,trivial,.refl _ _⟩
  clear hnx
  repeat' (first|refine st ?_|refine Kb ?_|refine sb λnb_ hnb_=>?_|refine s2 (λh=>?_) λh=>?_|fail)
  exact hgo _
 ·have hd:=bI g
  repeat' (first|refine st ?_|refine sb λnb_ hnb_=>?_|refine s2 (λh=>?_) λh=>?_|fail)
  exact hn _
theorem Qq{n23:Kn}{w:aH}{loc:List aZ}{b:Nat}{site next:Int}{M L0:SH}(out:List bj)(a:Int)(hl:out.length<2^30)
  (hn:∀a:Int,gX n23 ((bt,⟨2,[[.Xm a,v]]⟩)::(bg,gt w loc (am (some b) out.length) site next)::(b,⟨6,out.map bj.enc⟩)::M) x3 (.ptr bt 0 0) x5 x1 x2 x4) :
  gN L0 ((bt,⟨2,[[.Xm a,v]]⟩)::(bg,gt w loc (am (some b) out.length) site next)::(b,⟨6,out.map bj.enc⟩)::M)→W.loop (gY n23) [x1,x2,x3,x4,x5,.ptr bg 0 0,.ptr bt 0 0,.Xm 0] L0:=by
 intro hp;refine cg (β:=Int) out.length (λj a=>([x1,x2,x3,x4,x5,.ptr bg 0 0,.ptr bt 0 0,.Xm j],(bt,⟨2,[[.Xm a,v]]⟩)::(bg,gt w loc (am (some b) out.length) site next)::(b,⟨6,out.map bj.enc⟩)::M)) (λ_ _=>True) a trivial (aJ.pick hp rfl) ?_;intro j a hj0 _;dsimp only;unfold gY;generalize hnx:(λ(vs':List AV) (L':SH)=>∃k o',j<k∧k≤out.length∧_)=nx;rcases Nat.lt_or_ge j out.length with h|h
 ·have hd:=bF h;have hi:=aE h Xh;have hj:=aw (f:=bj.enc) h;have hlen:(bT out[j]).length<2^30:=by
   generalize out[j]=i;unfold bT
   repeat' split
   all_goals simp
  have hrun:=Qp (n81:=nx) (x1:=x1) (x2:=x2) (x3:=x3) (x4:=x4) (x5:=x5) (x6:=.ptr bg 0 0) (bt:=bt) (v:=v) (R:=(bg,gt w loc (am (some b) out.length) site next)::(b,⟨6,out.map bj.enc⟩)::M) (bT out[j]) hlen hi (λa=>by
   subst hnx;exact⟨j+1,a,Xh,Xh,trivial,.refl _ _⟩) a
  clear hnx
  repeat' (first|exact hrun|refine st ?_|(refine pf 32 ?_;refine pm (Qn out[j]) ?_)|refine sb λnb_ hnb_=>?_|refine s2 (λh=>?_) λh=>?_|fail)
 ·have hd:=bI h;clear hnx
  repeat' (first|exact hn _|refine st ?_|refine sb λnb_ hnb_=>?_|refine s2 (λh=>?_) λh=>?_|fail)
end
def U4(b19:Nat)(w:aH)(v:AV):Nat×Blk:=(b19,⟨7,[[.lst (w.cells.map aY.enc),.lst (w.locks.map ca.enc),.lst (w.conds.map cP.enc),.lst (w.futures.map au),.lst (w.threads.map au),.lst (w.sites.map cM.enc),v]]⟩)
def Q8(b2 b19:Nat)(w:aH)(oT:Option Nat)(ts:List iH):SH:=U4 b19 w (am oT ts.length)::(b2,⟨7,[[.nils,.nils,.nils,.nils,.nils,.nils,.nils]]⟩)::ae oT 2 (ts.map iH.enc)
section
variable {n23:Kn} {b2 b19 i:Nat} {n:Int} {w:aH} {oT:Option Nat} {ts:List iH} {dl:List (List AV)} {th:List ah} {kb:Nat}
theorem Qr(hi:i<th.length)(hi1:IntKind.i64.wrap ((i:Int)+1)=((i+1:Nat):Int))(hT:oT=none→ts=[])(hts:ts.length<2^20)(hK:ms 30 [.lst (th[i].body.map ab.enc)] w th[i].locals kb)(hkb:kb<2^28)
  (hn:∀(nb:Nat) (L':SH) (n2:Int) (tc:iH),tc.ins.length<2^30→aJ [.pptr [[.lst dl,.lst (th.map ah.enc)]] 0 0,.ptr b2 0 0,.ptr b19 0 0,.Xm n2,.Xm ((i+1:Nat):Int)] L' [.pptr [[.lst dl,.lst (th.map ah.enc)]] 0 0,.ptr b2 0 0,.ptr b19 0 0,.Xm n2,.Xm ((i+1:Nat):Int)] (Q8 b2 b19 w (some nb) (ts++[tc]))→n23 [.pptr [[.lst dl,.lst (th.map ah.enc)]] 0 0,.ptr b2 0 0,.ptr b19 0 0,.Xm n2,.Xm ((i+1:Nat):Int)] L') :
  gZ n23 (Q8 b2 b19 w oT ts) (.ptr b19 0 0) (.pptr [[.lst dl,.lst (th.map ah.enc)]] 0 0) (.Xm i) (.Xm n) (.ptr b2 0 0):=by
 have hx:=aw (f:=ah.enc) hi;have hT0:oT=none→ts.map iH.enc=[]:=λe=>by rw[hT e];rfl
 have h00:([]:List bj).length=0:=rfl;unfold gZ Q8 U4
 repeat' (first|refine st ?_|((with_reducible refine aX 30 ?_);(refine⟨af.fzL (aJ.row (K:=[]) (rows':=(gt w th[i].locals (am none 0) 0 n).rows) (.refl _) rfl (cN (.cons (.refl _) (.cons (.refl _) (.cons (.refl _) (.cons (.refl _) (.cons (.refl _) (.cons (.refl _) (.cons (.refl _) (.cons .nile (.cons (.refl _) (.cons (.refl _) .nil)))))))))))) (cW (o:=none) (out:=[]) (m:=0) (site:=0) (next:=n) hK rp (.here _) rfl (λ_=>rfl) om (λo_ out_ s_ n_ ho_ hl_ hm_=>?_)).1⟩;dsimp only[List.nil_append,List.cons_append]))|((with_reducible refine aX 31 ?_);(refine dB (site:=-1) rp rp om an om (λb_ out_ hl_=>?_);simp only[List.cons_append,List.append_assoc,List.nil_append,List.append_nil]))|refine sb λnb_ hnb_=>?_|refine s2 (λh=>?_) λh=>?_|fail)
 refine Qq (out:=out_) (b:=b_) (w:=w) (loc:=th[i].locals) (site:=-1) (next:=n_) (M:=(b19,⟨7,[[.lst (w.cells.map aY.enc),.lst (w.locks.map ca.enc),.lst (w.conds.map cP.enc),.lst (w.futures.map au),.lst (w.threads.map au),.lst (w.sites.map cM.enc),am oT ts.length]]⟩)::(b2,⟨7,[[.nils,.nils,.nils,.nils,.nils,.nils,.nils]]⟩)::ae oT 2 (ts.map iH.enc)) th[i].locals.length Xh (λa=>?_) (.one (.here _) (.one (.here _) (gN.slot (o:=some b_) (n:=6) (.there _ (.there _ (.skip _ _ _ .last))) (.one (.here _) (.one (.here _) (.slotl rp))))));unfold gX
 repeat' (first|refine st ?_|refine cz rp rp Xk (λe=>by first|simp[hT0 e]) Xj Xk (by simp;omega) (by simp;omega) Xj (λnb_ hnb_=>?_)|refine sb λnb_ hnb_=>?_|refine s2 (λh=>?_) λh=>?_|fail)
 have e:Q8 b2 b19 w (some nb_) (ts++[iH.mk a out_])=[U4 b19 w (.sl nb_ 0 (ts.length+1)),(b2,⟨7,[[.nils,.nils,.nils,.nils,.nils,.nils,.nils]]⟩)]++(nb_,⟨2,(ts++[iH.mk a out_]).map iH.enc⟩)::[]:=by unfold Q8;rw[VL];rfl
 refine hn nb_ _ _ (.mk a out_) (by show out_.length<_;omega) ?_;rw[e];refine aJ.rowA (rows:=ts.map iH.enc++[[.Xm a,.sl b_ 0 out_.length]]) (.one (.there _ (.there _ (.there _ (.there _ (.there _ (.here _)))))) (.one (.there _ (.there _ (.there _ (.there _ (.there _ (.here _)))))) (.one (.here _) (.nil _)))) Xk (cU (f:=iH.enc) (x:=.mk a out_) (.cons (.refl _) (.cons (Fz.sls (l:=out_) (f:=bj.enc) (size:=6) mm rfl Xl rfl) .nil))) rfl
end
end
section
set_option maxRecDepth 100000
set_option maxHeartbeats 4000000
theorem UX(ts:List ah):∀(w:aH),(ts.foldl du w).cells=w.cells∧(ts.foldl du w).locks=w.locks∧(ts.foldl du w).conds=w.conds∧(ts.foldl du w).futures=w.futures∧(ts.foldl du w).threads=w.threads++ts.map ah.name:=by
 induction ts with
 |nil=>intro w;simp
 |cons t l ih=>intro w;rw[W9];obtain⟨a,b,c,d,e⟩:=ih (du w t);exact⟨a,b,c,d,by rw[e];simp[du]⟩
theorem UY{p:bP}(hd:p.decls=bA)(hl:p.threads.length≤200000):WQ (lB p):=by
 obtain⟨a,b,c,d,e⟩:=UX p.threads (p.decls.foldl bS aH.zero);unfold lB;have hw0:p.decls.foldl bS aH.zero=bA.foldl bS aH.zero:=by rw[hd]
 have z:(bA.foldl bS aH.zero).cells.length=5∧(bA.foldl bS aH.zero).locks.length=3∧(bA.foldl bS aH.zero).conds.length=1∧(bA.foldl bS aH.zero).futures.length=1∧(bA.foldl bS aH.zero).threads.length=0∧xi (bA.foldl bS aH.zero).cells [113]=3:=by decide
 rw[hw0]at a b c d e ⊢;obtain⟨z1,z2,z3,z4,z5,z6⟩:=z;refine⟨by rw[a,z1];decide,by rw[b,z2];decide,by rw[c,z3];decide,by rw[d,z4];decide,by rw[e];simp[z5];omega,3,by rw[a,z1];decide,by rw[a,z6];rfl⟩
theorem Kr:∀d∈bA,(1≤d.kind∧d.kind≤6)∧d.size≤4:=by decide
theorem bM.pure(c:bM):aW (.agg c.enc):=.aggs (ep (.lmap λx _=>by unfold aY.enc;exact pv) (ep (.lmap λx _=>by unfold ca.enc;exact pv) (ep (.lmap λx _=>by unfold cP.enc;exact pv) (ep (.lmap λx _=>ma x) (ep (.lmap λx _=>ma x) (ep (.lmap λx _=>by unfold cM.enc;exact pv) (ep (.lmap λx _=>by unfold iH.enc;exact ep (.int _ _) (ep (.lmap λx _=>by unfold bj.enc;exact pv) Ed)) Ed)))))))
theorem Ji(p:bP){e ln:Int}(hd:p.decls=bA)(hck:az Tryz.prog 28 [.agg p.enc] (.tup [.Xm e,.Xm ln]))(hw:p.wt≤200000):
  ∃(c:bM) (a b:Int),((∀x∈c.ts,x.ins.length<2^40)∧c.w.locks.length<2^40∧c.ts.length<2^40)∧az Tryz.prog 19 [.agg p.enc] (.tup [.agg c.enc,.Xm a,.Xm b]):=by
 have htl:=p.threads_len
 suffices h:af Tryz.prog 19 [.agg p.enc] [] λv K=>∃(c:bM) (a b:Int),v=.tup [.agg c.enc,.Xm a,.Xm b]∧(∀x∈c.ts,x.ins.length<2^40)∧c.w.locks.length<2^40∧c.ts.length<2^40 by obtain⟨v,K,⟨c,a,b,rfl,hc⟩,hp⟩:=h.pure pv (by rintro _ _ ⟨c,a,b,rfl,_⟩;exact .tups (ep (bM.pure c) (ep (.int _ _) (ep (.int _ _) Ed))));exact⟨c,a,b,hc,hp⟩
 refine af.fz (AO _ _ _ ?_);unfold nV bP.enc;generalize hQ:(λ(v:AV) (L:SH)=>∃v2 L2,aJ [v] L [v2] L2∧∃(c:bM) (a b:Int),_)=Q;have hq:∀(c:bM) (v:AV) (a b:Int) (L:SH),Fz L v (.agg c.enc)→(∀x∈c.ts,x.ins.length<2^40)∧c.w.locks.length<2^40∧c.ts.length<2^40→Q (.tup [v,.Xm a,.Xm b]) L:=λc v a b L h h2=>by subst hQ;exact⟨_,[],aJ.all (.tups (.cons h (.cons (.refl _) (.cons (.refl _) .nil)))),c,a,b,rfl,h2⟩
 clear hQ;by_cases he:e=0
 case neg=>
  have d0:decide (e≠0)=true:=decide_eq_true he
  repeat' (first|refine st ?_|(refine pf 28 ?_;refine pm (hck) ?_)|refine sb λnb_ hnb_=>?_|refine s2 (λh=>?_) λh=>?_|fail)
  exact hq ⟨⟨[],[],[],[],[],[]⟩,[]⟩ _ _ _ _ (Fz.aggs (.cons .nils (.cons .nils (.cons .nils (.cons .nils (.cons .nils (.cons .nils (.cons .nils .nil)))))))) ⟨λx hx=>(V9 hx).elim,Xl,Xl⟩
 subst he;have hW:=Mu p (by rw[hd];exact Kr) hck hw;have hQ2:=UY hd Xh
 repeat' (first|refine st ?_|(refine pf 28 ?_;refine pm (hck) ?_)|(refine pf 29 ?_;refine pm (hW) ?_)|refine sb λnb_ hnb_=>?_|refine s2 (λh=>?_) λh=>?_|fail)
 rename_i b0 hb0 b2 hb2;refine cg (β:=Option Nat×List iH×Int) p.threads.length (λi q=>([.pptr [[.lst (p.decls.map aI.enc),.lst (p.threads.map ah.enc)]] 0 0,.ptr b2 0 0,.ptr nb_ 0 0,.Xm q.2.2,.Xm i],Q8 b2 nb_ (lB p) q.1 q.2.1)) (λi q=>(q.1=none→q.2.1=[])∧q.2.1.length=i∧∀x∈q.2.1,x.ins.length<2^40) (none,[],0) ⟨λ_=>rfl,rfl,nofun⟩ ?_ ?_
 ·dsimp only;refine aJ.row (K:=[]) (b:=nb_) (n:=7) (rows:=[bv [.nils,.nils,.nils,.nils,.nils,.nils,.nils] 0 (lB p).enc]) (rows':=[[.lst ((lB p).cells.map aY.enc),.lst ((lB p).locks.map ca.enc),.lst ((lB p).conds.map cP.enc),.lst ((lB p).futures.map au),.lst ((lB p).threads.map au),.lst ((lB p).sites.map cM.enc),.emp]]) (.refl _) rfl ?_;refine cN ?_;show ji [] [.lst ((lB p).cells.map aY.enc),.lst ((lB p).locks.map ca.enc),.lst ((lB p).conds.map cP.enc),.lst ((lB p).futures.map au),.lst ((lB p).threads.map au),.lst ((lB p).sites.map cM.enc),.nils] _;exact .cons (.refl _) (.cons (.refl _) (.cons (.refl _) (.cons (.refl _) (.cons (.refl _) (.cons (.refl _) (.cons .nile .nil))))))
 rintro i ⟨oT,ts,nx⟩ hi ⟨hG,hts,hin⟩;dsimp only at hG hts hin ⊢;unfold mq;generalize hnx:(λ(vs':List AV) (L':SH)=>∃j o',i<j∧j≤p.threads.length∧_)=nxt;rcases Nat.lt_or_ge i p.threads.length with g1|g1
 ·have hd1:=bF g1;have hi1:=aE g1 Xh;have hwt:=p.thread_wt g1;have hwe:(p.threads[i]).wt=1+(p.threads[i]).name.length+(p.threads[i]).locals.length+((p.threads[i]).locals.map List.length).sum+ab.wts (p.threads[i]).body:=rfl;have hK:=Qo (loc:=p.threads[i].locals) hQ2 Xh _ p.threads[i].body (VC _) Xh;have hr:=Qr (n23:=nxt) (b2:=b2) (b19:=nb_) (n:=nx) (dl:=p.decls.map aI.enc) (oT:=oT) (ts:=ts) g1 hi1 hG Xh hK Xh (λnb L' n2 tc h1 hz=>by
   subst hnx;refine⟨i+1,(some nb,ts++[tc],n2),Xh,Xh,⟨nofun,by simp[hts],λx hx=>?_⟩,hz⟩;rcases VP.1 hx with hx|hx
   ·exact hin x hx
   ·rw[VI.1 hx];omega)
  clear hnx;generalize hL:Q8 b2 nb_ (lB p) oT ts=LW at *
  repeat' (first|exact hr|refine st ?_|refine sb λnb_ hnb_=>?_|refine s2 (λh=>?_) λh=>?_|fail)
 ·have hd1:=bI g1;unfold Q8 U4
  repeat' (first|refine st ?_|refine sb λnb_ hnb_=>?_|refine s2 (λh=>?_) λh=>?_|fail)
  refine aq (.there _ (.here _)) rfl rfl (by simp[AR];exact⟨rfl,rfl,rfl,rfl,rfl,rfl⟩) rfl ?_
  repeat' (first|refine st ?_|refine sb λnb_ hnb_=>?_|refine s2 (λh=>?_) λh=>?_|fail)
  exact hq ⟨lB p,ts⟩ _ _ _ _ (Fz.aggs (.cons (.refl _) (.cons (.refl _) (.cons (.refl _) (.cons (.refl _) (.cons (.refl _) (.cons (.refl _) (.cons (ES hG Xl λq h=>.tail _ (.tail _ h)) .nil)))))))) ⟨hin,hQ2.l,by show ts.length<_;omega⟩
theorem Ks(s:UInt8):∀a∈fx s,aW a:=λa h=>by rw[VI.1 h];exact .int _ _
theorem My(t:List UInt8)(ht:t.length<2^40):∃c:bM,az Tryz.prog 7 [.lst (t.map fx)] (.agg c.enc)∧(∀x∈c.ts,x.ins.length<2^40)∧c.w.locks.length<2^40∧c.ts.length<2^40:=by
 obtain⟨v,K,⟨p,rfl,rfl,hw,hd⟩,hprog⟩:=(OX t ht).pure (ep (.lmap λx _=>Ks x) Ed) (λu K ⟨p,h1,_⟩=>by rw[h1];exact p.pure);obtain⟨c,a,b,hc,hP⟩:=Ji p hd (F4 p Xh) hw;refine⟨c,?_,hc⟩;refine af.fz (Hb _ _ _ ?_);unfold Bc;generalize hQ:(λ(v:AV) (L:SH)=>∃v2 L2,aJ [v] L [v2] L2∧v2=AV.agg c.enc∧L2=[])=Q;have hq:∀L,Q (.agg c.enc) L:=λL=>by subst hQ;exact⟨_,[],aJ.all (.refl _),rfl,rfl⟩
 clear hQ
 repeat' (first|refine st ?_|(refine pf 20 ?_;refine pm (hprog) ?_)|(refine pf 19 ?_;refine pm (hP) ?_)|refine sb λnb_ hnb_=>?_|refine s2 (λh=>?_) λh=>?_|fail)
 exact hq _
end
theorem Qs(t s:List UInt8):az Tryz.prog 3 [.lst (t.map fx),.lst (s.map fx)] (.bool true):=Qe t s λh=>(My t h).imp λc h=>⟨h.1,h.2.1,h.2.2.1⟩
section
open Go.ChangeShapes Go.WideShapes Go.ChangeAt Go.RowKit
def Mz:bb:=⟨λ_=>none,λ_=>False⟩
def MA:Nat→Prop:=λ_=>False
def U5{α:Type}(e:α→List AV)(G:α→Prop):Rel α:=λw _ x cs=>G x∧eu w Mz MA (e x) cs
theorem Jj{w:World}{σ:bb}{T:Nat→Prop}{a:AV}{v:Value}(h:aS w σ T a v):eu w σ T [a] [v]:=⟨rfl,λi x u h1 h2=>by
 match i with
 |0=>cases h1;cases h2;exact h
 |i+1=>simp at h1⟩
theorem F9{w:World}{σ:bb}{T:Nat→Prop}{a:AV}{v:Value}{l:List AV}{m:List Value}(h:eu w σ T [a] [v])(hl:eu w σ T l m):eu w σ T (a::l) (v::m):=⟨by simp[hl.1],λi x u h1 h2=>by
 match i with
 |0=>exact h.2 0 x u h1 h2
 |i+1=>exact hl.2 i x u (by simpa using h1) (by simpa using h2)⟩
theorem OY{w:World}{σ:bb}{T:Nat→Prop}:eu w σ T [] []:=⟨rfl,λi x u h1 h2=>by simp at h1⟩
section
variable {H:Type} {enc:TypeId×Value→H} {P:Program} {w:World} {base:Nat} {spare:Nat→Bool} {held:Bool}
theorem S6{t:TypeId}{k:IntKind}(ht:P.underlying t=some (.int k)):Opens H enc P w base spare held t (U5 (λn:Int=>[.int k n]) λn=>(Lit.int k n).wf=true):=λfuel cs x h=>by obtain⟨n,rfl,hn⟩:=opens_int ht fuel cs x h;exact⟨n,hn,Jj (.int k n)⟩
theorem OZ{α:Type}{t e:TypeId}{size:Nat}{f:α→List AV}{G:α→Prop}(ht:P.underlying t=some (.slice e))(hc:P.cellsOf e=size)(hs:0<size)(he:Opens H enc P w base spare held e (U5 f G)):
  Opens H enc P w base spare held t (U5 (λl:List α=>[.lst (l.map f)]) λl=>l.length≤maxLen∧∀x∈l,G x):=λfuel cs x h=>by
 obtain⟨l,A,c,rfl,h1,h2,h3⟩:=opens_slice ht hc hs he fuel cs x h;refine⟨l,⟨Xh,λx hx=>?_⟩,Jj ?_⟩
 ·obtain⟨i,hi,rfl⟩:=WE hx;obtain⟨b,o,_,_,hall⟩:=h3 Xh;obtain⟨cs',_,hR,_⟩:=hall i l[i] (VB hi);exact hR.1
 ·rcases Wv l.length with h0|h0
  ·have:l=[]:=WF.1 h0;subst this;exact .lst0 A c h2
  ·obtain⟨b,o,rfl,hb,hall⟩:=h3 h0;have:=aS.lst (w:=w) (σ:=Mz) (T:=MA) (l.map f) b o size c ⟨λh=>h,λi r hr=>?_,λi j hi hj=>?_,hs,by simpa using h0⟩ (by simpa using h1) h2 (λi r j a u hr ha hu=>?_)
   ·simpa using this
   ·rw[VQ]at hr;cases hx:l[i]? with
    |none=>rw[hx]at hr;cases hr
    |some y=>rw[hx]at hr;cases hr;obtain⟨cs',k1,k2,_⟩:=hall i y hx;rw[k2.2.1,k1]
   ·have hi':i<l.length:=by simpa using hi
    obtain⟨cs',k1,k2,k3⟩:=hall i l[i] (VB hi');exact⟨cs'[j],k3 j _ (VB Xh)⟩
   ·rw[VQ]at hr;cases hx:l[i]? with
    |none=>rw[hx]at hr;cases hr
    |some y=>
     rw[hx]at hr;cases hr;obtain⟨cs',k1,k2,k3⟩:=hall i y hx;have hj:j<cs'.length:=by rw[←k2.2.1];exact ay ha
     have hu':=k3 j _ (VB hj);rw[hu]at hu';cases hu';exact k2.2.2 j a _ ha (VB hj)
end
theorem MB{P:Program}{f:FuncId}{args:List AV}{vs:List Value}(h:az P f args (.bool true))(w:World)(hv:eu w Mz MA args vs)(hG:ip w MA:=by exact λg r h=>by cases h):Calls P f vs.toArray w λe w'=>e=.returned (.bool true)∧Below w.heap.size w w':=by
 obtain⟨v,H',L',h1,h2,rfl,rfl⟩:=h.2 ac.empty (λb _=>cS b) ⟨WG,λp hp=>by simp at hp⟩;have hown:aK Mz ac.empty=MA:=by
  funext c;apply propext;constructor
  ·rintro(h|⟨b,x,pl,h4,_,_⟩)
   ·exact h
   ·rw[cS]at h4;cases h4
  ·exact λh=>h.elim
 have hW:aU w Mz ac.empty:=⟨λb pl hb=>(by cases hb),λb pl hb=>(by cases hb),λb x hb=>(by rw[cS]at hb;cases hb),λc hc=>hc.elim,λb b' x x' pl pl' hb=>(by rw[cS]at hb;cases hb),by rw[hown];exact hG⟩;refine(h1 w Mz vs hW (by rw[hown];exact hv)).mono ?_;rintro e w' ⟨v',σ',rfl,k1,k2,k3,_⟩;cases k1;rw[hown]at k3;exact⟨rfl,k3.os,k3.tape,k3.output,k3.size,λk hk=>k3.keep k hk λh=>h⟩
end
section
open Go.ChangeShapes Go.WideShapes Go.ChangeAt Go.RowKit
def U6(n:Int):List AV:=[.int .u8 n]
def Vz(l:List Int):List UInt8:=l.map λx=>UInt8.ofNat x.toNat
theorem Q9{x:Int}(h:(Lit.int .u8 x).wf=true):0≤x∧x<256:=by
 simp only[Lit.wf,VW,decide_eq_true_eq]at h;have h1:IntKind.u8.min=0:=by decide
 have h2:IntKind.u8.max=255:=by decide
 omega
theorem Lt{l:List Int}(h:∀x∈l,0≤x∧x<256):(Vz l).map fx=l.map U6:=by
 unfold Vz;rw[List.map_map];refine List.map_congr_left λx hx=>?_
 have:=h x hx;show [AV.int .u8 (((UInt8.ofNat x.toNat).toNat:Nat):Int)]=[AV.int .u8 x];rw[UInt8.toNat_ofNat_of_lt' (by show x.toNat<256;omega),Int.toNat_of_nonneg this.1]
section
variable {H:Type} {enc:TypeId×Value→H} {w:World} {base:Nat} {spare:Nat→Bool} {held:Bool}
theorem O0:Opens H enc Tryz.prog w base spare held 22 (U5 (λl:List Int=>[.lst (l.map U6)]) λl=>l.length≤maxLen∧∀x∈l,(Lit.int .u8 x).wf=true):=
 OZ (size:=1) Tryz.underlying22 (by kernel_rfl) Xl (S6 (by kernel_rfl))
end
end
section
open Go.ChangeShapes Go.WideShapes Go.ChangeAt Go.RowKit
set_option maxRecDepth 100000
theorem O1{H:Type}{enc:TypeId×Value→H}{P:Program}{w:World}{base:Nat}{spare:Nat→Bool}{held:Bool}{fuel:Nat}{t e:TypeId}{n:Nat}{cs:List Value}{ds:List (DataW H)}{q:List MemPlace}(ht:P.underlying t=some (.array n e))(hc:P.cellsOf e=1)(hn:P.cellsOf t=n)(h:DataW.trod enc P w base spare held fuel t cs=some (.agg ds,q)){i:Nat}{d:DataW H}(hd:ds[i]? =some d):
  ∃m c y,cs[i]? =some c∧DataW.trod enc P w base spare held m e [c]=some (d,y):=by
 obtain⟨xs,m,_,hx,hl,hxn,hel⟩:=DataW.trod_array ht h;simp only[Prod.mk.injEq,DataW.agg.injEq]at hx;rw[hx.1,VQ]at hd;cases hxi:xs[i]? with
 |none=>rw[hxi]at hd;cases hd
 |some x=>
  rw[hxi]at hd;cases hd;have hi:i<n:=by rw[←hxn];exact(Wk.1 hxi).1
  have hi2:i<cs.length:=by omega
  have h2:=hel i hi;rw[hc,Nat.mul_one,hxi,WW hi2,List.take_succ_cons,List.take_zero]at h2;exact⟨m,cs[i],x.2,VB hi2,h2⟩
theorem Qt{P:Program}{w:World}{fuel:Nat}{t e:TypeId}{n:Nat}{cs:Array Value}{l:List Int}{q:List MemPlace}{g:Nat}{nm:String}(hg:P.globalNamed nm=some g)(hv:w.var? P nm=some cs)(ht:P.underlying t=some (.array n e))(hc:P.cellsOf e=1)(hn:P.cellsOf t=n)(he:P.underlying e=some (.int .i64))(h:DataW.trod (λ_=>()) P w 0 (λ_=>true) false fuel t cs.toList=some (.agg (l.map λn=>.lit (.int .i64 n)),q))(j:Nat)(a:AV)(ha:(l.map λn=>AV.int .i64 n)[j]? =some a):∃u,w.cell? ⟨g,j,none⟩=some u∧Hs u=some a:=by
 rw[VQ]at ha;cases hj:l[j]? with
 |none=>rw[hj]at ha;cases ha
 |some v=>
  rw[hj]at ha;cases ha;obtain⟨m,c,y,hcj,htr⟩:=O1 ht hc hn h (i:=j) (d:=.lit (.int .i64 v)) (by rw[VQ,hj];rfl);obtain⟨k,e1,e2,_⟩:=DataW.trod_int he htr;simp only[List.cons.injEq,and_true]at e1;simp only[Prod.mk.injEq,DataW.lit.injEq,Lit.int.injEq,true_and]at e2;refine⟨c,?_,?_⟩
  ·rw[World.var?_cell hg hv j,←V0,hcj]
  ·rw[e1,←e2.1];rfl
theorem Qu{P:Program}{w:World}{fuel:Nat}{t e:TypeId}{n:Nat}{cs:Array Value}{l:List (List UInt8)}{q:List MemPlace}{g:Nat}{nm:String}(hg:P.globalNamed nm=some g)(hv:w.var? P nm=some cs)(ht:P.underlying t=some (.array n e))(hc:P.cellsOf e=1)(hn:P.cellsOf t=n)(he:P.underlying e=some .string)(h:DataW.trod (λ_=>()) P w 0 (λ_=>true) false fuel t cs.toList=some (.agg (l.map λn=>.lit (.string n)),q))(j:Nat)(a:AV)(ha:(l.map AV.str)[j]? =some a):∃u,w.cell? ⟨g,j,none⟩=some u∧Hs u=some a:=by
 rw[VQ]at ha;cases hj:l[j]? with
 |none=>rw[hj]at ha;cases ha
 |some v=>
  rw[hj]at ha;cases ha;obtain⟨m,c,y,hcj,htr⟩:=O1 ht hc hn h (i:=j) (d:=.lit (.string v)) (by rw[VQ,hj];rfl);obtain⟨k,e1,e2,_⟩:=DataW.trod_string he htr;simp only[List.cons.injEq,and_true]at e1;simp only[Prod.mk.injEq,DataW.lit.injEq,Lit.string.injEq]at e2;refine⟨c,?_,?_⟩
  ·rw[World.var?_cell hg hv j,←V0,hcj]
  ·rw[e1,e2.1];rfl
theorem UZ:(Tryz.prog.globals[1]?).map (·.type)=some 238:=by kernel_rfl
theorem S7:(Tryz.prog.globals[0]?).map (·.type)=some 149:=by kernel_rfl
theorem U0 : Tryz.prog.globalNamed "interleave/token.keywords" = some 1 := by kernel_rfl
theorem S8 : Tryz.prog.globalNamed "interleave/run.kinds" = some 0 := by kernel_rfl
theorem Qv {W : World} (h : laidMetH Tryz.prog [("interleave/token.keywords", Rows.laid_interleave_token_keywords), ("interleave/run.kinds", Rows.laid_interleave_run_kinds)] W) : ip W MA := by
 rw[MakeChecks.laidMetH_plain _ _ _ (by kernel_rfl)]at h;obtain⟨ps,⟨g0,t0,cs0,f0,p0,q0,hg0,ht0,hv0,hd0,⟨g1,t1,cs1,f1,p1,q1,hg1,ht1,hv1,hd1,_,_⟩,_⟩,_,_⟩:=h;obtain rfl:=Xb (U0.symm.trans hg0);obtain rfl:=Xb (S8.symm.trans hg1);obtain rfl:=Xb (UZ.symm.trans ht0);obtain rfl:=Xb (S7.symm.trans ht1);intro g r hg;unfold U2 at hg;split at hg
 ·rename_i e;subst e;cases hg;exact⟨λh=>h,Xl,Qt hg1 hv1 Tryz.underlying149 (by kernel_rfl) (by kernel_rfl) Tryz.underlying3 hd1⟩
 ·split at hg
  ·rename_i e;subst e;cases hg;exact⟨λh=>h,Xl,Qu hg0 hv0 Tryz.underlying238 (by kernel_rfl) (by kernel_rfl) Tryz.underlying9 hd0⟩
  ·cases hg
end
end Go.Proofs.YtdnpdghlggbklaaGreatDoor.Am
