/- A part of the proof; the statement is proved in the last part. -/
import Derived.Test.YtljkdffikfkcgaaQ2k
set_option linter.unusedSimpArgs false
set_option linter.unusedVariables false
section
namespace Go.Proofs.Ytljkdffikfkcgaa.Am
set_option maxRecDepth 100000
set_option maxHeartbeats 4000000
set_option linter.unusedVariables false
theorem DM{α:Type}{f:α→List AV}{l:List α}{n by_:Nat}{L:SH}{KL:AV→SH→Prop}(hn:∀x,(f x).length=n)(h2:2*l.length*by_≤2^48)(h3:2*l.length≤2^62)(h4:∀x,(f x).all AV.one=true)
  (h:l=[]→KL .nils L) (h':∀b,KL (.sl b 0 l.length) ((b,⟨n,l.map f⟩)::L)):W.append n by_ .nils (.lst (l.map f)) L KL:=by
 have h4':((l.map f).all fun r=>r.all AV.one)=true:=by
  rw[List.all_eq_true]
  intro r hr
  obtain⟨x,_,rfl⟩:=List.mem_map.1 hr
  exact h4 x
 refine⟨[],l.map f,rfl,ud hn,by simpa using h2,by simpa using h3,h4',fun e=>?_,fun e b hb=>?_⟩
 ·exact h (by simpa using e)
 ·have:=h' b
  simpa using this
theorem Hb{n23:Kn}{bm bt b0 bp nmb bh lb a n i:Nat}{t:List UInt8}{th le:Int}{se tx at_ lo:Bool}{o oT:Option Nat}{ar:List aL}{ts:List ai}{nm:aL}
  (ht:t.length<2^40) (ha:a≤t.length) (ho:o=none→ar=[]) (hoT:oT=none→ts=[]) (hts:ts.length≤4)
  (f1:bh≠bm) (f2:bh≠bt) (f3:∀b,o=some b→bh≠b) (hnm:nm.length≤4)
  (hz:decide ((i:Int)=0)=false) (hn:∀(x:ai) (a':Nat) (th' le':Int) (se' tx' at' lo':Bool) (o':Option Nat) (ar':List aL) (nbT:Nat) (L':SH),ai.wt x≤40000→a'≤t.length→(o'=none→ar'=[])→aV [.ptr b0 0 0,.ptr bm 0 0,.ptr bp 0 0,.int .i64 n,.sl nmb 0 4,.int .i64 (IntKind.i64.wrap ((i:Int)+1))] L' [.ptr b0 0 0,.ptr bm 0 0,.ptr bp 0 0,.int .i64 n,.sl nmb 0 4,.int .i64 (IntKind.i64.wrap ((i:Int)+1))] (PH bm bt b0 bp nmb t a' th' le' se' tx' at' lo' o' ar' (some nbT) (ts.length+1) (ts++[x]))→aV [.ptr b0 0 0,.ptr bm 0 0,.ptr bp 0 0,.int .i64 n,.sl nmb 0 4,.int .i64 (IntKind.i64.wrap ((i:Int)+1))] L' [.ptr b0 0 0,.ptr bm 0 0,.ptr bp 0 0,.int .i64 n,.sl nmb 0 4,.int .i64 (IntKind.i64.wrap ((i:Int)+1))] (PZ b0 bp (ts++[x]))→n23 [.ptr b0 0 0,.ptr bm 0 0,.ptr bp 0 0,.int .i64 n,.sl nmb 0 4,.int .i64 (IntKind.i64.wrap ((i:Int)+1))] L')
  : bJ n23 [.ptr b0 0 0,.ptr bm 0 0,.ptr bp 0 0,.int .i64 n,.sl nmb 0 4,.int .i64 (i:Int),.ptr bh 0 0] ((bh,⟨4,[[.str nm,.int .i64 0,.sl lb 0 2,AV.nils]]⟩)::(lb,⟨1,[[.str [97]],[.str [98]]]⟩)::(bm,cL bt th le se tx at_ lo o 0)::(bt,aM t a)::(b0,⟨2,[[.nils,.nils]]⟩)::(bp,⟨2,[[.lst (aP.map av.enc),au oT ts.length]]⟩)::(nmb,⟨1,l8.map az⟩)::(ao oT 4 (ts.map ai.enc)++ao o 1 (ar.map az))):=by
 unfold bJ cL iY
 repeat' (first | refine dm (b9 ?_ (E2 (by omega))) | refine st ?_ | ((with_reducible refine aq 18 ?_);(refine eg ht (by assumption) rp (fun r_ a_ hr_ ha_=>?_))) | ((with_reducible refine al 18 ?_);refine uk ht (by assumption) rp (fun r_ a_ hr_ ha_=>?_)) | ((with_reducible refine al 19 ?_);refine zD rfl (by omega) rp rp rp ht (by assumption) (by assumption) (zC f1 f2 f3) ?_;rintro l_ a_ th_ le_ se_ tx_ at_ lo_ o_ ar_ ks_ hl_ ha_ ho_;have hl9_:=aa.wts_len l_;rcases o_ with _ | ob_;all_goals dsimp only[um,uo,List.nil_append,List.cons_append]) | (refine DM (fun x=>by rw[aa.enc_row];rfl) (by omega) (by omega) (fun x=>by rw[aa.enc_row];rfl) ?_ ?_;all_goals first | (intro e_;subst e_) | intro ob2_) | refine cI rp rp (by simp) (fun e=>by first | simp[hoT e]) (by rfl) (by simp) (by simp;omega) (by simp;omega) (by rfl) (fun nb_ hnb_=>?_) | refine sb (fun nb_ hnb_=>?_) | refine s2 (fun h=>?_) (fun h=>?_) | fail)
 all_goals first
  | exact hn ⟨nm,0,[[97],[98]],l_⟩ a_ th_ le_ se_ tx_ at_ lo_ none ar_ nb_ _ (by simp only[ai.wt,aa.wts,List.map_cons,List.map_nil,List.length_cons,List.length_nil,List.sum_cons,List.sum_nil];omega) ha_ ho_ (aV.rowA (A:=[(bm,_),(bt,_),(b0,_),(bp,_),(nmb,_)]) (b:=nb_) (R:=[]) (rows':=(ts++[_]).map ai.enc) rp (by simp) (cy (f:=ai.enc) (.cons (.refl _) (.cons (.refl _) (.cons (Fz.sls (l:=[[97],[98]]) (f:=az) (size:=1) (b:=lb) mm (by rfl) (by decide) (by rfl)) (.cons (Fz.sls (l:=l_) (f:=aa.enc) (size:=11) (b:=ob2_) mm (by rfl) (by decide) (by rfl)) .nil))))) rfl) (aV.rowA (A:=[(b0,_)]) (b:=bp) (R:=[]) (rows':=[[.lst (aP.map av.enc),.lst ((ts++[_]).map ai.enc)]]) rp (by rfl) (co (.cons (.refl _) (.cons (dD (b:=nb_) mm (by rfl) (by rfl) (.cons (.refl _) (.cons (.refl _) (.cons (Fz.sls (l:=[[97],[98]]) (f:=az) (size:=1) (b:=lb) mm (by rfl) (by decide) (by rfl)) (.cons (Fz.sls (l:=l_) (f:=aa.enc) (size:=11) (b:=ob2_) mm (by rfl) (by decide) (by rfl)) .nil))))) .nil))) rfl)
  | exact hn ⟨nm,0,[[97],[98]],[]⟩ a_ th_ le_ se_ tx_ at_ lo_ none ar_ nb_ _ (by simp only[ai.wt,aa.wts,List.map_cons,List.map_nil,List.length_cons,List.length_nil,List.sum_cons,List.sum_nil];omega) ha_ ho_ (aV.rowA (A:=[(bm,_),(bt,_),(b0,_),(bp,_),(nmb,_)]) (b:=nb_) (R:=[]) (rows':=(ts++[_]).map ai.enc) rp (by simp) (cy (f:=ai.enc) (.cons (.refl _) (.cons (.refl _) (.cons (Fz.sls (l:=[[97],[98]]) (f:=az) (size:=1) (b:=lb) mm (by rfl) (by decide) (by rfl)) (.cons .nils .nil))))) rfl) (aV.rowA (A:=[(b0,_)]) (b:=bp) (R:=[]) (rows':=[[.lst (aP.map av.enc),.lst ((ts++[_]).map ai.enc)]]) rp (by rfl) (co (.cons (.refl _) (.cons (dD (b:=nb_) mm (by rfl) (by rfl) (.cons (.refl _) (.cons (.refl _) (.cons (Fz.sls (l:=[[97],[98]]) (f:=az) (size:=1) (b:=lb) mm (by rfl) (by decide) (by rfl)) (.cons .nils .nil))))) .nil))) rfl)
  | exact hn ⟨nm,0,[[97],[98]],l_⟩ a_ th_ le_ se_ tx_ at_ lo_ (some ob_) ar_ nb_ _ (by simp only[ai.wt,aa.wts,List.map_cons,List.map_nil,List.length_cons,List.length_nil,List.sum_cons,List.sum_nil];omega) ha_ ho_ (aV.rowA (A:=[(bm,_),(bt,_),(b0,_),(bp,_),(nmb,_)]) (b:=nb_) (R:=[(ob_,_)]) (rows':=(ts++[_]).map ai.enc) rp (by simp) (cy (f:=ai.enc) (.cons (.refl _) (.cons (.refl _) (.cons (Fz.sls (l:=[[97],[98]]) (f:=az) (size:=1) (b:=lb) mm (by rfl) (by decide) (by rfl)) (.cons (Fz.sls (l:=l_) (f:=aa.enc) (size:=11) (b:=ob2_) mm (by rfl) (by decide) (by rfl)) .nil))))) rfl) (aV.rowA (A:=[(b0,_)]) (b:=bp) (R:=[]) (rows':=[[.lst (aP.map av.enc),.lst ((ts++[_]).map ai.enc)]]) rp (by rfl) (co (.cons (.refl _) (.cons (dD (b:=nb_) mm (by rfl) (by rfl) (.cons (.refl _) (.cons (.refl _) (.cons (Fz.sls (l:=[[97],[98]]) (f:=az) (size:=1) (b:=lb) mm (by rfl) (by decide) (by rfl)) (.cons (Fz.sls (l:=l_) (f:=aa.enc) (size:=11) (b:=ob2_) mm (by rfl) (by decide) (by rfl)) .nil))))) .nil))) rfl)
  | exact hn ⟨nm,0,[[97],[98]],[]⟩ a_ th_ le_ se_ tx_ at_ lo_ (some ob_) ar_ nb_ _ (by simp only[ai.wt,aa.wts,List.map_cons,List.map_nil,List.length_cons,List.length_nil,List.sum_cons,List.sum_nil];omega) ha_ ho_ (aV.rowA (A:=[(bm,_),(bt,_),(b0,_),(bp,_),(nmb,_)]) (b:=nb_) (R:=[(ob_,_)]) (rows':=(ts++[_]).map ai.enc) rp (by simp) (cy (f:=ai.enc) (.cons (.refl _) (.cons (.refl _) (.cons (Fz.sls (l:=[[97],[98]]) (f:=az) (size:=1) (b:=lb) mm (by rfl) (by decide) (by rfl)) (.cons .nils .nil))))) rfl) (aV.rowA (A:=[(b0,_)]) (b:=bp) (R:=[]) (rows':=[[.lst (aP.map av.enc),.lst ((ts++[_]).map ai.enc)]]) rp (by rfl) (co (.cons (.refl _) (.cons (dD (b:=nb_) mm (by rfl) (by rfl) (.cons (.refl _) (.cons (.refl _) (.cons (Fz.sls (l:=[[97],[98]]) (f:=az) (size:=1) (b:=lb) mm (by rfl) (by decide) (by rfl)) (.cons .nils .nil))))) .nil))) rfl)
end Go.Proofs.Ytljkdffikfkcgaa.Am
end
section
namespace Go.Proofs.Ytljkdffikfkcgaa.Am
set_option linter.unusedVariables false
theorem Jl:Fit Try.prog (fun _=>none):=⟨fun t ts h=>(by cases h),fit.names,fit.order⟩
end Go.Proofs.Ytljkdffikfkcgaa.Am
end
section
namespace Go.Proofs.Ytljkdffikfkcgaa.Am
set_option maxRecDepth 100000
set_option linter.unusedVariables false
theorem am.pure{P:Program}{f:FuncId}{args:List AV}{Q:AV→SH→Prop}(h:am P f args [] Q)(ha:∀a∈args,bB a)(hv:∀u K,Q u K→bB u):∃v K,Q v K∧aO P f args v:=by
 obtain⟨v,H',L',h1,h2,h3⟩:=h.2 ah.empty (fun b _=>dx b) ⟨List.nodup_nil,nofun⟩
 have hV:Cp P f args v:=fun w σ vs hW hvs=>(h1 w σ vs hW hvs).mono fun e w' ⟨v',σ',he,k1,k2,k3,k4⟩=>⟨v',σ',H',he,k1,k3⟩
 exact⟨v,L',h3,h.1,fun H hb hs=>⟨v,H,[],HI (hv _ _ h3) (fun i a hi=>ha a (List.mem_of_getElem? hi)) hV H,.refl hb hs,rfl,rfl⟩⟩
theorem bB.lsts{rows:List (List AV)}(h:∀r∈rows,∀a∈r,bB a):bB (.lst rows):=.lst rows fun i r j a h1 h2=>h r (List.mem_of_getElem? h1) a (List.mem_of_getElem? h2)
theorem bB.lmap{α:Type}{f:α→List AV}{l:List α}(h:∀x∈l,∀a∈f x,bB a):bB (.lst (l.map f)):=.lsts fun r hr=>by
 obtain⟨x,hx,rfl⟩:=List.mem_map.1 hr
 exact h x hx
theorem bB.aggs{cs:List AV}(h:∀a∈cs,bB a):bB (.agg cs):=.agg cs fun i a hi=>h a (List.mem_of_getElem? hi)
theorem bB.tups{cs:List AV}(h:∀a∈cs,bB a):bB (.tup cs):=.tup cs fun i a hi=>h a (List.mem_of_getElem? hi)
theorem B2(s:aL):∀a∈az s,bB a:=fun a h=>by rw[List.mem_singleton.1 h];exact .str _
mutual
theorem ac.pure:∀x:ac,∀a∈x.enc,bB a
 | .mk op n name l=>by
  have:=ac.pures l
  simp only[ac.enc,List.forall_mem_cons,List.not_mem_nil,false_implies,implies_true,and_true]
  exact⟨.int _ _,.int _ _,.str _,.lsts this⟩
theorem ac.pures:∀l:List ac,∀r∈ac.encs l,∀a∈r,bB a
 | []=>nofun
 | x::l=>by
  simp only[ac.encs,List.forall_mem_cons]
  exact⟨ac.pure x,ac.pures l⟩
end
mutual
theorem aa.pure:∀x:aa,∀a∈x.enc,bB a
 | .mk op line name arg index e body els=>by
  have h1:=aa.pures body;have h2:=aa.pures els
  simp only[aa.enc,List.forall_mem_cons,List.not_mem_nil,false_implies,implies_true,and_true]
  exact⟨.int _ _,.int _ _,.str _,.str _,.lmap fun x _=>x.pure,.int _ _,.int _ _,.str _,.lmap fun x _=>x.pure,.lsts h1,.lsts h2⟩
theorem aa.pures:∀l:List aa,∀r∈aa.encs l,∀a∈r,bB a
 | []=>nofun
 | x::l=>by
  simp only[aa.encs,List.forall_mem_cons]
  exact⟨aa.pure x,aa.pures l⟩
end
theorem av.pure(d:av):∀a∈d.enc,bB a:=by
 simp only[av.enc,List.forall_mem_cons,List.not_mem_nil,false_implies,implies_true,and_true]
 exact⟨.int _ _,.int _ _,.str _,.int _ _,.int _ _,.str _⟩
theorem ai.pure(d:ai):∀a∈d.enc,bB a:=by
 simp only[ai.enc,List.forall_mem_cons,List.not_mem_nil,false_implies,implies_true,and_true]
 exact⟨.str _,.int _ _,.lmap fun x _=>B2 x,.lmap fun x _=>x.pure⟩
theorem aK.pure(p:aK):bB (.agg p.enc):=.aggs (by
 simp only[aK.enc,List.forall_mem_cons,List.not_mem_nil,false_implies,implies_true,and_true]
 exact⟨.lmap fun x _=>x.pure,.lmap fun x _=>x.pure⟩)
theorem zE(e ln:Int):bB (.tup [.int .i64 e,.int .i64 ln]):=.tups (by
 simp only[List.forall_mem_cons,List.not_mem_nil,false_implies,implies_true,and_true]
 exact⟨.int _ _,.int _ _⟩)
theorem DN(p:aK)(hw:p.wt<2^40):∃e ln:Int,(e=0→fD p)∧aO Try.prog 12 [.agg p.enc] (.tup [.int .i64 e,.int .i64 ln]):=by
 obtain⟨v,K,⟨e,ln,rfl,rfl,hg⟩,hp⟩:=(DA p hw).pure (by simp only[List.forall_mem_cons,List.not_mem_nil,false_implies,implies_true,and_true];exact p.pure) (fun u K ⟨e,ln,h1,_,_⟩=>by rw[h1];exact zE e ln)
 exact⟨e,ln,hg,hp⟩
def sJ(p:aK):Prop:=∃ln:Int,aO Try.prog 12 [.agg p.enc] (.tup [.int .i64 0,.int .i64 ln])
def F0:Option (AV×ah)→Bool
 | some (.tup [.int .i64 0,.int .i64 _],_)=>true
 | _=>false
theorem B3{f:FuncId}{args:List AV}{n:Nat}(ha:∀a∈args,bB a)(hrun:F0 (jd Try.prog (eV Try.prog (fun _=>none) n) f args ah.empty)=true):∃ln:Int,aO Try.prog f args (.tup [.int .i64 0,.int .i64 ln]):=by
 have hd:=(Fw uQ).2
 have hs:=pN (P:=Try.prog) hd (fun c τ H e τ' H' dr hx=>Ab Jl hd n c τ H e τ' H' dr hx)
 cases hc:jd Try.prog (eV Try.prog (fun _=>none) n) f args ah.empty with
 | none=>rw[hc]at hrun;cases hrun
 | some r=>
  obtain⟨v,H'⟩:=r
  rw[hc]at hrun
  have hv:∃ln:Int,v=.tup [.int .i64 0,.int .i64 ln]:=by
   unfold F0 at hrun
   split at hrun
   ·rename_i heq;cases heq;exact⟨_,rfl⟩
   ·cases hrun
  obtain⟨ln,rfl⟩:=hv
  have hV:Cp Try.prog f args (.tup [.int .i64 0,.int .i64 ln]):=fun w σ vs hW hvs=>(hs.ok _ _ _ _ _ hc w σ vs hW hvs).mono fun e w' ⟨v',σ',he,k1,k2,k3,k4⟩=>⟨v',σ',H',he,k1,k3⟩
  exact⟨ln,hs.body _ _ _ _ _ hc,fun H hb hS=>⟨_,H,[],HI (zE 0 ln) (fun i a h=>ha a (List.mem_of_getElem? h)) hV H,.refl hb hS,rfl,rfl⟩⟩
end Go.Proofs.Ytljkdffikfkcgaa.Am
end
section
namespace Go.Proofs.Ytljkdffikfkcgaa.Am
def tg:aK:=⟨aP,[⟨[109,97,105,110],0,[[97],[98]],[aE [120] (cS 1)]⟩]⟩
set_option maxRecDepth 1000000 in
theorem B4:sJ tg:=B3 (n:=2000) (by simp only[List.forall_mem_cons,List.not_mem_nil,false_implies,implies_true,and_true];exact tg.pure) (by kernel_rfl)
end Go.Proofs.Ytljkdffikfkcgaa.Am
end
section
namespace Go.Proofs.Ytljkdffikfkcgaa.Am
set_option maxRecDepth 100000
set_option maxHeartbeats 4000000
set_option linter.unusedVariables false
@[irreducible] def JJ (n23:Kn) (v:List AV) (L:SH):Prop:=bJ n23 v L
theorem F1{n23:Kn}{v:List AV}{L:SH}(h:JJ n23 v L):bJ n23 v L:=by unfold JJ at h;exact h
theorem F2{n23:Kn}{v:List AV}{L:SH}(h:bJ n23 v L):JJ n23 v L:=by unfold JJ;exact h
theorem Br(r:Nat):(l8.getD r []).length≤4:=by
 rcases r with _ | _ | _ | _ | r
 all_goals simp[l8]
theorem Hd{n23:Kn}{bm bt b0 bp nmb bh lb a n:Nat}{t:List UInt8}{th le:Int}{se tx at_ lo:Bool}{o oT:Option Nat}{ar:List aL}{ts:List ai}{nm:aL}{m:Nat}(hn4:n≤4)(h1:1≤n)
  (hj:∀(oB:Option Nat) (ps:List (List AV×aa)),(oB=none→ps=[])→ps.length≤4→ew ps→aa.wts (ps.map Prod.snd)≤100→JJ n23 [.ptr b0 0 0,.ptr bm 0 0,.ptr bp 0 0,.int .i64 n,.sl nmb 0 4,.int .i64 ((0:Nat):Int),.ptr bh 0 0] ((bh,⟨4,[[.str nm,.int .i64 0,.sl lb 0 2,au oB ps.length]]⟩)::(lb,⟨1,[[.str [97]],[.str [98]]]⟩)::(bm,cL bt th le se tx at_ lo o 0)::(bt,aM t a)::(b0,⟨2,[[.nils,.nils]]⟩)::(bp,⟨2,[[.lst (aP.map av.enc),au oT m]]⟩)::(nmb,⟨1,l8.map az⟩)::(ao oB 11 (ps.map Prod.fst)++(ao oT 4 (ts.map ai.enc)++ao o 1 (ar.map az))))) :
  W.loop (fE (bJ n23)) [.ptr b0 0 0,.ptr bm 0 0,.ptr bp 0 0,.int .i64 n,.sl nmb 0 4,.int .i64 ((0:Nat):Int),.ptr bh 0 0,.int .i64 1] ((bh,⟨4,[[.str nm,.int .i64 0,.sl lb 0 2,.nils]]⟩)::(lb,⟨1,[[.str [97]],[.str [98]]]⟩)::(bm,cL bt th le se tx at_ lo o 0)::(bt,aM t a)::(b0,⟨2,[[.nils,.nils]]⟩)::(bp,⟨2,[[.lst (aP.map av.enc),au oT m]]⟩)::(nmb,⟨1,l8.map az⟩)::(ao oT 4 (ts.map ai.enc)++ao o 1 (ar.map az))):=by
 refine cH (β:=Option Nat×List (List AV×aa)) (n-1) (fun j ⟨oB,ps⟩=>([.ptr b0 0 0,.ptr bm 0 0,.ptr bp 0 0,.int .i64 n,.sl nmb 0 4,.int .i64 ((0:Nat):Int),.ptr bh 0 0,.int .i64 ((j+1:Nat):Int)],(bh,⟨4,[[.str nm,.int .i64 0,.sl lb 0 2,au oB j]]⟩)::(lb,⟨1,[[.str [97]],[.str [98]]]⟩)::(bm,cL bt th le se tx at_ lo o 0)::(bt,aM t a)::(b0,⟨2,[[.nils,.nils]]⟩)::(bp,⟨2,[[.lst (aP.map av.enc),au oT m]]⟩)::(nmb,⟨1,l8.map az⟩)::(ao oB 11 (ps.map Prod.fst)++(ao oT 4 (ts.map ai.enc)++ao o 1 (ar.map az)))))
  (fun j ⟨oB,ps⟩=>(oB=none→ps=[])∧ps.length=j∧ew ps∧aa.wts (ps.map Prod.snd)≤10*j) (none,[]) ⟨fun _=>rfl,rfl,ew.mk nofun nofun,Nat.zero_le _⟩ ?_ ?_
 ·refine aV.row (R:=_) (K:=[]) (rows:=[[.str nm,.int .i64 0,.sl lb 0 2,.nils]]) (rows':=[[.str nm,.int .i64 0,.sl lb 0 2,au none 0]]) (.refl _) (by rfl) (fun j r r' q1 q2=>?_)
  match j with
   | 0=>cases q1;cases q2;exact .cons (.refl _) (.cons (.refl _) (.cons (.refl _) (.cons .nile .nil)))
   | j+1=>simp at q1
 rintro j ⟨oB,ps⟩ hjn ⟨hoB,hl,hg,hw⟩
 dsimp only at hoB hl hg hw ⊢
 unfold fE
 generalize hnx:(fun(vs':List AV) (L':SH)=>_)=nx
 subst hl
 rcases Nat.lt_or_ge (ps.length+1) n with g | g
 ·have hd1:=ct g
  have hi1:=bH g (by omega)
  unfold cL iY
  repeat' (first | refine st ?_ | refine dv (l:=l8) ?_ mm rfl (by simp[l8];omega) | refine cR ?_ (by omega) | refine cI rp rp (by simp) (fun e=>by first | simp[hoB e]) (by rfl) (by simp) (by simp;omega) (by simp;omega) (by rfl) (fun nb_ hnb_=>?_) | refine sb (fun nb_ hnb_=>?_) | refine s2 (fun h=>?_) (fun h=>?_) | fail)
  subst hnx
  have hnl:=Br (ps.length+1)
  generalize l8.getD (ps.length+1) []=w at hnl ⊢
  refine⟨ps.length+1,(some nb_,ps++[(wR 12 w,gR 12 w)]),by omega,by omega,⟨nofun,by simp,hg.raw 12 w,?_⟩,aV.pickE (R:=(bh,_)::(lb,_)::(bm,_)::(bt,_)::(b0,_)::(bp,_)::(nmb,_)::(nb_,⟨11,ps.map Prod.fst++[wR 12 w]⟩)::(ao oT 4 (ts.map ai.enc)++ao o 1 (ar.map az))) (.one (.there _ (.there _ (.here _))) (.one (.there _ (.there _ (.here _))) (.one (.there _ (.there _ (.here _))) (.one (.there _ (.there _ (.here _))) (.one (.there _ (.there _ (.here _))) (.one (.there _ (.there _ (.here _))) (.one (.there _ (.there _ (.here _))) (.one (.here _) (.slot (.there _ (.here _)) (.slotl (.there _ .last))))))))))) rfl ?_⟩
  ·rw[List.map_append,fW]
   simp only[List.map_cons,List.map_nil,gR,aW,aa.wt,aa.wts,ac.wt,ac.wts,List.length_nil]
   omega
  ·dsimp only
   rw[List.map_append];rfl
 ·have hd1:=ee g
  clear hnx
  unfold cL iY at *
  repeat' (first | (with_reducible refine F1 ?_) | refine st ?_ | refine sb (fun nb_ hnb_=>?_) | refine s2 (fun h=>?_) (fun h=>?_) | fail)
  exact hj oB ps hoB (by omega) hg (by omega)
theorem i0{b c:Nat}{L:SH}{y:Blk}(h:¬b∈SH.names L)(hm:(c,y)∈L):b≠c:=fun e=>h (by subst e;exact List.mem_map.2 ⟨_,hm,rfl⟩)
theorem zF{o:Option Nat}{b n:Nat}{rows:List (List AV)}(h:o=some b):(b,(⟨n,rows⟩:Blk))∈ao o n rows:=by subst h;exact .head _
theorem B5{Q:R}{n23:Kn}{bm bt b0 bp nmb a n i:Nat}{t:List UInt8}{th le:Int}{se tx at_ lo:Bool}{o oT:Option Nat}{ar:List aL}{ts:List ai}
  (ht:t.length<2^40) (ha:a≤t.length) (ho:o=none→ar=[]) (hoT:oT=none→ts=[]) (hts:ts.length=i) (hi:i<n) (hn4:n≤4)
  (hn:∀(x:ai) (a':Nat) (th' le':Int) (se' tx' at' lo':Bool) (o':Option Nat) (ar':List aL) (nbT:Nat) (L':SH),ai.wt x≤40000→a'≤t.length→(o'=none→ar'=[])→aV [.ptr b0 0 0,.ptr bm 0 0,.ptr bp 0 0,.int .i64 n,.sl nmb 0 4,.int .i64 (IntKind.i64.wrap ((i:Int)+1))] L' [.ptr b0 0 0,.ptr bm 0 0,.ptr bp 0 0,.int .i64 n,.sl nmb 0 4,.int .i64 (IntKind.i64.wrap ((i:Int)+1))] (PH bm bt b0 bp nmb t a' th' le' se' tx' at' lo' o' ar' (some nbT) (ts.length+1) (ts++[x]))→aV [.ptr b0 0 0,.ptr bm 0 0,.ptr bp 0 0,.int .i64 n,.sl nmb 0 4,.int .i64 (IntKind.i64.wrap ((i:Int)+1))] L' [.ptr b0 0 0,.ptr bm 0 0,.ptr bp 0 0,.int .i64 n,.sl nmb 0 4,.int .i64 (IntKind.i64.wrap ((i:Int)+1))] (PZ b0 bp (ts++[x]))→n23 [.ptr b0 0 0,.ptr bm 0 0,.ptr bp 0 0,.int .i64 n,.sl nmb 0 4,.int .i64 (IntKind.i64.wrap ((i:Int)+1))] L') :
  dW Q [.ptr b0 0 0,.ptr bm 0 0,.ptr bp 0 0,.int .i64 n,.sl nmb 0 4,.int .i64 (i:Int)] (PH bm bt b0 bp nmb t a th le se tx at_ lo o ar oT ts.length ts) n23:=by
 have hd1:=ct hi
 unfold dW PH cL iY
 rcases i with _ | i
 ·repeat' (first | refine st ?_ | refine dv (l:=l8) ?_ mm rfl (by simp[l8]) | refine cR ?_ (by omega) | refine sb (fun nb_ hnb_=>?_) | refine s2 (fun h=>?_) (fun h=>?_) | fail)
  have f1:nb_≠bm:=i0 hnb_ (.tail _ (.head _))
  have f2:nb_≠bt:=i0 hnb_ (.tail _ (.tail _ (.head _)))
  have f3:∀b,o=some b→nb_≠b:=fun b e=>i0 hnb_ (.tail _ (.tail _ (.tail _ (.tail _ (.tail _ (.tail _ (List.mem_append_right _ (zF e))))))))
  exact Hd hn4 (by omega) fun oB ps hoB hps hg hw=>F2 (Ha ht ha ho hoT hoB (by omega) hps f1 f2 f3 hg (by decide) hw hn)
 ·have hz:decide (((i+1:Nat):Int)=0)=false:=by simp;omega
  repeat' (first | (with_reducible refine F1 ?_) | refine st ?_ | refine dv (l:=l8) ?_ mm rfl (by simp[l8];omega) | refine cR ?_ (by omega) | refine sb (fun nb_ hnb_=>?_) | refine s2 (fun h=>?_) (fun h=>?_) | fail)
  have f1:nb_≠bm:=i0 hnb_ (.tail _ (.head _))
  have f2:nb_≠bt:=i0 hnb_ (.tail _ (.tail _ (.head _)))
  have f3:∀b,o=some b→nb_≠b:=fun b e=>i0 hnb_ (.tail _ (.tail _ (.tail _ (.tail _ (.tail _ (.tail _ (List.mem_append_right _ (zF e))))))))
  exact F2 (Hb ht ha ho hoT (by omega) f1 f2 f3 (Br (i+1)) hz hn)
theorem Jm{r:Nat}(h:r<100):IntKind.i64.wrap (2+(r:Int))=((2+r:Nat):Int):=by rw[IntWalk.i64_in _ (by omega)];omega
inductive B6 (K:SH):SH→SH→Prop where
 | nil:B6 K [] []
 | same (p:Nat×Blk) {R R2:SH}:B6 K R R2→B6 K (p::R) (p::R2)
 | box {b n:Nat} {r r':List AV} {R R2:SH}:pV K r r'→B6 K R R2→B6 K ((b,⟨n,[r]⟩)::R) ((b,⟨n,[r']⟩)::R2)
theorem aV.blks{vs vs2:List AV}{L K R R2:SH}(hL:L.Perm (K++R))(h:B6 K R R2)(hv:vs=vs2):aV vs L vs2 R2:=by
 subst hv
 refine⟨K,R,hL,⟨rfl,fun i a a2 h1 h2=>by rw[h1]at h2;cases h2;exact .refl _⟩,?_,?_⟩
 ·clear hL
  induction h with
  | nil=>rfl
  | same p h ih=>simp[ih]
  | box h1 h ih=>simp[ih]
 ·clear hL
  induction h with
  | nil=>intro i p q h1;simp at h1
  | same p h ih=>
   intro i x y h1 h2
   match i with
   | 0=>cases h1;cases h2;exact⟨rfl,rfl,rfl,fun j r r2 h3 h4=>by rw[h3]at h4;cases h4;exact⟨rfl,fun k a a2 h5 h6=>by rw[h5]at h6;cases h6;exact .refl _⟩⟩
   | i+1=>exact ih i x y (by simpa using h1) (by simpa using h2)
  | box hr h ih=>
   intro i x y h1 h2
   match i with
   | 0=>cases h1;cases h2;exact⟨rfl,rfl,rfl,fun j r r2 h3 h4=>(co hr j r r2 h3 h4).at_⟩
   | i+1=>exact ih i x y (by simpa using h1) (by simpa using h2)
theorem B7{L R K:SH}(h:xN L R K)(hK:K=[]:=by rfl):L.Perm ([]++R):=by subst hK;exact h.perm
theorem Aw:qZ aP:=by
 intro i h
 have h9:i<9:=h
 rcases i with _ | _ | _ | _ | _ | _ | _ | _ | _ | i
 ·exact(⟨by decide,by decide,by decide,by decide,by decide,by decide,fun e=>absurd e (by decide)⟩:fC aP 0 (by decide))
 ·exact(⟨by decide,by decide,by decide,by decide,by decide,by decide,fun e=>absurd e (by decide)⟩:fC aP 1 (by decide))
 ·exact(⟨by decide,by decide,by decide,by decide,by decide,by decide,fun e=>absurd e (by decide)⟩:fC aP 2 (by decide))
 ·exact(⟨by decide,by decide,by decide,by decide,by decide,by decide,fun e=>absurd e (by decide)⟩:fC aP 3 (by decide))
 ·exact(⟨by decide,by decide,by decide,by decide,by decide,by decide,fun e=>absurd e (by decide)⟩:fC aP 4 (by decide))
 ·exact(⟨by decide,by decide,by decide,by decide,by decide,by decide,fun e=>absurd e (by decide)⟩:fC aP 5 (by decide))
 ·exact(⟨by decide,by decide,by decide,by decide,by decide,by decide,fun e=>absurd e (by decide)⟩:fC aP 6 (by decide))
 ·exact(⟨by decide,by decide,by decide,by decide,by decide,by decide,fun e=>⟨_,rfl,rfl⟩⟩:fC aP 7 (by decide))
 ·exact(⟨by decide,by decide,by decide,by decide,by decide,by decide,fun e=>absurd e (by decide)⟩:fC aP 8 (by decide))
 ·exfalso;omega
theorem E5:fD tg:=by
 refine⟨by decide,Aw,by decide,⟨?_,?_⟩,by decide,?_⟩
 ·intro i h
  have h1:i<1:=h
  rcases i with _ | i
  ·exact(⟨by decide,by decide⟩:kJ tg 0 (by decide))
  ·exfalso;omega
 ·intro i h
  have h1:i<1:=h
  rcases i with _ | i
  ·have key:q6 tg ⟨[109,97,105,110],0,[[97],[98]],[aE [120] (cS 1)]⟩:=by
    refine⟨by decide,by decide,by decide,?_⟩
    intro j hj
    have h2:j<2:=hj
    rcases j with _ | _ | j
    ·show fJ [] [97]<0
     decide
    ·show fJ [[97]] [98]<0
     decide
    ·exfalso;omega
   exact key
  ·exfalso;omega
 ·intro i h
  have h1:i<1:=h
  rcases i with _ | i
  ·show StsOk tg [[97],[98]] [aE [120] (cS 1)]
   refine(iW _).2 fun x hx=>?_
   rw[List.mem_singleton.1 hx,Bm]
   refine⟨?_,?_,?_⟩
   ·show dt (aD tg [[97],[98]] [120]) 8 1=0∧gv tg [[97],[98]] (cS 1)=0
    decide
   ·exact(iW _).2 nofun
   ·exact(iW _).2 nofun
  ·exfalso;omega
theorem E6(t:List UInt8)(ht:t.length<2^40):am Try.prog 9 [.lst (t.map mM)] [] fun v K=>∃p:aK,v=.agg p.enc∧K=[]∧p.wt≤200000∧fD p∧p.decls=aP∧sJ p:=by
 refine am.fz (t6 _ _ _ ?_)
 unfold kK
 generalize hQ:(fun(v:AV) (L:SH)=>∃v2 L2,aV [v] L [v2] L2∧∃p:aK,v2=.agg p.enc∧L2=[]∧p.wt≤200000∧fD p∧p.decls=aP∧sJ p)=Q
 have hq:∀(p:aK) (v:AV) (L:SH),Fz L v (.agg p.enc)→p.wt≤200000→fD p→p.decls=aP→sJ p→Q v L:=fun p v L h1 h2 h3 h4 h5=>by
  subst hQ;exact⟨_,_,aV.all h1,p,rfl,rfl,h2,h3,h4,h5⟩
 clear hQ
 repeat' (first | refine dm (b9 (c:=((2+_:Nat):Int)) ?_ (Jm (by omega))) | refine st ?_ | ((with_reducible refine aq 17 ?_);refine aj (fV) ?_) | ((with_reducible refine al 17 ?_);refine ab (fV) ?_) | ((with_reducible refine aq 18 ?_);(refine eg (t:=t) (a:=0) ht (Nat.zero_le _) rp (fun r_ a_ hr_ ha_=>?_))) | refine sb (fun nb_ hnb_=>?_) | refine s2 (fun h=>?_) (fun h=>?_) | fail)
 rename_i b0 hb0 bt hbt bm hbm bp hbp
 refine cH (β:=Nat×Int×Int×Bool×Bool×Bool×Bool×Option Nat×List aL×Option Nat×List ai) (2+r_) (fun i ⟨a,th,le,se,tx,at_,lo,o,ar,oT,ts⟩=>([.ptr b0 0 0,.ptr bm 0 0,.ptr bp 0 0,.int .i64 ((2+r_:Nat):Int),.sl nb_ 0 4,.int .i64 (i:Int)],if i=2+r_ then PZ b0 bp ts else PH bm bt b0 bp nb_ t a th le se tx at_ lo o ar oT ts.length ts))
  (fun i ⟨a,th,le,se,tx,at_,lo,o,ar,oT,ts⟩=>a≤t.length∧(o=none→ar=[])∧(oT=none→ts=[])∧ts.length=i∧∀x∈ts,ai.wt x≤40000) (a_,0,20,false,false,false,false,none,[],none,[]) ⟨ha_,fun _=>rfl,fun _=>rfl,rfl,nofun⟩ ?_ ?_
 ·show aV _ _ _ (if 0=2+r_ then PZ b0 bp []else _)
  rw[if_neg (by omega)]
  exact aV.blks (K:=[]) (R:=(bm,⟨8,[[.ptr bt 0 0,.int .i64 0,.int .i64 20,.bool false,.bool false,.bool false,.bool false,.nils]]⟩)::(bt,aM t a_)::(b0,⟨2,[[.nils,.nils]]⟩)::(bp,⟨2,[[.lst (aP.map av.enc),.nils]]⟩)::(nb_,⟨1,l8.map az⟩)::[]) (B7 (.one (.there _ (.there _ (.there _ (.here _)))) (.one (.there _ (.here _)) (.one (.there _ (.there _ (.here _))) (.one (.there _ (.here _)) (.one (.here _) (.nil _))))))) (.box (.cons (.refl _) (.cons (.refl _) (.cons (.refl _) (.cons (.refl _) (.cons (.refl _) (.cons (.refl _) (.cons (.refl _) (.cons .nile .nil)))))))) (.same _ (.same _ (.box (.cons (.refl _) (.cons .nile .nil)) (.same _ .nil))))) rfl
 ·rintro i ⟨a,th,le,se,tx,at_,lo,o,ar,oT,ts⟩ hi ⟨ha,ho,hoT,hts,hw⟩
  dsimp only at ha ho hoT hts hw ⊢
  rcases Nat.lt_or_eq_of_le hi with g | g
  ·rw[if_neg (by omega)]
   refine B5 ht ha ho hoT hts g (by omega) ?_
   intro x a' th' le' se' tx' at' lo' o' ar' nbT L' q1 q2 q3 q4 q5
   have e:IntKind.i64.wrap ((i:Int)+1)=((i+1:Nat):Int):=bH g (by omega)
   rw[e]at q4 q5 ⊢
   refine⟨i+1,(a',th',le',se',tx',at',lo',o',ar',some nbT,ts++[x]),by omega,by omega,⟨q2,q3,nofun,by simp[hts],?_⟩,?_⟩
   ·intro y hy
    rcases List.mem_append.1 hy with hy | hy
    ·exact hw y hy
    ·rw[List.mem_singleton.1 hy];exact q1
   ·dsimp only
    by_cases z:i+1=2+r_
    ·rw[if_pos z];exact q5
    ·rw[if_neg z,List.length_append];exact q4
  ·rw[if_pos g]
   subst g
   have hd1:decide (((2+r_:Nat):Int)<((2+r_:Nat):Int))=false:=by simp
   have hpw:aK.wt ⟨aP,ts⟩≤200000:=by
    have h1:(ts.map ai.wt).sum≤ts.length*40000:=by
     clear hts hi hoT
     induction ts with
     | nil=>simp
     | cons y l ih=>
      have:=hw y (.head _)
      have:=ih fun z hz=>hw z (.tail _ hz)
      simp only[List.map_cons,List.sum_cons,List.length_cons];omega
    have h2:(aP.map av.wt).sum=19:=by decide
    show(aP.map av.wt).sum+(ts.map ai.wt).sum≤200000
    rw[h2]
    omega
   obtain⟨e1,ln1,hg1,hc1⟩:=DN ⟨aP,ts⟩ (by omega)
   unfold dW PZ
   repeat' (first | refine st ?_ | ((with_reducible refine aq 12 ?_);refine aj (hc1) ?_) | ((with_reducible refine al 12 ?_);refine ab (hc1) ?_) | ((with_reducible refine aq 17 ?_);refine aj (fV) ?_) | ((with_reducible refine al 17 ?_);refine ab (fV) ?_) | ((with_reducible refine aq 21 ?_);refine aj (kL _) ?_) | ((with_reducible refine al 21 ?_);refine ab (kL _) ?_) | ((with_reducible refine aq 20 ?_);refine aj (aN _ _) ?_) | ((with_reducible refine al 20 ?_);refine ab (aN _ _) ?_) | refine sb (fun nb_ hnb_=>?_) | refine s2 (fun h=>?_) (fun h=>?_) | fail)
   ·exact hq ⟨aP,[⟨[109,97,105,110],0,[[97],[98]],[aE [120] (cS 1)]⟩]⟩ _ _ (Fz.aggs (.cons (.refl _) (.cons (dD (ts:=[]) (b:=nb_) mm (by rfl) (by rfl) (.cons (.refl _) (.cons (.refl _) (.cons (Fz.sls (l:=[[97],[98]]) (f:=az) (size:=1) mm (by rfl) (by decide) (by rfl)) (.cons (Fz.sls (l:=[aE [120] (cS 1)]) (f:=aa.enc) (size:=11) mm (by simp[aa.enc_row]) (by decide) (by rfl)) .nil))))) .nil))) (by decide) E5 rfl B4
   ·exact hq ⟨aP,ts⟩ _ _ (.refl _) hpw (hg1 (by simpa using h)) rfl ⟨ln1,(by have h0:e1=0:=(by simpa using h);rw[h0]at hc1;exact hc1)⟩
end Go.Proofs.Ytljkdffikfkcgaa.Am
end
section
namespace Go.Proofs.Ytljkdffikfkcgaa.Am
set_option linter.unusedVariables false
set_option maxRecDepth 100000
def dX(Q:R)(v0:Vs)(L2:SH)(n1:Kn):Prop:=
 wu 0 1 5 v0 fun x3 x4 x5=>
 W.len x3 fun x6=>
 wb .lss 3 x5 x6 fun x7=>
 wk x7 (
 gQ 2 0 x3 x5 L2 fun x10=>
 wb .eql 9 x10 x4 fun x11=>
 wk x11 (
 Q x5 L2) (
 wb .add 3 x5 (.int .i64 1) fun x12=>
 n1 [x3,x4,x12] L2)) (
 Q (.int .i64 (-1)) L2)
def gE(t0 t1:AV)(L:SH)(Q:R):Prop:=
 W.loop (dX Q) [t0,t1,(.int .i64 0)] L
theorem jM(t0 t1:AV)(L:SH)(Q:R)(h:gE t0 t1 L Q):am Try.prog 33 [t0,t1] L Q:=
 bC ⟨fun _=>none,fun k=>if k=2 then [0,1,5]else [],fun _=>[],fun _=>[]⟩ Try.func33 (by kernel_rfl) (by kernel_rfl) h
def jN(Q:R)(v4:Vs)(L6:SH)(n5:Kn):Prop:=
 wu 1 2 5 v4 fun x7 x8 x9=>
 bo 0 x8 L6 fun x11=>
 W.len x11 fun x12=>
 wb .lss 3 x9 x12 fun x13=>
 wk x13 (
 bo 0 x8 L6 fun x15=>
 gQ 5 0 x15 x9 L6 fun x18=>
 wb .eql 9 x18 x7 fun x19=>
 wk x19 (
 Q x9 L6) (
 wb .add 3 x9 (.int .i64 1) fun x20=>
 n5 [x7,x8,x20] L6)) (
 Q (.int .i64 (-1)) L6)
def kM(t0 t1:AV)(L:SH)(Q:R):Prop:=
 xb t0 L fun x2 L3=>
 W.loop (jN Q) [t1,x2,(.int .i64 0)] L3
theorem t7(t0 t1:AV)(L:SH)(Q:R)(h:kM t0 t1 L Q):am Try.prog 68 [t0,t1] L Q:=
 bC ⟨fun _=>none,fun k=>if k=2 then [1,2,5]else [],fun k=>if k=0 then [2]else [],fun _=>[]⟩ Try.func68 (by kernel_rfl) (by kernel_rfl) h
def vO(n1:Kn)(x7 x4 x6 x29:AV)(L30:SH):Prop:=
 W.ext 0 x29 fun x31=>
 W.ext 1 x29 fun x32=>
 wb .add 3 x7 (.int .i64 1) fun x33=>
 n1 [x31,x4,x32,x6,x33] L30
def vP(n1:Kn)(x6 x7 x4 x22:AV)(L23:SH):Prop:=
 W.ext 0 x22 fun x24=>
 W.ext 1 x22 fun x25=>
 gQ 11 10 x6 x7 L23 fun x28=>
 wc (.fn 34 []) [x24,x4,x25,x28] L23 (vO n1 x7 x4 x6)
def vQ(n1:Kn)(L2:SH)(x6 x7 x4 x5 x3:AV):Prop:=
 gQ 11 1 x6 x7 L2 fun x12=>
 W.build [(.int .i64 0),(.int .i64 0),(.int .i64 0)] [(0,1,x4),(1,1,x5),(2,1,x12)] fun x13=>
 W.bslice 3 [(.int .i64 0),(.int .i64 0),(.int .i64 0)] 1 [(0,x13)] L2 fun x14 L15=>
 W.append 3 24 x3 x14 L15 fun x16 L17=>
 wb .add 3 x5 (.int .i64 1) fun x18=>
 gQ 11 9 x6 x7 L17 fun x21=>
 wc (.fn 34 []) [x16,x4,x18,x21] L17 (vP n1 x6 x7 x4)
def kN(Q:R)(v0:Vs)(L2:SH)(n1:Kn):Prop:=
 Ah 0 1 2 3 10 v0 fun x3 x4 x5 x6 x7=>
 W.len x6 fun x8=>
 wb .lss 3 x7 x8 fun x9=>
 wk x9 (
 (vQ n1 L2 x6 x7 x4 x5 x3)) (
 Q (.tup [x3,x5]) L2)
def mN(t0 t1 t2 t3:AV)(L:SH)(Q:R):Prop:=
 W.loop (kN Q) [t0,t1,t2,t3,(.int .i64 0)] L
theorem vR(t0 t1 t2 t3:AV)(L:SH)(Q:R)(h:mN t0 t1 t2 t3 L Q):am Try.prog 34 [t0,t1,t2,t3] L Q:=
 bC ⟨fun _=>none,fun k=>if k=2 then [0,1,2,3,10]else [],fun _=>[],fun _=>[]⟩ Try.func34 (by kernel_rfl) (by kernel_rfl) h
def vS(n50:Kn)(L51:SH)(x54 x56 x57 x52 x53 x55:AV):Prop:=
 bo 0 x54 L51 fun x63=>
 bo 2 x56 L51 fun x65=>
 bo 3 x56 L51 fun x67=>
 bo 0 x56 L51 fun x69=>
 wb .eql 3 x69 (.int .i64 2) fun x70=>
 bo 4 x56 L51 fun x72=>
 W.build [(.str []),(.int .i64 0),(.int .i64 0),(.bool false),(.int .i64 0)] [(0,1,x65),(1,1,x57),(2,1,x67),(3,1,x70),(4,1,x72)] fun x73=>
 W.bslice 5 [(.str []),(.int .i64 0),(.int .i64 0),(.bool false),(.int .i64 0)] 1 [(0,x73)] L51 fun x74 L75=>
 W.append 5 48 x63 x74 L75 fun x76 L77=>
 W.faddr 0 x54 fun x78=>
 W.store 1 x78 x76 L77 fun L79=>
 wb .add 3 x57 (.int .i64 1) fun x80=>
 n50 [x52,x53,x54,x55,x56,x80] L79
def gF(n18:Kn)(v49:Vs)(L51:SH)(n50:Kn):Prop:=
 GA 1 2 3 6 7 8 v49 fun x52 x53 x54 x55 x56 x57=>
 bo 3 x56 L51 fun x59=>
 W.mnx true x59 (.int .i64 1) fun x60=>
 wb .lss 3 x57 x60 fun x61=>
 wk x61 (
 (vS n50 L51 x54 x56 x57 x52 x53 x55)) (
 wb .add 3 x55 (.int .i64 1) fun x81=>
 n18 [x52,x53,x54,x81] L51)
def vT(n18:Kn)(L84:SH)(x87 x89 x88 x85 x86:AV):Prop:=
 bo 1 x87 L84 fun x93=>
 bo 2 x89 L84 fun x95=>
 bo 0 x89 L84 fun x97=>
 wb .eql 3 x97 (.int .i64 4) fun x98=>
 W.build [(.str []),(.bool false)] [(0,1,x95),(1,1,x98)] fun x99=>
 W.bslice 2 [(.str []),(.bool false)] 1 [(0,x99)] L84 fun x100 L101=>
 W.append 2 24 x93 x100 L101 fun x102 L103=>
 W.faddr 1 x87 fun x104=>
 W.store 1 x104 x102 L103 fun L105=>
 wb .add 3 x88 (.int .i64 1) fun x106=>
 n18 [x85,x86,x87,x106] L105
def vU(n18:Kn)(L84:SH)(x112 x109 x87 x88 x85 x86:AV)(r110:Fp)(x120:AV)(L122:SH)(q121:Ns):Prop:=
 wn [] q121 [] L84.names fun r123=>
 W.build [(.str []),(.int .i64 0)] [(0,1,x112),(1,1,x120)] fun x124=>
 W.calm [rm 1 r110] ⟨10,[],[],[],false,[]⟩ (
 W.bslice 2 [(.str []),(.int .i64 0)] 1 [(0,x124)] L122 fun x125 L126=>
 wn [] [] (af x125) [] fun r127=>
 W.calm [] ⟨11,(af x109++af x125),(af x109),[],false,[]⟩ (
 W.append 2 24 x109 x125 L126 fun x128 L129=>
 wn (af x109++af x125) (af x109) (af x128) [] fun r130=>
 W.faddr 2 x87 fun x131=>
 ds [] 13 1 x131 x128 L129 fun L132 r133=>
 wb .add 3 x88 (.int .i64 1) fun x134=>
 n18 [x85,x86,x87,x134] L132))
def vV(n18:Kn)(L84:SH)(x87 x89 x88 x85 x86:AV):Prop:=
 (true=true)∧(
 bx 2 x87 [] 1 L84 fun x109 r110=>
 bx 2 x89 [rm 1 r110] 3 L84 fun x112 r113=>
 bx 1 x87 [rm 3 r113,rm 1 r110] 5 L84 fun x115 r116=>
 bx 5 x89 [rm 5 r116,rm 3 r113,rm 1 r110] 7 L84 fun x118 r119=>
 wd [rm 3 r113,rm 1 r110] 8 (.fn 33 []) [x115,x118] L84 (vU n18 L84 x112 x109 x87 x88 x85 x86 r110))
def vW(n18:Kn)(L84:SH)(x87 x89 x88 x85 x86:AV):Prop:=
 bo 3 x87 L84 fun x136=>
 bo 2 x89 L84 fun x138=>
 W.bslice 1 [(.str [])] 1 [(0,x138)] L84 fun x139 L140=>
 W.append 1 16 x136 x139 L140 fun x141 L142=>
 W.faddr 3 x87 fun x143=>
 W.store 1 x143 x141 L142 fun L144=>
 wb .add 3 x88 (.int .i64 1) fun x145=>
 n18 [x85,x86,x87,x145] L144
def vX(n18:Kn)(v82:Vs)(L84:SH):Prop:=
 GC 1 2 3 6 7 31 65 v82 fun x85 x86 x87 x88 x89 x90 x91=>
 wk x91 (
 (vT n18 L84 x87 x89 x88 x85 x86)) (
 wb .eql 3 x90 (.int .i64 5) fun x107=>
 wk x107 (
 (vV n18 L84 x87 x89 x88 x85 x86)) (
 (vW n18 L84 x87 x89 x88 x85 x86)))
def vY(n18:Kn)(L41:SH)(x47 x42 x43 x44 x45 x46:AV):Prop:=
 W.join (vX n18) fun j83=>
 wb .eql 3 x47 (.int .i64 3) fun x146=>
 wk x146 (
 j83 [x42,x43,x44,x45,x46,x47,x146] L41) (
 wb .eql 3 x47 (.int .i64 4) fun x147=>
 j83 [x42,x43,x44,x45,x46,x47,x147] L41)
def vZ(n18:Kn)(v39:Vs)(L41:SH):Prop:=
 GC 1 2 3 6 7 31 39 v39 fun x42 x43 x44 x45 x46 x47 x48=>
 wk x48 (
 W.loop (gF n18) [x42,x43,x44,x45,x46,(.int .i64 0)] L41) (
 (vY n18 L41 x47 x42 x43 x44 x45 x46))
def gH(n18:Kn)(L19:SH)(x20 x23 x21 x22:AV):Prop:=
 bo 0 x20 L19 fun x29=>
 ug 6 x29 x23 L19 fun x31=>
 xH [(.int .i64 0),(.int .i64 0),(.str []),(.int .i64 0),(.int .i64 0),(.str [])] 6 x31 L19 fun x35 L36=>
 bo 0 x35 L36 fun x38=>
 W.join (vZ n18) fun j40=>
 wb .eql 3 x38 (.int .i64 1) fun x148=>
 wk x148 (
 j40 [x20,x21,x22,x23,x35,x38,x148] L36) (
 wb .eql 3 x38 (.int .i64 2) fun x149=>
 j40 [x20,x21,x22,x23,x35,x38,x149] L36)
def wa(n151:Kn)(L179:SH)(x155 x156 x153 x154 x192:AV)(L194:SH)(q193:Ns):Prop:=
 wn [] q193 [] L179.names fun r195=>
 W.ext 0 x192 fun x196=>
 W.ext 1 x192 fun x197=>
 W.faddr 5 x155 fun x198=>
 ds [] 14 1 x198 x196 L194 fun L199 r200=>
 wb .add 3 x156 (.int .i64 1) fun x201=>
 n151 [x153,x154,x155,x201] L199
def gI(n151:Kn)(L152:SH)(x155 x153 x156 x154:AV):Prop:=
 (true=true)∧(
 bx 4 x155 [] 1 L152 fun x162 r163=>
 bx 1 x153 [rm 1 r163] 3 L152 fun x165 r166=>
 di [rm 1 r163] 5 4 x165 x156 L152 fun x167 r168=>
 bx 0 x167 [rm 1 r163] 7 L152 fun x170 r171=>
 W.calm [rm 1 r163] ⟨8,[],[],[],false,[]⟩ (
 W.bslice 1 [(.str [])] 1 [(0,x170)] L152 fun x172 L173=>
 wn [] [] (af x172) [] fun r174=>
 W.calm [] ⟨9,(af x162++af x172),(af x162),[],false,[]⟩ (
 W.append 1 16 x162 x172 L173 fun x175 L176=>
 wn (af x162++af x172) (af x162) (af x175) [] fun r177=>
 W.faddr 4 x155 fun x178=>
 ds [] 11 1 x178 x175 L176 fun L179 r180=>
 (true=true)∧(
 bx 5 x155 [] 1 L179 fun x182 r183=>
 bx 1 x153 [rm 1 r183] 4 L179 fun x185 r186=>
 di [rm 1 r183] 6 4 x185 x156 L179 fun x187 r188=>
 bx 3 x187 [rm 1 r183] 8 L179 fun x190 r191=>
 wd [] 9 (.fn 34 []) [x182,x156,(.int .i64 0),x190] L179 (wa n151 L179 x155 x156 x153 x154)))))
def gJ(Q:R)(v150:Vs)(L152:SH)(n151:Kn):Prop:=
 EL 1 2 3 9 v150 fun x153 x154 x155 x156=>
 bo 1 x153 L152 fun x158=>
 W.len x158 fun x159=>
 wb .lss 3 x156 x159 fun x160=>
 wk x160 (
 (gI n151 L152 x155 x153 x156 x154)) (
 dy 6 x155 L152 fun x202=>
 W.store 6 x154 x202 L152 fun L203=>
 W.load true 6 x154 L203 fun x204=>
 Q x204 L203)
def kO(Q:R)(v17:Vs)(L19:SH)(n18:Kn):Prop:=
 EL 1 2 3 6 v17 fun x20 x21 x22 x23=>
 bo 0 x20 L19 fun x25=>
 W.len x25 fun x26=>
 wb .lss 3 x23 x26 fun x27=>
 wk x27 (
 (gH n18 L19 x20 x23 x21 x22)) (
 W.loop (gJ Q) [x20,x21,x22,(.int .i64 0)] L19)
def we(Q:R)(x6 x2 x4 x9:AV)(L10:SH):Prop:=
 W.ext 0 x9 fun x11=>
 W.ext 1 x9 fun x12=>
 wb .neq 47 x11 (.int .i64 0) fun x13=>
 wk x13 (
 dy 6 x6 L10 fun x14=>
 W.store 6 x2 x14 L10 fun L15=>
 W.load true 6 x2 L15 fun x16=>
 Q x16 L15) (
 W.loop (kO Q) [x4,x2,x6,(.int .i64 0)] L10)
def mO(t0:AV)(L:SH)(Q:R):Prop:=
 W.box t0 L fun x0 L1=>
 W.alloc [.nils,.nils,.nils,.nils,.nils,.nils] L1 fun x2 L3=>
 W.frz1 x0 L3 fun x4 L5=>
 W.alloc [.nils,.nils,.nils,.nils,.nils,.nils] L5 fun x6 L7=>
 dy 2 x4 L7 fun x8=>
 wc (.fn 12 []) [x8] L7 (we Q x6 x2 x4)
theorem wh(t0:AV)(L:SH)(Q:R)(h:mO t0 L Q):am Try.prog 13 [t0] L Q:=
 bC ⟨fun k=>if k=12 then some [1,2,3,6,7,31,39]else if k=18 then some [1,2,3,6,7,31,65]else none,fun k=>if k=14 then [1,2,3,6,7,8]else if k=6 then [1,2,3,6]else if k=23 then [1,2,3,9]else [],fun k=>if k=0 then [1]else if k=8 then [7]else [],fun k=>if k=21 then [0,1,0,4,0,16,0,64,240,508,1020,2047,4095,8191]else if k=25 then [0,1,0,4,0,28,60,124,252,511,1023,2047]else if k=26 then [0,1,0,0,8,0,56,120,248,511,1023,2047,2047,4095,12287]else []⟩ Try.func13 (by kernel_rfl) (by kernel_rfl) h
def jO(t0 t1:AV)(L:SH)(Q:R):Prop:=
 W.box t1 L fun x0 L1=>
 c8 8 t0 L1 fun x4=>
 W.faddr 5 x0 fun x5=>
 W.store 1 x5 x4 L1 fun L6=>
 (true=true)∧(
 W.nilchk t0 fun x7=>
 bx 7 x7 [] 4 L6 fun x9 r10=>
 dr [rm 4 r10] 5 6 x0 L6 fun x11 r12=>
 W.calm [rm 4 r10] ⟨6,[],[],[],false,[]⟩ (
 W.bslice 6 [(.int .i64 0),(.int .i64 0),(.int .i64 0),(.int .i64 0),(.int .i64 0),(.int .i64 0)] 1 [(0,x11)] L6 fun x13 L14=>
 wn [] [] (af x13) [] fun r15=>
 W.calm [] ⟨7,(af x9++af x13),(af x9),[],false,[]⟩ (
 W.append 6 48 x9 x13 L14 fun x16 L17=>
 wn (af x9++af x13) (af x9) (af x16) [] fun r18=>
 W.nilchk t0 fun x19=>
 W.faddr 7 x19 fun x20=>
 ds [] 10 1 x20 x16 L17 fun L21 r22=>
 Q (.tup []) L21)))
theorem sK(t0 t1:AV)(L:SH)(Q:R)(h:jO t0 t1 L Q):am Try.prog 15 [t0,t1] L Q:=
 bC ⟨fun _=>none,fun _=>[],fun _=>[],fun k=>if k=2 then [0,0,2,6,14,0,32,126,255,511,1023]else []⟩ Try.func15 (by kernel_rfl) (by kernel_rfl) h
def oP(Q:R)(L3:SH)(t2 t0 x2:AV):Prop:=
 bo 1 x2 L3 fun x8=>
 W.build [(.int .i64 0),(.int .i64 0),(.int .i64 0),(.int .i64 0),(.int .i64 0),(.int .i64 0)] [(0,1,(.int .i64 1)),(1,1,t2),(4,1,x8)] fun x9=>
 wc (.fn 15 []) [t0,x9] L3 fun x10 L11=>
 Q (.tup []) L11
def oQ(Q:R)(L24:SH)(t2 t0 x22:AV):Prop:=
 W.build [(.int .i64 0),(.int .i64 0),(.int .i64 0),(.int .i64 0),(.int .i64 0),(.int .i64 0)] [(0,1,(.int .i64 2)),(1,1,t2),(2,1,x22)] fun x27=>
 wc (.fn 15 []) [t0,x27] L24 fun x28 L29=>
 Q (.tup []) L29
def oR(Q:R)(L39:SH)(x42:AV)(L44:SH)(q43:Ns):Prop:=
 wn [] q43 [] L39.names fun r45=>
 Q (.tup []) L44
def oS(Q:R)(L24:SH)(t2 t0 x37:AV)(L39:SH)(q38:Ns):Prop:=
 wn [] q38 [] L24.names fun r40=>
 W.build [(.int .i64 0),(.int .i64 0),(.int .i64 0),(.int .i64 0),(.int .i64 0),(.int .i64 0)] [(0,1,(.int .i64 6)),(1,1,t2),(2,1,x37)] fun x41=>
 wd [] 10 (.fn 15 []) [t0,x41] L39 (oR Q L39)
def oU(Q:R)(L24:SH)(t0 t2 x2:AV):Prop:=
 (true=true)∧(
 W.nilchk t0 fun x30=>
 W.faddr 0 x30 fun x31=>
 dr [] 5 6 x31 L24 fun x32 r33=>
 bx 2 x2 [rm 5 r33] 7 L24 fun x35 r36=>
 wd [] 8 (.fn 68 []) [x32,x35] L24 (oS Q L24 t2 t0))
def oV(Q:R)(L3:SH)(t2 t0 x2 x22:AV)(L24:SH)(q23:Ns):Prop:=
 wn [] q23 [] L3.names fun r25=>
 wb .geq 3 x22 (.int .i64 0) fun x26=>
 wk x26 (
 (oQ Q L24 t2 t0 x22)) (
 (oU Q L24 t0 t2 x2))
def oW(Q:R)(L3:SH)(t0 t2 x2:AV):Prop:=
 (true=true)∧(
 W.nilchk t0 fun x15=>
 bx 6 x15 [] 3 L3 fun x17 r18=>
 bx 2 x2 [rm 3 r18] 5 L3 fun x20 r21=>
 wd [] 6 (.fn 45 []) [x17,x20] L3 (oV Q L3 t2 t0 x2))
def oX(Q:R)(L54:SH)(t0 t2 x62:AV)(L64:SH)(q63:Ns):Prop:=
 wn [] q63 [] L54.names fun r65=>
 W.nilchk t0 fun x66=>
 W.faddr 0 x66 fun x67=>
 bo 0 x67 L64 fun x69=>
 gQ 5 2 x69 x62 L64 fun x72=>
 W.build [(.int .i64 0),(.int .i64 0),(.int .i64 0),(.int .i64 0),(.int .i64 0),(.int .i64 0)] [(0,1,(.int .i64 7)),(1,1,t2),(2,1,x62),(3,1,t2),(4,1,x72)] fun x73=>
 wc (.fn 15 []) [t0,x73] L64 fun x74 L75=>
 Q (.tup []) L75
def oY(Q:R)(t0 t2 x2 x53:AV)(L54:SH):Prop:=
 (true=true)∧(
 W.nilchk t0 fun x55=>
 W.faddr 0 x55 fun x56=>
 dr [] 3 6 x56 L54 fun x57 r58=>
 bx 2 x2 [rm 3 r58] 5 L54 fun x60 r61=>
 wd [] 6 (.fn 68 []) [x57,x60] L54 (oX Q L54 t0 t2))
def oZ(Q:R)(t2 t0 x2 x84:AV)(L85:SH):Prop:=
 bo 0 x2 L85 fun x87=>
 W.build [(.int .i64 0),(.int .i64 0),(.int .i64 0),(.int .i64 0),(.int .i64 0),(.int .i64 0)] [(0,1,(.int .i64 3)),(1,1,t2),(2,1,t2),(4,1,x87)] fun x88=>
 wc (.fn 15 []) [t0,x88] L85 fun x89 L90=>
 Q (.tup []) L90
def o4(Q:R)(t2 t0 x2 x102:AV)(L103:SH):Prop:=
 wb .add 3 t2 (.int .i64 1) fun x104=>
 bo 0 x2 L103 fun x106=>
 W.build [(.int .i64 0),(.int .i64 0),(.int .i64 0),(.int .i64 0),(.int .i64 0),(.int .i64 0)] [(0,1,(.int .i64 4)),(1,1,t2),(2,1,t2),(3,1,x104),(4,1,x106)] fun x107=>
 wc (.fn 15 []) [t0,x107] L103 fun x108 L109=>
 Q (.tup []) L109
def o5(Q:R)(t2 t0 x2 x95:AV)(L96:SH):Prop:=
 bo 3 x2 L96 fun x98=>
 ug 4 x98 (.int .i64 1) L96 fun x100=>
 wb .add 3 t2 (.int .i64 1) fun x101=>
 wc (.fn 51 []) [t0,x100,x101] L96 (o4 Q t2 t0 x2)
def o6(Q:R)(L3:SH)(t0 t2 x2:AV):Prop:=
 bo 3 x2 L3 fun x77=>
 W.len x77 fun x78=>
 wb .eql 3 x78 (.int .i64 1) fun x79=>
 wk x79 (
 bo 3 x2 L3 fun x81=>
 ug 4 x81 (.int .i64 0) L3 fun x83=>
 wc (.fn 51 []) [t0,x83,t2] L3 (oZ Q t2 t0 x2)) (
 bo 3 x2 L3 fun x92=>
 ug 4 x92 (.int .i64 0) L3 fun x94=>
 wc (.fn 51 []) [t0,x94,t2] L3 (o5 Q t2 t0 x2))
def o7(Q:R)(L3:SH)(t0 t2 x2:AV):Prop:=
 bo 0 x2 L3 fun x47=>
 wb .eql 3 x47 (.int .i64 3) fun x48=>
 wk x48 (
 bo 3 x2 L3 fun x50=>
 ug 4 x50 (.int .i64 0) L3 fun x52=>
 wc (.fn 51 []) [t0,x52,t2] L3 (oY Q t0 t2 x2)) (
 (o6 Q L3 t0 t2 x2))
def bM(t0 t1 t2:AV)(L:SH)(Q:R):Prop:=
 xb t1 L fun x2 L3=>
 bo 0 x2 L3 fun x5=>
 wb .eql 3 x5 (.int .i64 1) fun x6=>
 wk x6 (
 (oP Q L3 t2 t0 x2)) (
 bo 0 x2 L3 fun x13=>
 wb .eql 3 x13 (.int .i64 2) fun x14=>
 wk x14 (
 (oW Q L3 t0 t2 x2)) (
 (o7 Q L3 t0 t2 x2)))
theorem bY(t0 t1 t2:AV)(L:SH)(Q:R)(h:bM t0 t1 t2 L Q):am Try.prog 51 [t0,t1,t2] L Q:=
 bC ⟨fun _=>none,fun _=>[],fun k=>if k=0 then [4]else [],fun k=>if k=7 then [0,1,3,7,0,16,63,127]else if k=10 then [0,0,0,4,12,28,0,64,252,510,1023]else if k=13 then [0,1,3,7,0,16,63,127]else []⟩ Try.func51 (by kernel_rfl) (by kernel_rfl) h
def l9(Q:R)(L22:SH)(t0 x7 x30:AV)(L32:SH)(q31:Ns):Prop:=
 wn [] q31 [] L22.names fun r33=>
 wb .add 3 x7 (.int .i64 1) fun x34=>
 W.nilchk t0 fun x35=>
 W.faddr 0 x35 fun x36=>
 bo 0 x36 L32 fun x38=>
 gQ 5 2 x38 x30 L32 fun x41=>
 W.build [(.int .i64 0),(.int .i64 0),(.int .i64 0),(.int .i64 0),(.int .i64 0),(.int .i64 0)] [(0,1,(.int .i64 9)),(1,1,x30),(2,1,x34),(3,1,x7),(4,1,x41)] fun x42=>
 wc (.fn 15 []) [t0,x42] L32 fun x43 L44=>
 Q (.tup []) L44
def ma(Q:R)(t0 x2 x7 x21:AV)(L22:SH):Prop:=
 (true=true)∧(
 W.nilchk t0 fun x23=>
 W.faddr 0 x23 fun x24=>
 dr [] 3 6 x24 L22 fun x25 r26=>
 bx 2 x2 [rm 3 r26] 5 L22 fun x28 r29=>
 wd [] 6 (.fn 68 []) [x25,x28] L22 (l9 Q L22 t0 x7))
def mb(Q:R)(t0 x2 x7 x16:AV)(L17:SH):Prop:=
 W.faddr 5 x2 fun x18=>
 dy 4 x18 L17 fun x19=>
 wb .add 3 x7 (.int .i64 1) fun x20=>
 wc (.fn 51 []) [t0,x19,x20] L17 (ma Q t0 x2 x7)
def mc(Q:R)(L58:SH)(t0 x56 x7:AV):Prop:=
 W.build [(.int .i64 0),(.int .i64 0),(.int .i64 0),(.int .i64 0),(.int .i64 0),(.int .i64 0)] [(0,1,(.int .i64 2)),(1,1,x56),(2,1,x7)] fun x61=>
 wc (.fn 15 []) [t0,x61] L58 fun x62 L63=>
 Q (.tup []) L63
def md(Q:R)(L73:SH)(x76:AV)(L78:SH)(q77:Ns):Prop:=
 wn [] q77 [] L73.names fun r79=>
 Q (.tup []) L78
def me(Q:R)(L58:SH)(t0 x7 x71:AV)(L73:SH)(q72:Ns):Prop:=
 wn [] q72 [] L58.names fun r74=>
 W.build [(.int .i64 0),(.int .i64 0),(.int .i64 0),(.int .i64 0),(.int .i64 0),(.int .i64 0)] [(0,1,(.int .i64 8)),(1,1,x71),(2,1,x7)] fun x75=>
 wd [] 10 (.fn 15 []) [t0,x75] L73 (md Q L73)
def mf(Q:R)(L58:SH)(t0 x2 x7:AV):Prop:=
 (true=true)∧(
 W.nilchk t0 fun x64=>
 W.faddr 0 x64 fun x65=>
 dr [] 4 6 x65 L58 fun x66 r67=>
 bx 2 x2 [rm 4 r67] 6 L58 fun x69 r70=>
 wd [] 7 (.fn 68 []) [x66,x69] L58 (me Q L58 t0 x7))
def mg(Q:R)(L48:SH)(t0 x7 x2 x56:AV)(L58:SH)(q57:Ns):Prop:=
 wn [] q57 [] L48.names fun r59=>
 wb .geq 3 x56 (.int .i64 0) fun x60=>
 wk x60 (
 (mc Q L58 t0 x56 x7)) (
 (mf Q L58 t0 x2 x7))
def mh(Q:R)(t0 x2 x7 x47:AV)(L48:SH):Prop:=
 (true=true)∧(
 W.nilchk t0 fun x49=>
 bx 6 x49 [] 3 L48 fun x51 r52=>
 bx 2 x2 [rm 3 r52] 5 L48 fun x54 r55=>
 wd [] 6 (.fn 45 []) [x51,x54] L48 (mg Q L48 t0 x7 x2))
def gK(t0 t1:AV)(L:SH)(Q:R):Prop:=
 xb t1 L fun x2 L3=>
 c8 6 t0 L3 fun x6=>
 W.len x6 fun x7=>
 bo 4 x2 L3 fun x9=>
 W.len x9 fun x10=>
 wb .gtr 3 x10 (.int .i64 0) fun x11=>
 wk x11 (
 bo 4 x2 L3 fun x13=>
 ug 4 x13 (.int .i64 0) L3 fun x15=>
 wc (.fn 51 []) [t0,x15,x7] L3 (mb Q t0 x2 x7)) (
 W.faddr 5 x2 fun x45=>
 dy 4 x45 L3 fun x46=>
 wc (.fn 51 []) [t0,x46,x7] L3 (mh Q t0 x2 x7))
theorem mi(t0 t1:AV)(L:SH)(Q:R)(h:gK t0 t1 L Q):am Try.prog 47 [t0,t1] L Q:=
 bC ⟨fun _=>none,fun _=>[],fun k=>if k=0 then [3]else [],fun k=>if k=5 then [0,1,3,7,0,16,63,127]else if k=8 then [0,1,3,7,0,16,63,127]else if k=11 then [0,0,2,6,14,0,32,126,0,510,1023]else []⟩ Try.func47 (by kernel_rfl) (by kernel_rfl) h
def jT(Q:R)(t0 x26 x45:AV)(L46:SH):Prop:=
 (true=true)∧(
 W.nilchk t0 fun x47=>
 bx 7 x47 [] 3 L46 fun x49 r50=>
 W.nilchk t0 fun x51=>
 bx 7 x51 [rm 3 r50] 8 L46 fun x53 r54=>
 W.len x53 fun x55=>
 di [] 10 6 x49 x26 L46 fun x56 r57=>
 W.faddr 2 x56 fun x58=>
 ds [] 12 1 x58 x55 L46 fun L59 r60=>
 Q (.tup []) L59)
def jU(Q:R)(L40:SH)(t0 x10 x26:AV):Prop:=
 W.build [(.int .i64 0),(.int .i64 0),(.int .i64 0),(.int .i64 0),(.int .i64 0),(.int .i64 0)] [(0,1,(.int .i64 5)),(1,1,x10)] fun x44=>
 wc (.fn 15 []) [t0,x44] L40 (jT Q t0 x26)
def jV(Q:R)(L40:SH)(t0 x26:AV):Prop:=
 (true=true)∧(
 W.nilchk t0 fun x65=>
 bx 7 x65 [] 3 L40 fun x67 r68=>
 W.nilchk t0 fun x69=>
 bx 7 x69 [rm 3 r68] 8 L40 fun x71 r72=>
 W.len x71 fun x73=>
 di [] 10 6 x67 x26 L40 fun x74 r75=>
 W.faddr 2 x74 fun x76=>
 ds [] 12 1 x76 x73 L40 fun L77 r78=>
 Q (.tup []) L77)
def jW(Q:R)(t0 x82 x102:AV)(L103:SH):Prop:=
 (true=true)∧(
 W.nilchk t0 fun x104=>
 bx 7 x104 [] 3 L103 fun x106 r107=>
 W.nilchk t0 fun x108=>
 bx 7 x108 [rm 3 r107] 8 L103 fun x110 r111=>
 W.len x110 fun x112=>
 di [] 10 6 x106 x82 L103 fun x113 r114=>
 W.faddr 1 x113 fun x115=>
 ds [] 12 1 x115 x112 L103 fun L116 r117=>
 Q (.tup []) L116)
def jX(Q:R)(t0 x26 x2 x82 x84:AV)(L85:SH):Prop:=
 (true=true)∧(
 W.nilchk t0 fun x86=>
 bx 7 x86 [] 3 L85 fun x88 r89=>
 W.nilchk t0 fun x90=>
 bx 7 x90 [rm 3 r89] 8 L85 fun x92 r93=>
 W.len x92 fun x94=>
 di [] 10 6 x88 x26 L85 fun x95 r96=>
 W.faddr 2 x95 fun x97=>
 ds [] 12 1 x97 x94 L85 fun L98 r99=>
 bo 10 x2 L98 fun x101=>
 wc (.fn 14 []) [t0,x101] L98 (jW Q t0 x82))
def jY(Q:R)(L40:SH)(t0 x26 x2:AV):Prop:=
 c8 7 t0 L40 fun x81=>
 W.len x81 fun x82=>
 W.build [(.int .i64 0),(.int .i64 0),(.int .i64 0),(.int .i64 0),(.int .i64 0),(.int .i64 0)] [(0,1,(.int .i64 5))] fun x83=>
 wc (.fn 15 []) [t0,x83] L40 (jX Q t0 x26 x2 x82)
def jZ(Q:R)(L40:SH)(t0 x2 x26:AV):Prop:=
 bo 10 x2 L40 fun x62=>
 W.len x62 fun x63=>
 wb .eql 3 x63 (.int .i64 0) fun x64=>
 wk x64 (
 (jV Q L40 t0 x26)) (
 (jY Q L40 t0 x26 x2))
def j0(Q:R)(t0 x6 x2 x10 x26 x36:AV)(L37:SH):Prop:=
 W.nilchk t0 fun x38=>
 W.faddr 8 x38 fun x39=>
 W.store 1 x39 x6 L37 fun L40=>
 bo 0 x2 L40 fun x42=>
 wb .eql 3 x42 (.int .i64 3) fun x43=>
 wk x43 (
 (jU Q L40 t0 x10 x26)) (
 (jZ Q L40 t0 x2 x26))
def j1(Q:R)(t0 x2 x6 x10 x26 x32:AV)(L33:SH):Prop:=
 bo 9 x2 L33 fun x35=>
 wc (.fn 14 []) [t0,x35] L33 (j0 Q t0 x6 x2 x10 x26)
def j2(Q:R)(L3:SH)(t0 x2 x6 x10 x19:AV)(L21:SH)(q20:Ns):Prop:=
 wn [] q20 [] L3.names fun r22=>
 c8 7 t0 L21 fun x25=>
 W.len x25 fun x26=>
 c8 6 t0 L21 fun x29=>
 W.len x29 fun x30=>
 W.build [(.int .i64 0),(.int .i64 0),(.int .i64 0),(.int .i64 0),(.int .i64 0),(.int .i64 0)] [(0,1,(.int .i64 10)),(1,1,x30)] fun x31=>
 wc (.fn 15 []) [t0,x31] L21 (j1 Q t0 x2 x6 x10 x26)
def bn(t0 t1:AV)(L:SH)(Q:R):Prop:=
 xb t1 L fun x2 L3=>
 c8 8 t0 L3 fun x6=>
 c8 7 t0 L3 fun x9=>
 W.len x9 fun x10=>
 (true=true)∧(
 W.faddr 5 x2 fun x11=>
 dr [] 2 4 x11 L3 fun x12 r13=>
 W.nilchk t0 fun x14=>
 bx 6 x14 [rm 2 r13] 6 L3 fun x16 r17=>
 W.len x16 fun x18=>
 wd [] 8 (.fn 51 []) [t0,x12,x18] L3 (j2 Q L3 t0 x2 x6 x10))
theorem j3(t0 t1:AV)(L:SH)(Q:R)(h:bn t0 t1 L Q):am Try.prog 48 [t0,t1] L Q:=
 bC ⟨fun _=>none,fun _=>[],fun k=>if k=0 then [3]else [],fun k=>if k=3 then [0,0,2,0,8,24,56,120,255]else if k=10 then [0,1,3,7,0,0,32,96,224,480,1023,2047,4095]else if k=12 then [0,1,3,7,0,0,32,96,224,480,1023,2047,4095]else if k=15 then [0,1,3,7,0,0,32,96,224,480,1023,2047,4095]else if k=17 then [0,1,3,7,0,0,32,96,224,480,1023,2047,4095]else []⟩ Try.func48 (by kernel_rfl) (by kernel_rfl) h
def mj(Q:R)(t0 t3 t4 x6 x12:AV)(L13:SH):Prop:=
 W.nilchk t0 fun x14=>
 W.faddr 8 x14 fun x15=>
 W.store 1 x15 x6 L13 fun L16=>
 W.build [(.int .i64 0),(.int .i64 0),(.int .i64 0),(.int .i64 0),(.int .i64 0),(.int .i64 0)] [(0,1,t3),(1,1,t4)] fun x17=>
 wc (.fn 15 []) [t0,x17] L16 fun x18 L19=>
 Q (.tup []) L19
def ml(Q:R)(t0 t3 t4 x2 x6 x8:AV)(L9:SH):Prop:=
 bo 9 x2 L9 fun x11=>
 wc (.fn 14 []) [t0,x11] L9 (mj Q t0 t3 t4 x6)
def gL(t0 t1 t2 t3 t4:AV)(L:SH)(Q:R):Prop:=
 xb t1 L fun x2 L3=>
 c8 8 t0 L3 fun x6=>
 W.build [(.int .i64 0),(.int .i64 0),(.int .i64 0),(.int .i64 0),(.int .i64 0),(.int .i64 0)] [(0,1,t2),(1,1,t4)] fun x7=>
 wc (.fn 15 []) [t0,x7] L3 (ml Q t0 t3 t4 x2 x6)
theorem mn(t0 t1 t2 t3 t4:AV)(L:SH)(Q:R)(h:gL t0 t1 t2 t3 t4 L Q):am Try.prog 49 [t0,t1,t2,t3,t4] L Q:=
 bC ⟨fun _=>none,fun _=>[],fun k=>if k=0 then [6]else [],fun _=>[]⟩ Try.func49 (by kernel_rfl) (by kernel_rfl) h
def ra(Q:R)(n1:Kn)(L2:SH)(x3 x5 x4:AV):Prop:=
 W.nilchk x3 fun x12=>
 W.faddr 0 x12 fun x13=>
 bo 2 x13 L2 fun x15=>
 gQ 2 0 x15 x5 L2 fun x18=>
 wb .eql 9 x18 x4 fun x19=>
 wk x19 (
 Q x5 L2) (
 wb .add 3 x5 (.int .i64 1) fun x20=>
 n1 [x3,x4,x20] L2)
def ik(Q:R)(v0:Vs)(L2:SH)(n1:Kn):Prop:=
 wu 0 1 5 v0 fun x3 x4 x5=>
 W.nilchk x3 fun x6=>
 W.faddr 0 x6 fun x7=>
 bo 2 x7 L2 fun x9=>
 W.len x9 fun x10=>
 wb .lss 3 x5 x10 fun x11=>
 wk x11 (
 (ra Q n1 L2 x3 x5 x4)) (
 Q (.int .i64 (-1)) L2)
def i4(t0 t1:AV)(L:SH)(Q:R):Prop:=
 W.loop (ik Q) [t0,t1,(.int .i64 0)] L
theorem rb(t0 t1:AV)(L:SH)(Q:R)(h:i4 t0 t1 L Q):am Try.prog 50 [t0,t1] L Q:=
 bC ⟨fun _=>none,fun k=>if k=2 then [0,1,5]else [],fun _=>[],fun _=>[]⟩ Try.func50 (by kernel_rfl) (by kernel_rfl) h
def rd(Q:R)(L51:SH)(x53:AV)(L55:SH)(q54:Ns):Prop:=
 wn [] q54 [] L51.names fun r56=>
 Q (.tup []) L55
def re(Q:R)(L29:SH)(x30 x39 x49:AV)(L51:SH)(q50:Ns):Prop:=
 wn [] q50 [] L29.names fun r52=>
 wd [] 10 (.fn 49 []) [x30,x39,(.int .i64 11),(.int .i64 12),x49] L51 (rd Q L51)
def rh(Q:R)(L29:SH)(x31 x30:AV):Prop:=
 (true=true)∧(
 dr [] 1 11 x31 L29 fun x39 r40=>
 W.nilchk x30 fun x41=>
 W.faddr 0 x41 fun x42=>
 bx 1 x42 [rm 1 r40] 6 L29 fun x44 r45=>
 bx 2 x31 [rm 6 r45,rm 1 r40] 8 L29 fun x47 r48=>
 wd [rm 1 r40] 9 (.fn 33 []) [x44,x47] L29 (re Q L29 x30 x39))
def ri(Q:R)(L70:SH)(x72:AV)(L74:SH)(q73:Ns):Prop:=
 wn [] q73 [] L70.names fun r75=>
 Q (.tup []) L74
def rj(Q:R)(L29:SH)(x30 x58 x68:AV)(L70:SH)(q69:Ns):Prop:=
 wn [] q69 [] L29.names fun r71=>
 wd [] 10 (.fn 49 []) [x30,x58,(.int .i64 13),(.int .i64 14),x68] L70 (ri Q L70)
def rk(Q:R)(L29:SH)(x31 x30:AV):Prop:=
 (true=true)∧(
 dr [] 1 11 x31 L29 fun x58 r59=>
 W.nilchk x30 fun x60=>
 W.faddr 0 x60 fun x61=>
 bx 1 x61 [rm 1 r59] 6 L29 fun x63 r64=>
 bx 2 x31 [rm 6 r64,rm 1 r59] 8 L29 fun x66 r67=>
 wd [rm 1 r59] 9 (.fn 33 []) [x63,x66] L29 (rj Q L29 x30 x58))
def rl(Q:R)(L89:SH)(x91:AV)(L93:SH)(q92:Ns):Prop:=
 wn [] q92 [] L89.names fun r94=>
 Q (.tup []) L93
def rn(Q:R)(L29:SH)(x30 x77 x87:AV)(L89:SH)(q88:Ns):Prop:=
 wn [] q88 [] L29.names fun r90=>
 wd [] 10 (.fn 49 []) [x30,x77,(.int .i64 15),(.int .i64 16),x87] L89 (rl Q L89)
def ro(Q:R)(L29:SH)(x31 x30:AV):Prop:=
 (true=true)∧(
 dr [] 1 11 x31 L29 fun x77 r78=>
 W.nilchk x30 fun x79=>
 W.faddr 0 x79 fun x80=>
 bx 1 x80 [rm 1 r78] 6 L29 fun x82 r83=>
 bx 2 x31 [rm 6 r83,rm 1 r78] 8 L29 fun x85 r86=>
 wd [rm 1 r78] 9 (.fn 33 []) [x82,x85] L29 (rn Q L29 x30 x77))
def rq(Q:R)(x30 x106:AV)(L107:SH):Prop:=
 W.build [(.int .i64 0),(.int .i64 0),(.int .i64 0),(.int .i64 0),(.int .i64 0),(.int .i64 0)] [(0,1,(.int .i64 21)),(1,1,x106)] fun x108=>
 wc (.fn 15 []) [x30,x108] L107 fun x109 L110=>
 Q (.tup []) L110
def rr(Q:R)(x30 x114:AV)(L115:SH):Prop:=
 W.build [(.int .i64 0),(.int .i64 0),(.int .i64 0),(.int .i64 0),(.int .i64 0),(.int .i64 0)] [(0,1,(.int .i64 22)),(1,1,x114)] fun x116=>
 wc (.fn 15 []) [x30,x116] L115 fun x117 L118=>
 Q (.tup []) L118
def rt(Q:R)(x30 x122:AV)(L123:SH):Prop:=
 W.build [(.int .i64 0),(.int .i64 0),(.int .i64 0),(.int .i64 0),(.int .i64 0),(.int .i64 0)] [(0,1,(.int .i64 23)),(1,1,x122)] fun x124=>
 wc (.fn 15 []) [x30,x124] L123 fun x125 L126=>
 Q (.tup []) L126
def ru(Q:R)(L138:SH)(x141:AV)(L143:SH)(q142:Ns):Prop:=
 wn [] q142 [] L138.names fun r144=>
 Q (.tup []) L143
def o8(Q:R)(L29:SH)(x30 x136:AV)(L138:SH)(q137:Ns):Prop:=
 wn [] q137 [] L29.names fun r139=>
 W.build [(.int .i64 0),(.int .i64 0),(.int .i64 0),(.int .i64 0),(.int .i64 0),(.int .i64 0)] [(0,1,(.int .i64 24)),(1,1,x136)] fun x140=>
 wd [] 10 (.fn 15 []) [x30,x140] L138 (ru Q L138)
def rv(Q:R)(L29:SH)(x30 x31:AV):Prop:=
 (true=true)∧(
 W.nilchk x30 fun x128=>
 W.faddr 0 x128 fun x129=>
 bx 4 x129 [] 5 L29 fun x131 r132=>
 bx 2 x31 [rm 5 r132] 7 L29 fun x134 r135=>
 wd [] 8 (.fn 45 []) [x131,x134] L29 (o8 Q L29 x30))
def o9(Q:R)(L156:SH)(x159:AV)(L161:SH)(q160:Ns):Prop:=
 wn [] q160 [] L156.names fun r162=>
 Q (.tup []) L161
def pb(Q:R)(L29:SH)(x30 x154:AV)(L156:SH)(q155:Ns):Prop:=
 wn [] q155 [] L29.names fun r157=>
 W.build [(.int .i64 0),(.int .i64 0),(.int .i64 0),(.int .i64 0),(.int .i64 0),(.int .i64 0)] [(0,1,(.int .i64 25)),(1,1,x154)] fun x158=>
 wd [] 10 (.fn 15 []) [x30,x158] L156 (o9 Q L156)
def rx(Q:R)(L29:SH)(x30 x31:AV):Prop:=
 (true=true)∧(
 W.nilchk x30 fun x146=>
 W.faddr 0 x146 fun x147=>
 bx 4 x147 [] 5 L29 fun x149 r150=>
 bx 2 x31 [rm 5 r150] 7 L29 fun x152 r153=>
 wd [] 8 (.fn 45 []) [x149,x152] L29 (pb Q L29 x30))
def pd(Q:R)(L178:SH)(x181:AV)(L183:SH)(q182:Ns):Prop:=
 wn [] q182 [] L178.names fun r184=>
 Q (.tup []) L183
def pe(Q:R)(L167:SH)(x32 x30 x176:AV)(L178:SH)(q177:Ns):Prop:=
 wn [] q177 [] L167.names fun r179=>
 W.build [(.int .i64 0),(.int .i64 0),(.int .i64 0),(.int .i64 0),(.int .i64 0),(.int .i64 0)] [(0,1,(.int .i64 26)),(1,1,x176),(2,1,x32)] fun x180=>
 wd [] 11 (.fn 15 []) [x30,x180] L178 (pd Q L178)
def pf(Q:R)(x30 x31 x32 x166:AV)(L167:SH):Prop:=
 (true=true)∧(
 W.nilchk x30 fun x168=>
 W.faddr 0 x168 fun x169=>
 bx 3 x169 [] 5 L167 fun x171 r172=>
 bx 2 x31 [rm 5 r172] 7 L167 fun x174 r175=>
 wd [] 8 (.fn 45 []) [x171,x174] L167 (pe Q L167 x32 x30))
def pg(Q:R)(L207:SH)(x210:AV)(L212:SH)(q211:Ns):Prop:=
 wn [] q211 [] L207.names fun r213=>
 Q (.tup []) L212
def ph(Q:R)(L195:SH)(x193 x30 x205:AV)(L207:SH)(q206:Ns):Prop:=
 wn [] q206 [] L195.names fun r208=>
 W.build [(.int .i64 0),(.int .i64 0),(.int .i64 0),(.int .i64 0),(.int .i64 0),(.int .i64 0)] [(0,1,(.int .i64 27)),(1,1,x193),(2,1,x205)] fun x209=>
 wd [] 17 (.fn 15 []) [x30,x209] L207 (pg Q L207)
def pi(Q:R)(L29:SH)(x30 x31:AV)(r192 r189:Fp)(x193:AV)(L195:SH)(q194:Ns):Prop:=
 wn [] q194 [] L29.names fun r196=>
 W.nilchk x30 fun x197=>
 W.faddr 0 x197 fun x198=>
 bx 3 x198 [rc 7 r196,rm 6 r192,rm 4 r189] 12 L195 fun x200 r201=>
 bx 3 x31 [rm 12 r201,rc 7 r196,rm 6 r192,rm 4 r189] 14 L195 fun x203 r204=>
 wd [] 15 (.fn 45 []) [x200,x203] L195 (ph Q L195 x193 x30)
def ry(Q:R)(L29:SH)(x30 x31:AV):Prop:=
 (true=true)∧(
 W.nilchk x30 fun x186=>
 bx 6 x186 [] 4 L29 fun x188 r189=>
 bx 2 x31 [rm 4 r189] 6 L29 fun x191 r192=>
 wd [] 7 (.fn 45 []) [x188,x191] L29 (pi Q L29 x30 x31 r192 r189))
def rA(Q:R)(L29:SH)(x33 x31 x30 x32:AV):Prop:=
 wb .eql 3 x33 (.int .i64 14) fun x163=>
 wk x163 (
 W.faddr 5 x31 fun x164=>
 dy 4 x164 L29 fun x165=>
 wc (.fn 51 []) [x30,x165,x32] L29 (pf Q x30 x31 x32)) (
 wb .eql 3 x33 (.int .i64 15) fun x185=>
 wk x185 (
 (ry Q L29 x30 x31)) (
 Q (.tup []) L29))
def rB(Q:R)(L29:SH)(x33 x30 x31 x32:AV):Prop:=
 wb .eql 3 x33 (.int .i64 12) fun x127=>
 wk x127 (
 (rv Q L29 x30 x31)) (
 wb .eql 3 x33 (.int .i64 13) fun x145=>
 wk x145 (
 (rx Q L29 x30 x31)) (
 (rA Q L29 x33 x31 x30 x32)))
def rC(Q:R)(L29:SH)(x33 x31 x30 x32:AV):Prop:=
 wb .eql 3 x33 (.int .i64 11) fun x119=>
 wk x119 (
 bo 2 x31 L29 fun x121=>
 wc (.fn 50 []) [x30,x121] L29 (rt Q x30)) (
 (rB Q L29 x33 x30 x31 x32))
def rD(Q:R)(L29:SH)(x33 x31 x30 x32:AV):Prop:=
 wb .eql 3 x33 (.int .i64 10) fun x111=>
 wk x111 (
 bo 2 x31 L29 fun x113=>
 wc (.fn 50 []) [x30,x113] L29 (rr Q x30)) (
 (rC Q L29 x33 x31 x30 x32))
def pj(Q:R)(L29:SH)(x33 x31 x30 x32:AV):Prop:=
 wb .eql 3 x33 (.int .i64 9) fun x103=>
 wk x103 (
 bo 2 x31 L29 fun x105=>
 wc (.fn 50 []) [x30,x105] L29 (rq Q x30)) (
 (rD Q L29 x33 x31 x30 x32))
def pk(Q:R)(L29:SH)(x33 x31 x30 x32:AV):Prop:=
 wb .eql 3 x33 (.int .i64 8) fun x99=>
 wk x99 (
 dy 11 x31 L29 fun x100=>
 wc (.fn 49 []) [x30,x100,(.int .i64 19),(.int .i64 20),(.int .i64 0)] L29 fun x101 L102=>
 Q (.tup []) L102) (
 (pj Q L29 x33 x31 x30 x32))
def pn(Q:R)(L29:SH)(x33 x31 x30 x32:AV):Prop:=
 wb .eql 3 x33 (.int .i64 7) fun x95=>
 wk x95 (
 dy 11 x31 L29 fun x96=>
 wc (.fn 49 []) [x30,x96,(.int .i64 17),(.int .i64 18),(.int .i64 0)] L29 fun x97 L98=>
 Q (.tup []) L98) (
 (pk Q L29 x33 x31 x30 x32))
def po(Q:R)(L29:SH)(x33 x31 x30 x32:AV):Prop:=
 wb .eql 3 x33 (.int .i64 5) fun x57=>
 wk x57 (
 (rk Q L29 x31 x30)) (
 wb .eql 3 x33 (.int .i64 6) fun x76=>
 wk x76 (
 (ro Q L29 x31 x30)) (
 (pn Q L29 x33 x31 x30 x32)))
def pp(Q:R)(v27:Vs)(L29:SH):Prop:=
 Ah 0 3 4 25 31 v27 fun x30 x31 x32 x33 x34=>
 wk x34 (
 dy 11 x31 L29 fun x35=>
 wc (.fn 48 []) [x30,x35] L29 fun x36 L37=>
 Q (.tup []) L37) (
 wb .eql 3 x33 (.int .i64 4) fun x38=>
 wk x38 (
 (rh Q L29 x31 x30)) (
 (po Q L29 x33 x31 x30 x32)))
def pq(Q:R)(L16:SH)(t0 x22 x2 x20:AV):Prop:=
 W.join (pp Q) fun j28=>
 wb .eql 3 x22 (.int .i64 2) fun x214=>
 wk x214 (
 j28 [t0,x2,x20,x22,x214] L16) (
 wb .eql 3 x22 (.int .i64 3) fun x215=>
 j28 [t0,x2,x20,x22,x215] L16)
def aI(t0 t1:AV)(L:SH)(Q:R):Prop:=
 xb t1 L fun x2 L3=>
 c8 9 t0 L3 fun x6=>
 W.nilchk t0 fun x7=>
 W.faddr 8 x7 fun x8=>
 W.store 1 x8 x6 L3 fun L9=>
 c8 9 t0 L9 fun x12=>
 wb .add 3 x12 (.int .i64 1) fun x13=>
 W.nilchk t0 fun x14=>
 W.faddr 9 x14 fun x15=>
 W.store 1 x15 x13 L9 fun L16=>
 c8 6 t0 L16 fun x19=>
 W.len x19 fun x20=>
 bo 0 x2 L16 fun x22=>
 wb .eql 3 x22 (.int .i64 1) fun x23=>
 wk x23 (
 dy 11 x2 L16 fun x24=>
 wc (.fn 47 []) [t0,x24] L16 fun x25 L26=>
 Q (.tup []) L26) (
 (pq Q L16 t0 x22 x2 x20))
theorem aH(t0 t1:AV)(L:SH)(Q:R)(h:aI t0 t1 L Q):am Try.prog 35 [t0,t1] L Q:=
 bC ⟨fun k=>if k=8 then some [0,3,4,25,31]else none,fun _=>[],fun k=>if k=0 then [3]else [],fun k=>if k=11 then [0,0,0,4,12,28,60,0,128,508,1023]else if k=13 then [0,0,0,4,12,28,60,0,128,508,1023]else if k=15 then [0,0,0,4,12,28,60,0,128,508,1023]else if k=27 then [0,0,2,6,14,30,0,64,254,510,1023]else if k=29 then [0,0,2,6,14,30,0,64,254,510,1023]else if k=32 then [0,0,2,6,14,30,0,64,254,0,1022,2047]else if k=34 then [0,0,2,6,14,0,32,126,0,256,768,1792,3840,0,8192,32766,65534,131071]else []⟩ Try.func35 (by kernel_rfl) (by kernel_rfl) h
def pr(n1:Kn)(x5 x3 x4 x10:AV)(L11:SH):Prop:=
 wb .add 3 x5 (.int .i64 1) fun x12=>
 n1 [x3,x4,x12] L11
def gM(Q:R)(v0:Vs)(L2:SH)(n1:Kn):Prop:=
 wu 0 1 4 v0 fun x3 x4 x5=>
 W.len x4 fun x6=>
 wb .lss 3 x5 x6 fun x7=>
 wk x7 (
 ug 11 x4 x5 L2 fun x9=>
 wc (.fn 35 []) [x3,x9] L2 (pr n1 x5 x3 x4)) (
 Q (.tup []) L2)
def il(t0 t1:AV)(L:SH)(Q:R):Prop:=
 W.loop (gM Q) [t0,t1,(.int .i64 0)] L
theorem pt(t0 t1:AV)(L:SH)(Q:R)(h:il t0 t1 L Q):am Try.prog 14 [t0,t1] L Q:=
 bC ⟨fun _=>none,fun k=>if k=1 then [0,1,4]else [],fun _=>[],fun _=>[]⟩ Try.func14 (by kernel_rfl) (by kernel_rfl) h
def sL(Q:R)(L8:SH)(x2 x9 x10:AV):Prop:=
 W.build [.nils,.nils,.nils,.nils,.nils,.nils,.nils] [] fun x12=>
 W.store 7 x2 x12 L8 fun L13=>
 W.load true 7 x2 L13 fun x14=>
 Q (.tup [x14,x9,x10]) L13
def sM(n104:Kn)(L105:SH)(x112 x114 x115 x106 x107 x108 x109 x110 x111 x113:AV):Prop:=
 (true=true)∧(
 bx 0 x112 [] 1 L105 fun x119 r120=>
 di [rm 1 r120] 4 1 x114 x115 L105 fun x121 r122=>
 dl [rm 1 r120] 5 x121 L105 fun x123 r124=>
 wb .add 3 x123 (.int .i64 1) fun x125=>
 W.mnx true x119 x125 fun x126=>
 W.faddr 0 x112 fun x127=>
 ds [] 9 1 x127 x126 L105 fun L128 r129=>
 wb .add 3 x115 (.int .i64 1) fun x130=>
 n104 [x106,x107,x108,x109,x110,x111,x112,x113,x114,x130] L128)
def fa(n81:Kn)(v103:Vs)(L105:SH)(n104:Kn):Prop:=
 GH 1 2 7 8 9 10 11 12 13 14 v103 fun x106 x107 x108 x109 x110 x111 x112 x113 x114 x115=>
 W.len x114 fun x116=>
 wb .lss 3 x115 x116 fun x117=>
 wk x117 (
 (sM n104 L105 x112 x114 x115 x106 x107 x108 x109 x110 x111 x113)) (
 wb .add 3 x113 (.int .i64 1) fun x131=>
 n81 [x106,x107,x108,x109,x110,x111,x112,x131] L105)
def sN(n81:Kn)(x83 x84 x85 x86 x87 x88 x89 x90 x101:AV)(L102:SH):Prop:=
 W.loop (fa n81) [x83,x84,x85,x86,x87,x88,x89,x90,x101,(.int .i64 0)] L102
def fb(n23:Kn)(L82:SH)(x85 x89 x87 x83 x84 x86:AV):Prop:=
 bo 6 x85 L82 fun x133=>
 dy 2 x89 L82 fun x134=>
 W.bslice 2 [(.int .i64 0),.nils] 1 [(0,x134)] L82 fun x135 L136=>
 W.append 2 32 x133 x135 L136 fun x137 L138=>
 W.faddr 6 x85 fun x139=>
 W.store 1 x139 x137 L138 fun L140=>
 wb .add 3 x87 (.int .i64 1) fun x141=>
 n23 [x83,x84,x85,x86,x141] L140
def fe(n23:Kn)(v80:Vs)(L82:SH)(n81:Kn):Prop:=
 IZ 1 2 7 8 9 10 11 12 v80 fun x83 x84 x85 x86 x87 x88 x89 x90=>
 c8 7 x88 L82 fun x93=>
 W.len x93 fun x94=>
 wb .lss 3 x90 x94 fun x95=>
 wk x95 (
 c8 7 x88 L82 fun x98=>
 ug 6 x98 x90 L82 fun x100=>
 wc (.fn 16 []) [x100] L82 (sN n81 x83 x84 x85 x86 x87 x88 x89 x90)) (
 (fb n23 L82 x85 x89 x87 x83 x84 x86))
def sO(n23:Kn)(x46 x25 x26 x27 x58 x29 x63:AV)(L64:SH):Prop:=
 (true=true)∧(
 W.nilchk x46 fun x65=>
 bx 6 x65 [] 3 L64 fun x67 r68=>
 W.len x67 fun x69=>
 W.nilchk x46 fun x70=>
 bx 7 x70 [rm 3 r68] 8 L64 fun x72 r73=>
 W.build [(.int .i64 0),.nils] [(0,1,x69),(1,1,x72)] fun x74=>
 W.calm [rm 8 r73,rm 3 r68] ⟨10,[],[],[],false,[]⟩ (
 W.alloc [(.int .i64 0),.nils] L64 fun x75 L76=>
 wn [] [] (af x75) [] fun r77=>
 ds [] 11 2 x75 x74 L76 fun L78 r79=>
 W.loop (fe n23) [x25,x26,x27,x58,x29,x46,x75,(.int .i64 0)] L78))
def sP(n23:Kn)(x46 x25 x26 x27 x29 x54:AV)(L55:SH):Prop:=
 c8 9 x46 L55 fun x58=>
 W.nilchk x46 fun x59=>
 W.faddr 8 x59 fun x60=>
 W.store 1 x60 (.int .i64 (-1)) L55 fun L61=>
 W.build [(.int .i64 0),(.int .i64 0),(.int .i64 0),(.int .i64 0),(.int .i64 0),(.int .i64 0)] [(0,1,(.int .i64 28))] fun x62=>
 wc (.fn 15 []) [x46,x62] L61 (sO n23 x46 x25 x26 x27 x58 x29)
def ff(n23:Kn)(L24:SH)(x27 x25 x29 x28 x26:AV):Prop:=
 (true=true)∧(
 W.faddr 0 x27 fun x34=>
 dr [] 1 6 x34 L24 fun x35 r36=>
 bx 1 x25 [rm 1 r36] 3 L24 fun x38 r39=>
 di [rm 1 r36] 5 4 x38 x29 L24 fun x40 r41=>
 bx 2 x40 [rm 1 r36] 7 L24 fun x43 r44=>
 W.build [.nils,.nils,.nils,.nils,.nils,.nils,.nils,.nils,(.int .i64 0),(.int .i64 0)] [(0,6,x35),(6,1,x43),(9,1,x28)] fun x45=>
 W.calm [] ⟨10,[],[],[],false,[]⟩ (
 W.box x45 L24 fun x46 L47=>
 wn [] [] (af x46) [] fun r48=>
 bo 1 x25 L47 fun x50=>
 gQ 4 3 x50 x29 L47 fun x53=>
 wc (.fn 14 []) [x46,x53] L47 (sP n23 x46 x25 x26 x27 x29)))
def i5(Q:R)(v22:Vs)(L24:SH)(n23:Kn):Prop:=
 Ah 1 2 7 8 9 v22 fun x25 x26 x27 x28 x29=>
 bo 1 x25 L24 fun x31=>
 W.len x31 fun x32=>
 wb .lss 3 x29 x32 fun x33=>
 wk x33 (
 (ff n23 L24 x27 x25 x29 x28 x26)) (
 dy 7 x27 L24 fun x142=>
 W.store 7 x26 x142 L24 fun L143=>
 W.load true 7 x26 L143 fun x144=>
 Q (.tup [x144,(.int .i64 0),(.int .i64 0)]) L143)
def sQ(Q:R)(x4 x2 x16:AV)(L17:SH):Prop:=
 W.build [.nils,.nils,.nils,.nils,.nils,.nils,.nils] [(0,6,x16)] fun x18=>
 W.alloc [.nils,.nils,.nils,.nils,.nils,.nils,.nils] L17 fun x19 L20=>
 W.store 7 x19 x18 L20 fun L21=>
 W.loop (i5 Q) [x4,x2,x19,(.int .i64 0),(.int .i64 0)] L21
def sR(Q:R)(x2 x4 x7:AV)(L8:SH):Prop:=
 W.ext 0 x7 fun x9=>
 W.ext 1 x7 fun x10=>
 wb .neq 47 x9 (.int .i64 0) fun x11=>
 wk x11 (
 (sL Q L8 x2 x9 x10)) (
 dy 2 x4 L8 fun x15=>
 wc (.fn 13 []) [x15] L8 (sQ Q x4 x2))
def jP(t0:AV)(L:SH)(Q:R):Prop:=
 W.box t0 L fun x0 L1=>
 W.alloc [.nils,.nils,.nils,.nils,.nils,.nils,.nils] L1 fun x2 L3=>
 W.frz1 x0 L3 fun x4 L5=>
 dy 2 x4 L5 fun x6=>
 wc (.fn 12 []) [x6] L5 (sR Q x2 x4)
theorem sS(t0:AV)(L:SH)(Q:R)(h:jP t0 L Q):am Try.prog 8 [t0] L Q:=
 bC ⟨fun _=>none,fun k=>if k=20 then [1,2,7,8,9,10,11,12,13,14]else if k=16 then [1,2,7,8,9,10,11,12]else if k=7 then [1,2,7,8,9]else [],fun k=>if k=0 then [1]else [],fun k=>if k=9 then [0,1,0,4,0,28,60,124,0,511,1023,2047]else if k=14 then [0,1,3,7,15,0,32,96,224,511,0,2047]else if k=22 then [0,1,0,0,12,28,60,127,255,511]else []⟩ Try.func8 (by kernel_rfl) (by kernel_rfl) h
end Go.Proofs.Ytljkdffikfkcgaa.Am
end
section
namespace Go.Proofs.Ytljkdffikfkcgaa.Am
set_option maxRecDepth 100000
set_option linter.unusedVariables false
structure fq where
 name:aL
 index:Int
 size:Int
 vol:Bool
 init:Int
 deriving Inhabited
def fq.enc(c:fq):List AV:=[.str c.name,.int .i64 c.index,.int .i64 c.size,.bool c.vol,.int .i64 c.init]
structure eB where
 name:aL
 rw:Bool
def eB.enc(c:eB):List AV:=[.str c.name,.bool c.rw]
structure mo where
 name:aL
 mutex:Int
def mo.enc(c:mo):List AV:=[.str c.name,.int .i64 c.mutex]
structure ft where
 thread:Int
 stmt:Int
 line:Int
def ft.enc(c:ft):List AV:=[.int .i64 c.thread,.int .i64 c.stmt,.int .i64 c.line]
structure bj where
 cells:List fq
 locks:List eB
 conds:List mo
 futures:List aL
 threads:List aL
 sites:List ft
def bj.enc(w:bj):List AV:=[.lst (w.cells.map fq.enc),.lst (w.locks.map eB.enc),.lst (w.conds.map mo.enc),.lst (w.futures.map az),.lst (w.threads.map az),.lst (w.sites.map ft.enc)]
def bv(l:List eB)(s:aL):Int:=gg (fun x=>decide (x.name=s)) l 0
def cQ(l:List fq)(s:aL):Int:=gg (fun x=>decide (x.name=s)) l 0
def da(l:List mo)(s:aL):Int:=gg (fun x=>decide (x.name=s)) l 0
theorem fY(l:List eB)(s:aL)(hl:l.length<2^62):aO Try.prog 33 [.lst (l.map eB.enc),.str s] (.int .i64 (bv l s)):=by
 refine jM _ _ _ _ ?_
 unfold gE
 refine cJ l (fun x=>decide (x.name=s)) (fun i=>[.lst (l.map eB.enc),.str s,.int .i64 i]) hl rfl (fun i h1 hd hi hno nx hn=>?_) (fun i h1 hd hno nx=>?_)
 all_goals unfold dX
 ·have hx:=aC (f:=eB.enc) h1
  repeat' (first | refine st ?_ | refine sb (fun nb_ hnb_=>?_) | refine s2 (fun h=>?_) (fun h=>?_) | fail)
  ·exact⟨by rw[bv,gh h1 hno h],rfl⟩
  ·exact hn h
 ·repeat' (first | refine st ?_ | refine sb (fun nb_ hnb_=>?_) | refine s2 (fun h=>?_) (fun h=>?_) | fail)
  exact⟨by rw[bv,eq hno],rfl⟩
theorem k9(w:bj)(s:aL)(hl:w.cells.length<2^62):aO Try.prog 68 [.agg w.enc,.str s] (.int .i64 (cQ w.cells s)):=by
 refine t7 _ _ _ _ ?_
 unfold kM
 refine C7 ?_
 refine cJ w.cells (fun x=>decide (x.name=s)) (fun i=>[.str s,.pptr [w.enc] 0 0,.int .i64 i]) hl rfl (fun i h1 hd hi hno nx hn=>?_) (fun i h1 hd hno nx=>?_)
 all_goals unfold jN
 ·have hx:=aC (f:=fq.enc) h1
  repeat' (first | refine st ?_ | refine sb (fun nb_ hnb_=>?_) | refine s2 (fun h=>?_) (fun h=>?_) | fail)
  ·exact⟨by rw[cQ,gh h1 hno h],rfl⟩
  ·exact hn h
 ·repeat' (first | refine st ?_ | refine sb (fun nb_ hnb_=>?_) | refine s2 (fun h=>?_) (fun h=>?_) | fail)
  exact⟨by rw[cQ,eq hno],rfl⟩
end Go.Proofs.Ytljkdffikfkcgaa.Am
end
section
namespace Go.Proofs.Ytljkdffikfkcgaa.Am
set_option linter.unusedVariables false
mutual
def sT(t:Nat):Nat→aa→List ft
 | n,.mk _ line _ _ _ _ body els=>⟨t,n,line⟩::(sitL t (n+1) body++sitL t (n+1+aa.cnts body) els)
def sitL(t:Nat):Nat→List aa→List ft
 | _,[]=>[]
 | n,x::l=>sT t n x++sitL t (n+1+x.cnt) l
end
theorem E7(t n:Nat)(x:aa):sT t n x=⟨t,n,x.line⟩::(sitL t (n+1) x.body++sitL t (n+1+aa.cnts x.body) x.els):=by cases x;rw[sT];rfl
mutual
theorem zG(t:Nat):∀(n:Nat) (x:aa),(sT t n x).length=1+x.cnt
 | n,.mk a b c d e f body els=>by rw[sT];simp only[List.length_cons,List.length_append,sitL_len t _ body,sitL_len t _ els,aa.cnt];omega
theorem sitL_len(t:Nat):∀(n:Nat) (l:List aa),(sitL t n l).length=aa.cnts l
 | n,[]=>rfl
 | n,x::l=>by rw[sitL];simp only[List.length_append,zG t _ x,sitL_len t _ l,aa.cnts]
end
theorem aa.cnts_append:∀l m:List aa,aa.cnts (l++m)=aa.cnts l+aa.cnts m
 | [],m=>by simp[aa.cnts]
 | x::l,m=>by simp only[List.cons_append,aa.cnts,aa.cnts_append l m];omega
theorem ti(t:Nat):∀(n:Nat) (l m:List aa),sitL t n (l++m)=sitL t n l++sitL t (n+aa.cnts l) m
 | n,[],m=>by simp[sitL,aa.cnts]
 | n,x::l,m=>by
  simp only[List.cons_append,sitL,ti t _ l m,aa.cnts,List.append_assoc]
  rw[show n+1+x.cnt+aa.cnts l=n+(1+x.cnt+aa.cnts l) by omega]
mutual
theorem E8(t:Nat):∀(n:Nat) (x:aa) (k:Nat) (h:k<(sT t n x).length),(sT t n x)[k].thread=t∧(sT t n x)[k].stmt=(n+k:Nat)
 | n,.mk a b c d e f body els,k,h=>by
  simp only[sT]at h ⊢
  cases k with
  | zero=>exact⟨rfl,by simp⟩
  | succ k=>
   simp only[List.getElem_cons_succ]
   by_cases hk:k<(sitL t (n+1) body).length
   ·rw[List.getElem_append_left hk]
    have:=sitL_at t (n+1) body k hk
    refine⟨this.1,this.2.trans ?_⟩
    congr 1;omega
   ·have hk2:k-(sitL t (n+1) body).length<(sitL t (n+1+aa.cnts body) els).length:=by simp only[List.length_cons,List.length_append]at h;omega
    rw[List.getElem_append_right (by omega)]
    have:=sitL_at t (n+1+aa.cnts body) els _ hk2
    refine⟨this.1,this.2.trans ?_⟩
    rw[sitL_len]at hk ⊢
    congr 1;omega
theorem sitL_at(t:Nat):∀(n:Nat) (l:List aa) (k:Nat) (h:k<(sitL t n l).length),(sitL t n l)[k].thread=t∧(sitL t n l)[k].stmt=(n+k:Nat)
 | n,[],k,h=>absurd h (Nat.not_lt_zero _)
 | n,x::l,k,h=>by
  simp only[sitL]at h ⊢
  by_cases hk:k<(sT t n x).length
  ·rw[List.getElem_append_left hk]
   exact E8 t n x k hk
  ·have hk2:k-(sT t n x).length<(sitL t (n+1+x.cnt) l).length:=by simp only[List.length_append]at h;omega
   rw[List.getElem_append_right (by omega)]
   have:=sitL_at t (n+1+x.cnt) l _ hk2
   refine⟨this.1,this.2.trans ?_⟩
   rw[zG]at hk ⊢
   congr 1;omega
end
def av.celW(d:av):List fq:=(List.range (max d.size 1).toNat).map fun k=>⟨d.name,(k:Nat),d.size,decide (d.kind=2),d.init⟩
def bZ(w:bj)(d:av):bj:=
 if d.kind=1∨d.kind=2 then {w with cells:=w.cells++d.celW} else
 if d.kind=3∨d.kind=4 then {w with locks:=w.locks++[⟨d.name,decide (d.kind=4)⟩]} else
 if d.kind=5 then {w with conds:=w.conds++[⟨d.name,bv w.locks d.on⟩]} else {w with futures:=w.futures++[d.name]}
def bj.zero:bj:=⟨[],[],[],[],[],[]⟩
def cD(w:bj)(t:ai):bj:={w with threads:=w.threads++[t.name],sites:=w.sites++sitL w.threads.length 0 t.body}
def bD(p:aK):bj:=p.threads.foldl cD (p.decls.foldl bZ bj.zero)
theorem gN{α β:Type}{f:β→α→β}{l:List α}{a:β}{i:Nat}(h:i<l.length):(l.take (i+1)).foldl f a=f ((l.take i).foldl f a) l[i]:=by
 rw[List.take_succ_eq_append_getElem h,List.foldl_append];rfl
end Go.Proofs.Ytljkdffikfkcgaa.Am
end
section
namespace Go.Proofs.Ytljkdffikfkcgaa.Am
set_option maxRecDepth 100000
set_option maxHeartbeats 2000000
set_option linter.unusedVariables false
def IP(t:Nat)(l:List aa):Prop:=∀(o:Option Nat) (out:List ft) (n:Nat),(o=none→out=[])→out.length+aa.cnts l<2^30→n+aa.cnts l<2^30→
 am Try.prog 34 [au o out.length,.int .i64 t,.int .i64 n,.lst (l.map aa.enc)] (ao o 3 (out.map ft.enc)) fun u K=>∃(v:AV) (o':Option Nat),u=v∧v=.tup [au o' (out++sitL t n l).length,.int .i64 ((n+aa.cnts l:Nat):Int)]∧(o'=none→out++sitL t n l=[])∧K=ao o' 3 ((out++sitL t n l).map ft.enc)
theorem Ax{t n k:Nat}{l:List aa}{o:Option Nat}{out:List ft}{rows:List (List AV)}{L L2:SH}{KL:R}(h:IP t l)(h2:cW o 3 rows L L2)(hr:rows=out.map ft.enc)(hk:k=out.length)(h0:o=none→out=[])(hl:out.length+aa.cnts l<2^30)(hn:n+aa.cnts l<2^30)
  (hq:∀o':Option Nat,(o'=none→out++sitL t n l=[])→KL (.tup [au o' (out++sitL t n l).length,.int .i64 ((n+aa.cnts l:Nat):Int)]) (L2++ao o' 3 ((out++sitL t n l).map ft.enc))):W.callM Try.prog 34 [au o k,.int .i64 t,.int .i64 n,.lst (l.map aa.enc)] L KL:=by
 subst hr hk
 refine kZ (M:=L2) (h o out n h0 hl hn) h2.perm ?_
 rintro _ _ ⟨v,o',rfl,rfl,h3,rfl⟩
 exact⟨_,List.perm_append_comm,hq o' h3⟩
theorem DO(t:Nat):∀(k:Nat) (l:List aa),aa.wts l≤k→k<2^40→IP t l:=by
 intro k
 induction k using Nat.strongRecOn with
 | _ k ih=>
  intro l hl hk o out n h0 h1 h2
  have hlen:=aa.wts_len l
  refine am.fz (vR _ _ _ _ _ _ ?_)
  unfold mN
  generalize hQ:(fun(v:AV) (L:SH)=>∃v2 L2,aV [v] L [v2] L2∧∃(v:AV) (o':Option Nat),_)=Q
  have fin:∀o':Option Nat,(o'=none→out++sitL t n l=[])→Q (.tup [au o' (out++sitL t n l).length,.int .i64 ((n+aa.cnts l:Nat):Int)]) (ao o' 3 ((out++sitL t n l).map ft.enc)):=fun o' h=>by
   subst hQ;exact⟨_,_,.refl _ _,_,o',rfl,rfl,h,rfl⟩
  clear hQ
  refine cH l.length (fun i o'=>([au o' (out++sitL t n (l.take i)).length,.int .i64 t,.int .i64 ((n+aa.cnts (l.take i):Nat):Int),.lst (l.map aa.enc),.int .i64 i],ao o' 3 ((out++sitL t n (l.take i)).map ft.enc))) (fun i o'=>o'=none→out++sitL t n (l.take i)=[]) o (by simpa[sitL]using h0) (by simpa[sitL,aa.cnts]using aV.refl _ _) ?_
  rintro i o1 hi hG
  dsimp only
  unfold kN
  generalize hnx:(fun(vs':List AV) (L':SH)=>∃j o',i<j∧j≤l.length∧_)=nx
  rcases Nat.lt_or_ge i l.length with g1 | g1
  ·have hd:=ct g1
   have hi1:=bH g1 (by omega)
   have hx:=xd g1
   have hwi:=aa.wts_get l i g1
   have hwe:=(l[i]).wt_eq
   have hce:=(l[i]).cnt_eq
   have c1:=ih _ (by omega) l[i].body (Nat.le_refl _) (by omega)
   have c2:=ih _ (by omega) l[i].els (Nat.le_refl _) (by omega)
   have e1:l=l.take i++(l[i]::l.drop (i+1)):=by rw[List.getElem_cons_drop,List.take_append_drop]
   have e2:aa.cnts l=aa.cnts (l.take i)+(1+l[i].cnt+aa.cnts (l.drop (i+1))):=by
    conv=>lhs;rw[e1]
    rw[aa.cnts_append];rfl
   have e3:sitL t n (l.take (i+1))=sitL t n (l.take i)++sT t (n+aa.cnts (l.take i)) l[i]:=by
    rw[List.take_succ_eq_append_getElem g1,ti];simp[sitL]
   have e4:aa.cnts (l.take (i+1))=aa.cnts (l.take i)+(1+l[i].cnt):=by
    rw[List.take_succ_eq_append_getElem g1,aa.cnts_append];simp[aa.cnts]
   have hn:∀(o':Option Nat) (out':List ft) (m:Nat),out'=out++sitL t n (l.take i)++sT t (n+aa.cnts (l.take i)) l[i]→m=n+aa.cnts (l.take i)+(1+l[i].cnt)→(o'=none→out'=[])→∀L':SH,ez L' (ao o' 3 (out'.map ft.enc))→nx [au o' out'.length,.int .i64 t,.int .i64 (m:Nat),.lst (l.map aa.enc),.int .i64 ((i+1:Nat):Int)] L':=by
    intro o' out' m q1 q2 q3 L' q4
    subst hnx
    refine⟨i+1,o',by omega,by omega,?_,?_⟩
    ·rw[e3,←List.append_assoc,←q1];exact q3
    ·rw[e3,←List.append_assoc,←q1,e4,←Nat.add_assoc,←q2];exact .pick q4 rfl
   clear hnx
   have hlo:(out++sitL t n (l.take i)).length=out.length+aa.cnts (l.take i):=by rw[List.length_append,sitL_len]
   generalize out++sitL t n (l.take i)=OUT at *
   generalize hN:n+aa.cnts (l.take i)=N at *
   generalize l[i]=x at *
   have a1:IntKind.i64.wrap ((N:Int)+1)=((N+1:Nat):Int):=by rw[IntWalk.i64_in _ (by omega)];omega
   have ho':o1=none→OUT.map ft.enc=[]:=fun e=>by rw[hG e];rfl
   repeat' (first | refine st ?_ | refine cI rp rp (by simp) (fun e=>by first | simp[ho' e]) (by rfl) (by simp) (by simp;omega) (by simp;omega) (by rfl) (fun nb_ hnb_=>?_) | ((with_reducible refine aq 34 ?_);(refine Ax c1 (o:=some _) (out:=OUT++[⟨t,N,x.line⟩]) rp (by rw[List.map_append];rfl) (by simp) nofun (by simp;omega) (by omega) (fun o_ ho_=>?_);dsimp only[List.cons_append,List.nil_append])) | ((with_reducible refine aq 34 ?_);(refine Ax c2 rp rfl rfl ho_ (by simp[sitL_len];omega) (by omega) (fun o_ ho_=>?_);dsimp only[List.cons_append,List.nil_append])) | refine sb (fun nb_ hnb_=>?_) | refine s2 (fun h=>?_) (fun h=>?_) | fail)
   exact hn o_ _ _ (by simp[E7,List.append_assoc]) (by omega) ho_ _ (.slotl rp)
  ·have hd:=ee g1
   have:i=l.length:=by omega
   subst this
   rw[List.take_length]at *
   repeat' (first | refine st ?_ | refine sb (fun nb_ hnb_=>?_) | refine s2 (fun h=>?_) (fun h=>?_) | fail)
   exact fin _ hG
end Go.Proofs.Ytljkdffikfkcgaa.Am
end
