/- A part of the proof; the statement is proved in the last part. -/
import Derived.Test.YtdnpdghlggbklaaGreatDoorQsD
set_option linter.unusedSimpArgs false
set_option linter.unusedVariables false
namespace Go.Proofs.YtdnpdghlggbklaaGreatDoor.Am
section
set_option maxRecDepth 100000
set_option maxHeartbeats 4000000
def qe:List aZ:=[[109,97,105,110],[116,49],[116,50],[116,51]]
def PH(bm bt b0 bp nmb:Nat)(t:List UInt8)(a:Nat)(th le:Int)(se tx at_ lo:Bool)(o:Option Nat)(ar:List aZ)(oT:Option Nat)(m:Nat)(ts:List ah):SH:=
 (bm,df bt th le se tx at_ lo o 0)::(bt,aO t a)::(b0,⟨2,[[.nils,.nils]]⟩)::(bp,⟨2,[[.lst (bD.map aG.enc),am oT m]]⟩)::(nmb,⟨1,qe.map aq⟩)::(ae oT 4 (ts.map ah.enc)++ae o 1 (ar.map aq))
theorem JA{bh bm bt i j:Nat}{x y:Blk}{o:Option Nat}{rows:List (List AV)}(f1:bh≠bm)(f2:bh≠bt)(f3:∀b,o=some b→bh≠b):∀z∈[rm j ⟨aa (.ptr bh 0 (0+3)),[],[],[]⟩],W.free z ⟨i,[],SH.names ((bm,x)::(bt,y)::ae o 1 rows),[],true,[]⟩:=by
 intro z hz;simp only[VR]at hz;subst hz;cases o with
 |none=>simp[rm,W.free,ae,SH.names,aa,dR,f1,f2,f1.symm,f2.symm]
 |some b=>have:=f3 b rfl;simp[rm,W.free,ae,SH.names,aa,dR,f1,f2,f1.symm,f2.symm,this,this.symm]
def PZ(b0 bp:Nat)(ts:List ah):SH:=[(b0,⟨2,[[.nils,.nils]]⟩),(bp,⟨2,[[.lst (bD.map aG.enc),.lst (ts.map ah.enc)]]⟩)]
theorem cN{K:SH}{x y:List AV}(h:iU K x y)(j:Nat)(r r':List AV)(h1:[x][j]? =some r)(h2:[y][j]? =some r'):iU K r r':=by
 match j with
 |0=>cases h1;cases h2;exact h
 |j+1=>simp at h1
theorem eP{K:SH}{b n:Nat}{ts:List ah}{x:ah}{raw:List AV}{rows:List (List AV)}(hm:(b,⟨4,rows⟩)∈K)(hr:rows=ts.map ah.enc++[raw])(hn:n=ts.length+1)(h:iU K raw x.enc):Fz K (.sl b 0 n) (.lst ((ts++[x]).map ah.enc)):=by
 have e:(ts++[x]).map ah.enc=(ts.map (λt:ah=>(t.enc,t))++[(raw,x)]).map (λy:List AV×ah=>y.2.enc):=by rw[VQ,VQ,List.map_map];rfl
 rw[e];refine Fz.slm (f:=Prod.fst) (g:=λy:List AV×ah=>y.2.enc) hm (by rw[hr,VQ,List.map_map];rfl) Xv (by rw[hn,VT,WX];rfl) (λy hy=>?_) λy hy q a a2 h1 h2=>?_
 ·rcases VY.1 hy with hy|hy
  ·obtain⟨s,_,rfl⟩:=Wm.1 hy;rfl
  ·rw[VR.1 hy];exact h.at_.1
 ·rcases VY.1 hy with hy|hy
  ·obtain⟨s,_,rfl⟩:=Wm.1 hy;replace h1:s.enc[q]? =some a:=h1;replace h2:s.enc[q]? =some a2:=h2;rw[h1]at h2;cases h2;exact .refl _
  ·rw[VR.1 hy]at h1 h2;exact h.at_.2 q a a2 h1 h2
theorem JB{bm bt:Nat}{t:List UInt8}{a r:Nat}{th le:Int}{se tx at_ lo:Bool}{o:Option Nat}{ar:List aZ}{L L1 L2 L3:SH}{i:Nat}{nn:Int}{us:List W.WR}{KN:AV→SH→List Nat→Prop}(hnn:nn=((1+r:Nat):Int))(hr:r<3)(h1:eI bm (df bt th le se tx at_ lo o 0) L L1)(h2:eI bt (aO t a) L1 L2)(h3:dM o 1 (ar.map aq) L2 L3)(ht:t.length<2^40)(ha:a≤t.length)(ho:o=none→ar=[])
  (hf:∀y∈us,W.free y ⟨i,[],SH.names ((bm,df bt th le se tx at_ lo o 0)::(bt,aO t a)::ae o 1 (ar.map aq)),[],true,[]⟩)
  (hq:∀(l:List ab) (a':Nat) (th' le':Int) (se' tx' at' lo':Bool) (o':Option Nat) (ar':List aZ) (ks:List Nat),ab.wts l≤30000→a'≤t.length→(o'=none→ar'=[])→KN (.lst (l.map ab.enc)) ((bm,df bt th' le' se' tx' at' lo' o' 0)::(bt,aO t a')::(ae o' 1 (ar'.map aq)++L3)) ks):W.dcallM Tryz.prog us i 35 [.ptr bm 0 0,.Xw 2,.Xw nn] L KN:=by
 subst hnn;refine O5 (HC 2 Td (1+r) Xr) h1 h2 h3 ht ha ho (WF _) Xv hf ?_;rintro _ a' th' le' se' tx' at' lo' o' ar' ks ⟨l,rfl,hl⟩ q2 q3 q4;refine hq l a' th' le' se' tx' at' lo' o' ar' ks (V2 hl ?_) q2 q3;have:cq 2=10000:=by decide
 rw[this];omega
theorem cU{α:Type}{f:α→List AV}{K:SH}{ts:List α}{x:α}{raw:List AV}(h:iU K raw (f x))(j:Nat)(r r':List AV)(h1:(ts.map f++[raw])[j]? =some r)(h2:((ts++[x]).map f)[j]? =some r'):iU K r r':=by
 rw[VQ]at h2;rcases VO j (ts.map f).length with g|g
 ·rw[V1 g]at h1 h2;rw[h1]at h2;cases h2;exact .refl _ _
 ·rw[VS g]at h1 h2;generalize j-(ts.map f).length=k at h1 h2
  match k with
  |0=>cases h1;cases h2;exact h
  |k+1=>simp at h1
theorem iT(l m:List ab):ab.wts (l++m)=ab.wts l+ab.wts m:=by
 induction l with
 |nil=>simp[ab.wts]
 |cons x l ih=>simp only[W2,ab.wts,ih];omega
def Pd(ps:List (List AV×ab))(l:List ab):List (List AV×ab):=ps++l.map λs=>(s.enc,s)
structure fK(ps:List (List AV×ab)):Prop where
 len:∀y∈ps,y.1.length=11
 fz:∀(K:SH),∀y∈ps,∀(q:Nat) (a a2:AV),y.1[q]? =some a→y.2.row[q]? =some a2→Fz K a a2
theorem fK.pl{ps:List (List AV×ab)}(h:fK ps)(l:List ab):fK (Pd ps l):=by
 constructor
 ·intro y hy;rcases VY.1 hy with hy|hy
  ·exact h.len y hy
  ·obtain⟨s,_,rfl⟩:=Wm.1 hy;show s.enc.length=11;rw[ab.enc_row];rfl
 ·intro K y hy q a a2 h1 h2;rcases VY.1 hy with hy|hy
  ·exact h.fz K y hy q a a2 h1 h2
  ·obtain⟨s,_,rfl⟩:=Wm.1 hy;rw[←ab.enc_row]at h2;replace h1:s.enc[q]? =some a:=h1;replace h2:s.enc[q]? =some a2:=h2;rw[h1]at h2;cases h2;exact .refl _
theorem fK.raw{ps:List (List AV×ab)}(h:fK ps)(op:Int)(nm:aZ):fK (ps++[(FJ op nm,lm op nm)]):=by
 constructor
 ·intro y hy;rcases VY.1 hy with hy|hy
  ·exact h.len y hy
  ·rw[VR.1 hy];rfl
 ·intro K y hy q a a2 h1 h2;rcases VY.1 hy with hy|hy
  ·exact h.fz K y hy q a a2 h1 h2
  ·rw[VR.1 hy]at h1 h2;exact KE q a a2 h1 h2
theorem fK.go{ps:List (List AV×ab)}(h:fK ps){K:SH}{b n:Nat}{rows:List (List AV)}(hm:(b,⟨11,rows⟩)∈K)(hr:rows=ps.map Prod.fst)(hn:n=ps.length):Fz K (.sl b 0 n) (.lst ((ps.map Prod.snd).map ab.enc)):=E6 ps hm hr hn h.len (h.fz K)
theorem kE(ps:List (List AV×ab))(l:List ab):(Pd ps l).map Prod.fst=ps.map Prod.fst++l.map ab.enc:=by simp[Pd,Function.comp]
theorem kF(ps:List (List AV×ab))(l:List ab):(Pd ps l).map Prod.snd=ps.map Prod.snd++l:=by rw[Pd,VQ,List.map_map,show(Prod.snd∘λs:ab=>(s.enc,s))=id from rfl,List.map_id]
theorem kG(ps:List (List AV×ab))(l:List ab):(Pd ps l).length=ps.length+l.length:=by simp[Pd]
theorem Te{n23:Kn}{bm bt b0 bp nmb bh lb a n i:Nat}{t:List UInt8}{th le:Int}{se tx at_ lo:Bool}{o oT oB:Option Nat}{ar:List aZ}{ts:List ah}{ps:List (List AV×ab)}{nm:aZ}
  (ht:t.length<2^40) (ha:a≤t.length) (ho:o=none→ar=[]) (hoT:oT=none→ts=[]) (hoB:oB=none→ps=[]) (hts:ts.length≤4) (hps:ps.length≤4)
  (f1:bh≠bm) (f2:bh≠bt) (f3:∀b,o=some b→bh≠b) (hg:fK ps) (hnm:nm.length≤4) (hpw:ab.wts (ps.map Prod.snd)≤100)
  (hn:∀(x:ah) (a':Nat) (th' le':Int) (se' tx' at' lo':Bool) (o':Option Nat) (ar':List aZ) (nbT:Nat) (L':SH),(ah.wt x≤40000∧x.name=nm∧x.locals=[[97],[98]])→a'≤t.length→(o'=none→ar'=[])→aF [.ptr b0 0 0,.ptr bm 0 0,.ptr bp 0 0,.Xw n,.sl nmb 0 4,.Xw (IntKind.i64.wrap ((i:Int)+1))] L' [.ptr b0 0 0,.ptr bm 0 0,.ptr bp 0 0,.Xw n,.sl nmb 0 4,.Xw (IntKind.i64.wrap ((i:Int)+1))] (PH bm bt b0 bp nmb t a' th' le' se' tx' at' lo' o' ar' (some nbT) (ts.length+1) (ts++[x]))→aF [.ptr b0 0 0,.ptr bm 0 0,.ptr bp 0 0,.Xw n,.sl nmb 0 4,.Xw (IntKind.i64.wrap ((i:Int)+1))] L' [.ptr b0 0 0,.ptr bm 0 0,.ptr bp 0 0,.Xw n,.sl nmb 0 4,.Xw (IntKind.i64.wrap ((i:Int)+1))] (PZ b0 bp (ts++[x]))→n23 [.ptr b0 0 0,.ptr bm 0 0,.ptr bp 0 0,.Xw n,.sl nmb 0 4,.Xw (IntKind.i64.wrap ((i:Int)+1))] L')
  : cf n23 [.ptr b0 0 0,.ptr bm 0 0,.ptr bp 0 0,.Xw n,.sl nmb 0 4,.Xw i,.ptr bh 0 0] ((bh,⟨4,[[.str nm,.Xw 0,.sl lb 0 2,am oB ps.length]]⟩)::(lb,⟨1,[[.str [97]],[.str [98]]]⟩)::(bm,df bt th le se tx at_ lo o 0)::(bt,aO t a)::(b0,⟨2,[[.nils,.nils]]⟩)::(bp,⟨2,[[.lst (bD.map aG.enc),am oT ts.length]]⟩)::(nmb,⟨1,qe.map aq⟩)::(ae oB 11 (ps.map Prod.fst)++(ae oT 4 (ts.map ah.enc)++ae o 1 (ar.map aq)))):=by
 unfold cf df me
 repeat' (first|refine mE (sK ?_ (Qx Xr))|refine st ?_|((with_reducible refine aY 34 ?_);(refine fC ht Xs rp (λr_ a_ hr_ ha_=>?_)))|((with_reducible refine ee 34 ?_);refine CI ht Xs rp (λr_ a_ hr_ ha_=>?_))|((with_reducible refine ee 35 ?_);refine JB rfl Xr rp rp rp ht Xs Xs (JA f1 f2 f3) ?_;rintro l_ a_ th_ le_ se_ tx_ at_ lo_ o_ ar_ ks_ hl_ ha_ ho_;have hl9_:=ab.wts_len l_;rcases o_ with _|ob_;all_goals dsimp only[CG,CH,List.nil_append,List.cons_append])|(refine Dk rp (λx=>by rw[ab.enc_row];rfl) Xu (λe=>by simp[hoB e]) Xr Xr (λx=>by rw[ab.enc_row];rfl) (λo2_ ho2_=>?_);rcases o2_ with _|ob2_;(have e_:=ho2_ rfl;simp only[List.append_eq_nil_iff,List.map_eq_nil_iff]at e_;obtain⟨rfl,rfl⟩:=e_);all_goals dsimp only[CG,CH,List.nil_append,List.cons_append])|refine cm (rows:=[]) (o:=none) rp (.here _) Xt (λ_=>rfl) Xt Xu Xu Xu Xt (λnb_ hnb_=>?_)|refine cm rp rp Xu (λe=>by first|simp[ho2_ e]|simp[hoT e]|simp[hoB e]) Xt Xu (by simp;omega) (by simp;omega) Xt (λnb_ hnb_=>?_)|refine sb λnb_ hnb_=>?_|refine s2 (λh=>?_) λh=>?_|fail)
 all_goals first
  |exact hn ⟨nm,0,[[97],[98]],((Pd ps l_).map Prod.snd)⟩ a_ th_ le_ se_ tx_ at_ lo_ none ar_ nb_ _ ⟨by simp only[ah.wt,kF,iT,VQ,VM,Wv,lm,wz,V8,Wg,WJ,W8];omega,rfl,rfl⟩ ha_ ho_ (aF.rowA (A:=[(bm,_),(bt,_),(b0,_),(bp,_),(nmb,_)]) (b:=nb_) (R:=[]) (rows':=(ts++[_]).map ah.enc) rp Xu (cU (f:=ah.enc) (.cons (.refl _) (.cons (.refl _) (.cons (Fz.sls (l:=[[97],[98]]) (f:=aq) (size:=1) (b:=lb) mm Xt Xv Xt) (.cons ((hg.pl l_).go mm (kE _ _).symm (kG _ _).symm) .nil))))) rfl) (aF.rowA (A:=[(b0,_)]) (b:=bp) (R:=[]) (rows':=[[.lst (bD.map aG.enc),.lst ((ts++[_]).map ah.enc)]]) rp Xt (cN (.cons (.refl _) (.cons (eP (b:=nb_) mm Xt Xt (.cons (.refl _) (.cons (.refl _) (.cons (Fz.sls (l:=[[97],[98]]) (f:=aq) (size:=1) (b:=lb) mm Xt Xv Xt) (.cons ((hg.pl l_).go mm (kE _ _).symm (kG _ _).symm) .nil))))) .nil))) rfl)
  |exact hn ⟨nm,0,[[97],[98]],((Pd ps l_++[(FJ 13 [116,49],lm 13 [116,49])]).map Prod.snd)⟩ a_ th_ le_ se_ tx_ at_ lo_ none ar_ nb_ _ ⟨by simp only[ah.wt,kF,iT,VQ,VM,Wv,lm,wz,V8,Wg,WJ,W8];omega,rfl,rfl⟩ ha_ ho_ (aF.rowA (A:=[(bm,_),(bt,_),(b0,_),(bp,_),(nmb,_)]) (b:=nb_) (R:=[]) (rows':=(ts++[_]).map ah.enc) rp Xu (cU (f:=ah.enc) (.cons (.refl _) (.cons (.refl _) (.cons (Fz.sls (l:=[[97],[98]]) (f:=aq) (size:=1) (b:=lb) mm Xt Xv Xt) (.cons (((hg.pl l_).raw 13 [116,49]).go mm (by rw[VQ,kE];rfl) (by rw[VT,kG];rfl)) .nil))))) rfl) (aF.rowA (A:=[(b0,_)]) (b:=bp) (R:=[]) (rows':=[[.lst (bD.map aG.enc),.lst ((ts++[_]).map ah.enc)]]) rp Xt (cN (.cons (.refl _) (.cons (eP (b:=nb_) mm Xt Xt (.cons (.refl _) (.cons (.refl _) (.cons (Fz.sls (l:=[[97],[98]]) (f:=aq) (size:=1) (b:=lb) mm Xt Xv Xt) (.cons (((hg.pl l_).raw 13 [116,49]).go mm (by rw[VQ,kE];rfl) (by rw[VT,kG];rfl)) .nil))))) .nil))) rfl)
  |exact hn ⟨nm,0,[[97],[98]],[]⟩ a_ th_ le_ se_ tx_ at_ lo_ none ar_ nb_ _ ⟨by simp only[ah.wt,kF,iT,VQ,VM,Wv,lm,wz,V8,Wg,WJ,W8];omega,rfl,rfl⟩ ha_ ho_ (aF.rowA (A:=[(bm,_),(bt,_),(b0,_),(bp,_),(nmb,_)]) (b:=nb_) (R:=[]) (rows':=(ts++[_]).map ah.enc) rp Xu (cU (f:=ah.enc) (.cons (.refl _) (.cons (.refl _) (.cons (Fz.sls (l:=[[97],[98]]) (f:=aq) (size:=1) (b:=lb) mm Xt Xv Xt) (.cons .emp .nil))))) rfl) (aF.rowA (A:=[(b0,_)]) (b:=bp) (R:=[]) (rows':=[[.lst (bD.map aG.enc),.lst ((ts++[_]).map ah.enc)]]) rp Xt (cN (.cons (.refl _) (.cons (eP (b:=nb_) mm Xt Xt (.cons (.refl _) (.cons (.refl _) (.cons (Fz.sls (l:=[[97],[98]]) (f:=aq) (size:=1) (b:=lb) mm Xt Xv Xt) (.cons .emp .nil))))) .nil))) rfl)
  |exact hn ⟨nm,0,[[97],[98]],[lm 13 [116,49]]⟩ a_ th_ le_ se_ tx_ at_ lo_ none ar_ nb_ _ ⟨by simp only[ah.wt,kF,iT,VQ,VM,Wv,lm,wz,V8,Wg,WJ,W8];omega,rfl,rfl⟩ ha_ ho_ (aF.rowA (A:=[(bm,_),(bt,_),(b0,_),(bp,_),(nmb,_)]) (b:=nb_) (R:=[]) (rows':=(ts++[_]).map ah.enc) rp Xu (cU (f:=ah.enc) (.cons (.refl _) (.cons (.refl _) (.cons (Fz.sls (l:=[[97],[98]]) (f:=aq) (size:=1) (b:=lb) mm Xt Xv Xt) (.cons (((fK.mk nofun nofun:fK []).raw 13 [116,49]).go mm Xt Xt) .nil))))) rfl) (aF.rowA (A:=[(b0,_)]) (b:=bp) (R:=[]) (rows':=[[.lst (bD.map aG.enc),.lst ((ts++[_]).map ah.enc)]]) rp Xt (cN (.cons (.refl _) (.cons (eP (b:=nb_) mm Xt Xt (.cons (.refl _) (.cons (.refl _) (.cons (Fz.sls (l:=[[97],[98]]) (f:=aq) (size:=1) (b:=lb) mm Xt Xv Xt) (.cons (((fK.mk nofun nofun:fK []).raw 13 [116,49]).go mm Xt Xt) .nil))))) .nil))) rfl)
  |exact hn ⟨nm,0,[[97],[98]],((Pd ps l_).map Prod.snd)⟩ a_ th_ le_ se_ tx_ at_ lo_ (some ob_) ar_ nb_ _ ⟨by simp only[ah.wt,kF,iT,VQ,VM,Wv,lm,wz,V8,Wg,WJ,W8];omega,rfl,rfl⟩ ha_ ho_ (aF.rowA (A:=[(bm,_),(bt,_),(b0,_),(bp,_),(nmb,_)]) (b:=nb_) (R:=[(ob_,_)]) (rows':=(ts++[_]).map ah.enc) rp Xu (cU (f:=ah.enc) (.cons (.refl _) (.cons (.refl _) (.cons (Fz.sls (l:=[[97],[98]]) (f:=aq) (size:=1) (b:=lb) mm Xt Xv Xt) (.cons ((hg.pl l_).go mm (kE _ _).symm (kG _ _).symm) .nil))))) rfl) (aF.rowA (A:=[(b0,_)]) (b:=bp) (R:=[]) (rows':=[[.lst (bD.map aG.enc),.lst ((ts++[_]).map ah.enc)]]) rp Xt (cN (.cons (.refl _) (.cons (eP (b:=nb_) mm Xt Xt (.cons (.refl _) (.cons (.refl _) (.cons (Fz.sls (l:=[[97],[98]]) (f:=aq) (size:=1) (b:=lb) mm Xt Xv Xt) (.cons ((hg.pl l_).go mm (kE _ _).symm (kG _ _).symm) .nil))))) .nil))) rfl)
  |exact hn ⟨nm,0,[[97],[98]],((Pd ps l_++[(FJ 13 [116,49],lm 13 [116,49])]).map Prod.snd)⟩ a_ th_ le_ se_ tx_ at_ lo_ (some ob_) ar_ nb_ _ ⟨by simp only[ah.wt,kF,iT,VQ,VM,Wv,lm,wz,V8,Wg,WJ,W8];omega,rfl,rfl⟩ ha_ ho_ (aF.rowA (A:=[(bm,_),(bt,_),(b0,_),(bp,_),(nmb,_)]) (b:=nb_) (R:=[(ob_,_)]) (rows':=(ts++[_]).map ah.enc) rp Xu (cU (f:=ah.enc) (.cons (.refl _) (.cons (.refl _) (.cons (Fz.sls (l:=[[97],[98]]) (f:=aq) (size:=1) (b:=lb) mm Xt Xv Xt) (.cons (((hg.pl l_).raw 13 [116,49]).go mm (by rw[VQ,kE];rfl) (by rw[VT,kG];rfl)) .nil))))) rfl) (aF.rowA (A:=[(b0,_)]) (b:=bp) (R:=[]) (rows':=[[.lst (bD.map aG.enc),.lst ((ts++[_]).map ah.enc)]]) rp Xt (cN (.cons (.refl _) (.cons (eP (b:=nb_) mm Xt Xt (.cons (.refl _) (.cons (.refl _) (.cons (Fz.sls (l:=[[97],[98]]) (f:=aq) (size:=1) (b:=lb) mm Xt Xv Xt) (.cons (((hg.pl l_).raw 13 [116,49]).go mm (by rw[VQ,kE];rfl) (by rw[VT,kG];rfl)) .nil))))) .nil))) rfl)
  |exact hn ⟨nm,0,[[97],[98]],[]⟩ a_ th_ le_ se_ tx_ at_ lo_ (some ob_) ar_ nb_ _ ⟨by simp only[ah.wt,kF,iT,VQ,VM,Wv,lm,wz,V8,Wg,WJ,W8];omega,rfl,rfl⟩ ha_ ho_ (aF.rowA (A:=[(bm,_),(bt,_),(b0,_),(bp,_),(nmb,_)]) (b:=nb_) (R:=[(ob_,_)]) (rows':=(ts++[_]).map ah.enc) rp Xu (cU (f:=ah.enc) (.cons (.refl _) (.cons (.refl _) (.cons (Fz.sls (l:=[[97],[98]]) (f:=aq) (size:=1) (b:=lb) mm Xt Xv Xt) (.cons .emp .nil))))) rfl) (aF.rowA (A:=[(b0,_)]) (b:=bp) (R:=[]) (rows':=[[.lst (bD.map aG.enc),.lst ((ts++[_]).map ah.enc)]]) rp Xt (cN (.cons (.refl _) (.cons (eP (b:=nb_) mm Xt Xt (.cons (.refl _) (.cons (.refl _) (.cons (Fz.sls (l:=[[97],[98]]) (f:=aq) (size:=1) (b:=lb) mm Xt Xv Xt) (.cons .emp .nil))))) .nil))) rfl)
  |exact hn ⟨nm,0,[[97],[98]],[lm 13 [116,49]]⟩ a_ th_ le_ se_ tx_ at_ lo_ (some ob_) ar_ nb_ _ ⟨by simp only[ah.wt,kF,iT,VQ,VM,Wv,lm,wz,V8,Wg,WJ,W8];omega,rfl,rfl⟩ ha_ ho_ (aF.rowA (A:=[(bm,_),(bt,_),(b0,_),(bp,_),(nmb,_)]) (b:=nb_) (R:=[(ob_,_)]) (rows':=(ts++[_]).map ah.enc) rp Xu (cU (f:=ah.enc) (.cons (.refl _) (.cons (.refl _) (.cons (Fz.sls (l:=[[97],[98]]) (f:=aq) (size:=1) (b:=lb) mm Xt Xv Xt) (.cons (((fK.mk nofun nofun:fK []).raw 13 [116,49]).go mm Xt Xt) .nil))))) rfl) (aF.rowA (A:=[(b0,_)]) (b:=bp) (R:=[]) (rows':=[[.lst (bD.map aG.enc),.lst ((ts++[_]).map ah.enc)]]) rp Xt (cN (.cons (.refl _) (.cons (eP (b:=nb_) mm Xt Xt (.cons (.refl _) (.cons (.refl _) (.cons (Fz.sls (l:=[[97],[98]]) (f:=aq) (size:=1) (b:=lb) mm Xt Xv Xt) (.cons (((fK.mk nofun nofun:fK []).raw 13 [116,49]).go mm Xt Xt) .nil))))) .nil))) rfl)
end
end Go.Proofs.YtdnpdghlggbklaaGreatDoor.Am
