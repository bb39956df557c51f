/- A part of the proof; the statement is proved in the last part. -/
import Derived.Test.YtdnpdghlggbklaaGreatDoorQtE
set_option linter.unusedSimpArgs false
set_option linter.unusedVariables false
namespace Go.Proofs.YtdnpdghlggbklaaGreatDoor.Am
section
set_option maxRecDepth 100000
set_option maxHeartbeats 4000000
def rn:List bC:=[[109,97,105,110],[116,49],[116,50],[116,51]]
def PH(bm bt b0 bp nmb:Nat)(t:List UInt8)(a:Nat)(th le:Int)(se tx at_ lo:Bool)(o:Option Nat)(ar:List bC)(oT:Option Nat)(m:Nat)(ts:List ah):SH:=
 (bm,dx bt th le se tx at_ lo o 0)::(bt,aR t a)::(b0,⟨2,[[.nils,.nils]]⟩)::(bp,⟨2,[[.lst (bM.map aJ.enc),ao oT m]]⟩)::(nmb,⟨1,rn.map av⟩)::(ae oT 4 (ts.map ah.enc)++ae o 1 (ar.map av))
theorem La{bh bm bt i j:Nat}{x y:Blk}{o:Option Nat}{rows:List (List AV)}(f1:bh≠bm)(f2:bh≠bt)(f3:∀b,o=some b→bh≠b):∀z∈[rm j ⟨aa (.ptr bh 0 (0+3)),[],[],[]⟩],W.free z ⟨i,[],SH.names ((bm,x)::(bt,y)::ae o 1 rows),[],true,[]⟩:=by
 intro z hz;simp only[Ye]at hz;subst hz;cases o with
 |none=>simp[rm,W.free,ae,SH.names,aa,ed,f1,f2,f1.symm,f2.symm]
 |some b=>have:=f3 b rfl;simp[rm,W.free,ae,SH.names,aa,ed,f1,f2,f1.symm,f2.symm,this,this.symm]
def PZ(b0 bp:Nat)(ts:List ah):SH:=[(b0,⟨2,[[.nils,.nils]]⟩),(bp,⟨2,[[.lst (bM.map aJ.enc),.lst (ts.map ah.enc)]]⟩)]
theorem cR{K:SH}{x y:List AV}(h:iV K x y)(j:Nat)(r r':List AV)(h1:[x][j]? =some r)(h2:[y][j]? =some r'):iV K r r':=by
 match j with
 |0=>cases h1;cases h2;exact h
 |j+1=>simp at h1
theorem fj{K:SH}{b n:Nat}{ts:List ah}{x:ah}{raw:List AV}{rows:List (List AV)}(hm:(b,⟨4,rows⟩)∈K)(hr:rows=ts.map ah.enc++[raw])(hn:n=ts.length+1)(h:iV K raw x.enc):Fz K (.sl b 0 n) (.lst ((ts++[x]).map ah.enc)):=by
 have e:(ts++[x]).map ah.enc=(ts.map (λt:ah=>(t.enc,t))++[(raw,x)]).map (λy:List AV×ah=>y.2.enc):=by rw[Yc,Yc,List.map_map];rfl
 rw[e];refine Fz.slm (f:=Prod.fst) (g:=λy:List AV×ah=>y.2.enc) hm (by rw[hr,Yc,List.map_map];rfl) ZN (by rw[hn,Yf,Y9];rfl) (λy hy=>?_) λy hy q a a2 h1 h2=>?_
 ·rcases Yg.1 hy with hy|hy
  ·obtain⟨s,_,rfl⟩:=YH.1 hy;rfl
  ·rw[Ye.1 hy];exact h.at_.1
 ·rcases Yg.1 hy with hy|hy
  ·obtain⟨s,_,rfl⟩:=YH.1 hy;replace h1:s.enc[q]? =some a:=h1;replace h2:s.enc[q]? =some a2:=h2;rw[h1]at h2;cases h2;exact .refl _
  ·rw[Ye.1 hy]at h1 h2;exact h.at_.2 q a a2 h1 h2
theorem Lb{bm bt:Nat}{t:List UInt8}{a r:Nat}{th le:Int}{se tx at_ lo:Bool}{o:Option Nat}{ar:List bC}{L L1 L2 L3:SH}{i:Nat}{nn:Int}{us:List W.WR}{KN:AV→SH→List Nat→Prop}(hnn:nn=((1+r:Nat):Int))(hr:r<3)(h1:eP bm (dx bt th le se tx at_ lo o 0) L L1)(h2:eP bt (aR t a) L1 L2)(h3:dW o 1 (ar.map av) L2 L3)(ht:t.length<2^40)(ha:a≤t.length)(ho:o=none→ar=[])
  (hf:∀y∈us,W.free y ⟨i,[],SH.names ((bm,dx bt th le se tx at_ lo o 0)::(bt,aR t a)::ae o 1 (ar.map av)),[],true,[]⟩)
  (hq:∀(l:List ab) (a':Nat) (th' le':Int) (se' tx' at' lo':Bool) (o':Option Nat) (ar':List bC) (ks:List Nat),ab.wts l≤30000→a'≤t.length→(o'=none→ar'=[])→KN (.lst (l.map ab.enc)) ((bm,dx bt th' le' se' tx' at' lo' o' 0)::(bt,aR t a')::(ae o' 1 (ar'.map av)++L3)) ks):W.dcallM Tryz.prog us i 35 [.ptr bm 0 0,.ZO 2,.ZO nn] L KN:=by
 subst hnn;refine Rb (Ja 2 Vp (1+r) ZJ) h1 h2 h3 ht ha ho (YK _) ZN hf ?_;rintro _ a' th' le' se' tx' at' lo' o' ar' ks ⟨l,rfl,hl⟩ q2 q3 q4;refine hq l a' th' le' se' tx' at' lo' o' ar' ks (Yn hl ?_) q2 q3;have:cB 2=10000:=by decide
 rw[this];omega
theorem cZ{α:Type}{f:α→List AV}{K:SH}{ts:List α}{x:α}{raw:List AV}(h:iV K raw (f x))(j:Nat)(r r':List AV)(h1:(ts.map f++[raw])[j]? =some r)(h2:((ts++[x]).map f)[j]? =some r'):iV K r r':=by
 rw[Yc]at h2;rcases X9 j (ts.map f).length with g|g
 ·rw[Yp g]at h1 h2;rw[h1]at h2;cases h2;exact .refl _ _
 ·rw[Yh g]at h1 h2;generalize j-(ts.map f).length=k at h1 h2
  match k with
  |0=>cases h1;cases h2;exact h
  |k+1=>simp at h1
theorem jr(l m:List ab):ab.wts (l++m)=ab.wts l+ab.wts m:=by
 induction l with
 |nil=>simp[ab.wts]
 |cons x l ih=>simp only[Zn,ab.wts,ih];omega
def Rj(ps:List (List AV×ab))(l:List ab):List (List AV×ab):=ps++l.map λs=>(s.enc,s)
structure gh(ps:List (List AV×ab)):Prop where
 len:∀y∈ps,y.1.length=11
 fz:∀(K:SH),∀y∈ps,∀(q:Nat) (a a2:AV),y.1[q]? =some a→y.2.row[q]? =some a2→Fz K a a2
theorem gh.pl{ps:List (List AV×ab)}(h:gh ps)(l:List ab):gh (Rj ps l):=by
 constructor
 ·intro y hy;rcases Yg.1 hy with hy|hy
  ·exact h.len y hy
  ·obtain⟨s,_,rfl⟩:=YH.1 hy;show s.enc.length=11;rw[ab.enc_row];rfl
 ·intro K y hy q a a2 h1 h2;rcases Yg.1 hy with hy|hy
  ·exact h.fz K y hy q a a2 h1 h2
  ·obtain⟨s,_,rfl⟩:=YH.1 hy;rw[←ab.enc_row]at h2;replace h1:s.enc[q]? =some a:=h1;replace h2:s.enc[q]? =some a2:=h2;rw[h1]at h2;cases h2;exact .refl _
theorem gh.raw{ps:List (List AV×ab)}(h:gh ps)(op:Int)(nm:bC):gh (ps++[(G2 op nm,lZ op nm)]):=by
 constructor
 ·intro y hy;rcases Yg.1 hy with hy|hy
  ·exact h.len y hy
  ·rw[Ye.1 hy];rfl
 ·intro K y hy q a a2 h1 h2;rcases Yg.1 hy with hy|hy
  ·exact h.fz K y hy q a a2 h1 h2
  ·rw[Ye.1 hy]at h1 h2;exact Mo q a a2 h1 h2
theorem gh.go{ps:List (List AV×ab)}(h:gh ps){K:SH}{b n:Nat}{rows:List (List AV)}(hm:(b,⟨11,rows⟩)∈K)(hr:rows=ps.map Prod.fst)(hn:n=ps.length):Fz K (.sl b 0 n) (.lst ((ps.map Prod.snd).map ab.enc)):=Gv ps hm hr hn h.len (h.fz K)
theorem lv(ps:List (List AV×ab))(l:List ab):(Rj ps l).map Prod.fst=ps.map Prod.fst++l.map ab.enc:=by simp[Rj,Function.comp]
theorem lw(ps:List (List AV×ab))(l:List ab):(Rj ps l).map Prod.snd=ps.map Prod.snd++l:=by rw[Rj,Yc,List.map_map,show(Prod.snd∘λs:ab=>(s.enc,s))=id from rfl,List.map_id]
theorem lx(ps:List (List AV×ab))(l:List ab):(Rj ps l).length=ps.length+l.length:=by simp[Rj]
theorem Vq{n23:Kn}{bm bt b0 bp nmb bh lb a n i:Nat}{t:List UInt8}{th le:Int}{se tx at_ lo:Bool}{o oT oB:Option Nat}{ar:List bC}{ts:List ah}{ps:List (List AV×ab)}{nm:bC}
  (ht:t.length<2^40) (ha:a≤t.length) (ho:o=none→ar=[]) (hoT:oT=none→ts=[]) (hoB:oB=none→ps=[]) (hts:ts.length≤4) (hps:ps.length≤4)
  (f1:bh≠bm) (f2:bh≠bt) (f3:∀b,o=some b→bh≠b) (hg:gh ps) (hnm:nm.length≤4) (hpw:ab.wts (ps.map Prod.snd)≤100)
  (hn:∀(x:ah) (a':Nat) (th' le':Int) (se' tx' at' lo':Bool) (o':Option Nat) (ar':List bC) (nbT:Nat) (L':SH),(ah.wt x≤40000∧x.name=nm∧x.locals=[[97],[98]])→a'≤t.length→(o'=none→ar'=[])→aG [.ptr b0 0 0,.ptr bm 0 0,.ptr bp 0 0,.ZO n,.sl nmb 0 4,.ZO (IntKind.i64.wrap ((i:Int)+1))] L' [.ptr b0 0 0,.ptr bm 0 0,.ptr bp 0 0,.ZO n,.sl nmb 0 4,.ZO (IntKind.i64.wrap ((i:Int)+1))] (PH bm bt b0 bp nmb t a' th' le' se' tx' at' lo' o' ar' (some nbT) (ts.length+1) (ts++[x]))→aG [.ptr b0 0 0,.ptr bm 0 0,.ptr bp 0 0,.ZO n,.sl nmb 0 4,.ZO (IntKind.i64.wrap ((i:Int)+1))] L' [.ptr b0 0 0,.ptr bm 0 0,.ptr bp 0 0,.ZO n,.sl nmb 0 4,.ZO (IntKind.i64.wrap ((i:Int)+1))] (PZ b0 bp (ts++[x]))→n23 [.ptr b0 0 0,.ptr bm 0 0,.ptr bp 0 0,.ZO n,.sl nmb 0 4,.ZO (IntKind.i64.wrap ((i:Int)+1))] L')
  : cl n23 [.ptr b0 0 0,.ptr bm 0 0,.ptr bp 0 0,.ZO n,.sl nmb 0 4,.ZO i,.ptr bh 0 0] ((bh,⟨4,[[.str nm,.ZO 0,.sl lb 0 2,ao oB ps.length]]⟩)::(lb,⟨1,[[.str [97]],[.str [98]]]⟩)::(bm,dx bt th le se tx at_ lo o 0)::(bt,aR t a)::(b0,⟨2,[[.nils,.nils]]⟩)::(bp,⟨2,[[.lst (bM.map aJ.enc),ao oT ts.length]]⟩)::(nmb,⟨1,rn.map av⟩)::(ae oB 11 (ps.map Prod.fst)++(ae oT 4 (ts.map ah.enc)++ae o 1 (ar.map av)))):=by
 unfold cl dx mX
 repeat' (first|refine nK (ue ?_ (SI ZJ))|refine st ?_|((with_reducible refine bz 34 ?_);(refine fW ht ZK rp (λr_ a_ hr_ ha_=>?_)))|((with_reducible refine eD 34 ?_);refine DY ht ZK rp (λr_ a_ hr_ ha_=>?_))|((with_reducible refine eD 35 ?_);refine Lb rfl ZJ rp rp rp ht ZK ZK (La f1 f2 f3) ?_;rintro l_ a_ th_ le_ se_ tx_ at_ lo_ o_ ar_ ks_ hl_ ha_ ho_;have hl9_:=ab.wts_len l_;rcases o_ with _|ob_;all_goals dsimp only[DW,DX,List.nil_append,List.cons_append])|(refine EB rp (λx=>by rw[ab.enc_row];rfl) ZM (λe=>by simp[hoB e]) ZJ ZJ (λx=>by rw[ab.enc_row];rfl) (λo2_ ho2_=>?_);rcases o2_ with _|ob2_;(have e_:=ho2_ rfl;simp only[List.append_eq_nil_iff,List.map_eq_nil_iff]at e_;obtain⟨rfl,rfl⟩:=e_);all_goals dsimp only[DW,DX,List.nil_append,List.cons_append])|refine cx (rows:=[]) (o:=none) rp (.here _) ZL (λ_=>rfl) ZL ZM ZM ZM ZL (λnb_ hnb_=>?_)|refine cx rp rp ZM (λe=>by first|simp[ho2_ e]|simp[hoT e]|simp[hoB e]) ZL ZM (by simp;omega) (by simp;omega) ZL (λnb_ hnb_=>?_)|refine sb λnb_ hnb_=>?_|refine s2 (λh=>?_) λh=>?_|fail)
 all_goals first
  |exact hn ⟨nm,0,[[97],[98]],((Rj ps l_).map Prod.snd)⟩ a_ th_ le_ se_ tx_ at_ lo_ none ar_ nb_ _ ⟨by simp only[ah.wt,lw,jr,Yc,Yb,YT,lZ,wz,Ys,YC,Y8,Zt];omega,rfl,rfl⟩ ha_ ho_ (aG.rowA (A:=[(bm,_),(bt,_),(b0,_),(bp,_),(nmb,_)]) (b:=nb_) (R:=[]) (rows':=(ts++[_]).map ah.enc) rp ZM (cZ (f:=ah.enc) (.cons (.refl _) (.cons (.refl _) (.cons (Fz.sls (l:=[[97],[98]]) (f:=av) (size:=1) (b:=lb) mm ZL ZN ZL) (.cons ((hg.pl l_).go mm (lv _ _).symm (lx _ _).symm) .nil))))) rfl) (aG.rowA (A:=[(b0,_)]) (b:=bp) (R:=[]) (rows':=[[.lst (bM.map aJ.enc),.lst ((ts++[_]).map ah.enc)]]) rp ZL (cR (.cons (.refl _) (.cons (fj (b:=nb_) mm ZL ZL (.cons (.refl _) (.cons (.refl _) (.cons (Fz.sls (l:=[[97],[98]]) (f:=av) (size:=1) (b:=lb) mm ZL ZN ZL) (.cons ((hg.pl l_).go mm (lv _ _).symm (lx _ _).symm) .nil))))) .nil))) rfl)
  |exact hn ⟨nm,0,[[97],[98]],((Rj ps l_++[(G2 13 [116,49],lZ 13 [116,49])]).map Prod.snd)⟩ a_ th_ le_ se_ tx_ at_ lo_ none ar_ nb_ _ ⟨by simp only[ah.wt,lw,jr,Yc,Yb,YT,lZ,wz,Ys,YC,Y8,Zt];omega,rfl,rfl⟩ ha_ ho_ (aG.rowA (A:=[(bm,_),(bt,_),(b0,_),(bp,_),(nmb,_)]) (b:=nb_) (R:=[]) (rows':=(ts++[_]).map ah.enc) rp ZM (cZ (f:=ah.enc) (.cons (.refl _) (.cons (.refl _) (.cons (Fz.sls (l:=[[97],[98]]) (f:=av) (size:=1) (b:=lb) mm ZL ZN ZL) (.cons (((hg.pl l_).raw 13 [116,49]).go mm (by rw[Yc,lv];rfl) (by rw[Yf,lx];rfl)) .nil))))) rfl) (aG.rowA (A:=[(b0,_)]) (b:=bp) (R:=[]) (rows':=[[.lst (bM.map aJ.enc),.lst ((ts++[_]).map ah.enc)]]) rp ZL (cR (.cons (.refl _) (.cons (fj (b:=nb_) mm ZL ZL (.cons (.refl _) (.cons (.refl _) (.cons (Fz.sls (l:=[[97],[98]]) (f:=av) (size:=1) (b:=lb) mm ZL ZN ZL) (.cons (((hg.pl l_).raw 13 [116,49]).go mm (by rw[Yc,lv];rfl) (by rw[Yf,lx];rfl)) .nil))))) .nil))) rfl)
  |exact hn ⟨nm,0,[[97],[98]],[]⟩ a_ th_ le_ se_ tx_ at_ lo_ none ar_ nb_ _ ⟨by simp only[ah.wt,lw,jr,Yc,Yb,YT,lZ,wz,Ys,YC,Y8,Zt];omega,rfl,rfl⟩ ha_ ho_ (aG.rowA (A:=[(bm,_),(bt,_),(b0,_),(bp,_),(nmb,_)]) (b:=nb_) (R:=[]) (rows':=(ts++[_]).map ah.enc) rp ZM (cZ (f:=ah.enc) (.cons (.refl _) (.cons (.refl _) (.cons (Fz.sls (l:=[[97],[98]]) (f:=av) (size:=1) (b:=lb) mm ZL ZN ZL) (.cons .emp .nil))))) rfl) (aG.rowA (A:=[(b0,_)]) (b:=bp) (R:=[]) (rows':=[[.lst (bM.map aJ.enc),.lst ((ts++[_]).map ah.enc)]]) rp ZL (cR (.cons (.refl _) (.cons (fj (b:=nb_) mm ZL ZL (.cons (.refl _) (.cons (.refl _) (.cons (Fz.sls (l:=[[97],[98]]) (f:=av) (size:=1) (b:=lb) mm ZL ZN ZL) (.cons .emp .nil))))) .nil))) rfl)
  |exact hn ⟨nm,0,[[97],[98]],[lZ 13 [116,49]]⟩ a_ th_ le_ se_ tx_ at_ lo_ none ar_ nb_ _ ⟨by simp only[ah.wt,lw,jr,Yc,Yb,YT,lZ,wz,Ys,YC,Y8,Zt];omega,rfl,rfl⟩ ha_ ho_ (aG.rowA (A:=[(bm,_),(bt,_),(b0,_),(bp,_),(nmb,_)]) (b:=nb_) (R:=[]) (rows':=(ts++[_]).map ah.enc) rp ZM (cZ (f:=ah.enc) (.cons (.refl _) (.cons (.refl _) (.cons (Fz.sls (l:=[[97],[98]]) (f:=av) (size:=1) (b:=lb) mm ZL ZN ZL) (.cons (((gh.mk nofun nofun:gh []).raw 13 [116,49]).go mm ZL ZL) .nil))))) rfl) (aG.rowA (A:=[(b0,_)]) (b:=bp) (R:=[]) (rows':=[[.lst (bM.map aJ.enc),.lst ((ts++[_]).map ah.enc)]]) rp ZL (cR (.cons (.refl _) (.cons (fj (b:=nb_) mm ZL ZL (.cons (.refl _) (.cons (.refl _) (.cons (Fz.sls (l:=[[97],[98]]) (f:=av) (size:=1) (b:=lb) mm ZL ZN ZL) (.cons (((gh.mk nofun nofun:gh []).raw 13 [116,49]).go mm ZL ZL) .nil))))) .nil))) rfl)
  |exact hn ⟨nm,0,[[97],[98]],((Rj ps l_).map Prod.snd)⟩ a_ th_ le_ se_ tx_ at_ lo_ (some ob_) ar_ nb_ _ ⟨by simp only[ah.wt,lw,jr,Yc,Yb,YT,lZ,wz,Ys,YC,Y8,Zt];omega,rfl,rfl⟩ ha_ ho_ (aG.rowA (A:=[(bm,_),(bt,_),(b0,_),(bp,_),(nmb,_)]) (b:=nb_) (R:=[(ob_,_)]) (rows':=(ts++[_]).map ah.enc) rp ZM (cZ (f:=ah.enc) (.cons (.refl _) (.cons (.refl _) (.cons (Fz.sls (l:=[[97],[98]]) (f:=av) (size:=1) (b:=lb) mm ZL ZN ZL) (.cons ((hg.pl l_).go mm (lv _ _).symm (lx _ _).symm) .nil))))) rfl) (aG.rowA (A:=[(b0,_)]) (b:=bp) (R:=[]) (rows':=[[.lst (bM.map aJ.enc),.lst ((ts++[_]).map ah.enc)]]) rp ZL (cR (.cons (.refl _) (.cons (fj (b:=nb_) mm ZL ZL (.cons (.refl _) (.cons (.refl _) (.cons (Fz.sls (l:=[[97],[98]]) (f:=av) (size:=1) (b:=lb) mm ZL ZN ZL) (.cons ((hg.pl l_).go mm (lv _ _).symm (lx _ _).symm) .nil))))) .nil))) rfl)
  |exact hn ⟨nm,0,[[97],[98]],((Rj ps l_++[(G2 13 [116,49],lZ 13 [116,49])]).map Prod.snd)⟩ a_ th_ le_ se_ tx_ at_ lo_ (some ob_) ar_ nb_ _ ⟨by simp only[ah.wt,lw,jr,Yc,Yb,YT,lZ,wz,Ys,YC,Y8,Zt];omega,rfl,rfl⟩ ha_ ho_ (aG.rowA (A:=[(bm,_),(bt,_),(b0,_),(bp,_),(nmb,_)]) (b:=nb_) (R:=[(ob_,_)]) (rows':=(ts++[_]).map ah.enc) rp ZM (cZ (f:=ah.enc) (.cons (.refl _) (.cons (.refl _) (.cons (Fz.sls (l:=[[97],[98]]) (f:=av) (size:=1) (b:=lb) mm ZL ZN ZL) (.cons (((hg.pl l_).raw 13 [116,49]).go mm (by rw[Yc,lv];rfl) (by rw[Yf,lx];rfl)) .nil))))) rfl) (aG.rowA (A:=[(b0,_)]) (b:=bp) (R:=[]) (rows':=[[.lst (bM.map aJ.enc),.lst ((ts++[_]).map ah.enc)]]) rp ZL (cR (.cons (.refl _) (.cons (fj (b:=nb_) mm ZL ZL (.cons (.refl _) (.cons (.refl _) (.cons (Fz.sls (l:=[[97],[98]]) (f:=av) (size:=1) (b:=lb) mm ZL ZN ZL) (.cons (((hg.pl l_).raw 13 [116,49]).go mm (by rw[Yc,lv];rfl) (by rw[Yf,lx];rfl)) .nil))))) .nil))) rfl)
  |exact hn ⟨nm,0,[[97],[98]],[]⟩ a_ th_ le_ se_ tx_ at_ lo_ (some ob_) ar_ nb_ _ ⟨by simp only[ah.wt,lw,jr,Yc,Yb,YT,lZ,wz,Ys,YC,Y8,Zt];omega,rfl,rfl⟩ ha_ ho_ (aG.rowA (A:=[(bm,_),(bt,_),(b0,_),(bp,_),(nmb,_)]) (b:=nb_) (R:=[(ob_,_)]) (rows':=(ts++[_]).map ah.enc) rp ZM (cZ (f:=ah.enc) (.cons (.refl _) (.cons (.refl _) (.cons (Fz.sls (l:=[[97],[98]]) (f:=av) (size:=1) (b:=lb) mm ZL ZN ZL) (.cons .emp .nil))))) rfl) (aG.rowA (A:=[(b0,_)]) (b:=bp) (R:=[]) (rows':=[[.lst (bM.map aJ.enc),.lst ((ts++[_]).map ah.enc)]]) rp ZL (cR (.cons (.refl _) (.cons (fj (b:=nb_) mm ZL ZL (.cons (.refl _) (.cons (.refl _) (.cons (Fz.sls (l:=[[97],[98]]) (f:=av) (size:=1) (b:=lb) mm ZL ZN ZL) (.cons .emp .nil))))) .nil))) rfl)
  |exact hn ⟨nm,0,[[97],[98]],[lZ 13 [116,49]]⟩ a_ th_ le_ se_ tx_ at_ lo_ (some ob_) ar_ nb_ _ ⟨by simp only[ah.wt,lw,jr,Yc,Yb,YT,lZ,wz,Ys,YC,Y8,Zt];omega,rfl,rfl⟩ ha_ ho_ (aG.rowA (A:=[(bm,_),(bt,_),(b0,_),(bp,_),(nmb,_)]) (b:=nb_) (R:=[(ob_,_)]) (rows':=(ts++[_]).map ah.enc) rp ZM (cZ (f:=ah.enc) (.cons (.refl _) (.cons (.refl _) (.cons (Fz.sls (l:=[[97],[98]]) (f:=av) (size:=1) (b:=lb) mm ZL ZN ZL) (.cons (((gh.mk nofun nofun:gh []).raw 13 [116,49]).go mm ZL ZL) .nil))))) rfl) (aG.rowA (A:=[(b0,_)]) (b:=bp) (R:=[]) (rows':=[[.lst (bM.map aJ.enc),.lst ((ts++[_]).map ah.enc)]]) rp ZL (cR (.cons (.refl _) (.cons (fj (b:=nb_) mm ZL ZL (.cons (.refl _) (.cons (.refl _) (.cons (Fz.sls (l:=[[97],[98]]) (f:=av) (size:=1) (b:=lb) mm ZL ZN ZL) (.cons (((gh.mk nofun nofun:gh []).raw 13 [116,49]).go mm ZL ZL) .nil))))) .nil))) rfl)
end
end Go.Proofs.YtdnpdghlggbklaaGreatDoor.Am
