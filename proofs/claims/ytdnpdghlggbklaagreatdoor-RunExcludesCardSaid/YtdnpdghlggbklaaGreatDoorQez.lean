/- A part of the proof; the statement is proved in the last part. -/
import Derived.Test.YtdnpdghlggbklaaGreatDoorQey
set_option linter.unusedSimpArgs false
set_option linter.unusedVariables false
namespace Go.Proofs.YtdnpdghlggbklaaGreatDoor.Am
section
set_option maxRecDepth 100000
theorem OU(d:Nat)(hU:df d)(hU0:df 0)(hd9:d≤5):OP (d+1):=by
 intro bm bt t a th le se tx at_ lo o ar k ht ha ho hk hd;refine af.fz (jQ _ _ _ _ ?_);unfold gr;generalize hQ:(λ(v:AV) (L:SH)=>∃v2 L2,aJ [v] L [v2] L2∧∃(v:AV) (a':Nat) (th' le':Int) (se' tx' at' lo':Bool) (o':Option Nat) (ar':List aZ),v2=v∧OO (d+1) v∧a'≤t.length∧(o'=none→ar'=[])∧k≤ar'.length∧L2=(bm,de bt th' le' se' tx' at' lo' o' k)::(bt,aN t a')::ae o' 1 (ar'.map au))=Q;have hb:cq (d+1)=10*cq d:=by simp only[cq,Nat.pow_succ];omega
 have hb1:100≤cq d:=by unfold cq;have:1≤10^d:=Nat.one_le_pow _ _ Xl;omega
 have hb2:cq d≤2^30:=by unfold cq;have:10^d≤10^5:=Nat.pow_le_pow_right Xl hd9;omega
 have hb0:cq 0=100:=by decide
 have hq:QS Q bm bt k t (10*cq d):=λx v a' th' le' se' tx' at' lo' o' ar' L L1 L2 L3 h1 h2 h3 h4 h5 h6 h7 h8=>by subst hQ;exact⟨_,_,EO h1 h2 h3 h4,_,a',th',le',se',tx',at',lo',o',ar',rfl,⟨x,rfl,Xh⟩,h6,h7,h8,rfl⟩
 clear hQ hb;have e1:IntKind.i64.wrap (((d+1:Nat):Int)-1)=(d:Int):=by rw[Wr _ Xh];omega
 have dp:decide ((0:Int)<((d+1:Nat):Int))=true:=by simp
 have hw:10*cq d≤10*cq d:=VC _;have hw1:100≤10*cq d:=by omega
 unfold de ml
 repeat' (first|refine st ?_|((with_reducible refine aX 34 ?_);(refine fI ht Xi rp (λr_ a_ hr_ ha_=>?_)))|refine sb λnb_ hnb_=>?_|fail)
 have hr:r_<18:=by omega
 generalize hLL:IntKind.i64.wrap (le-1)=le2;have key:∀ns:Bool,eV Q ((bt,aN t a_)::(nb_,⟨11,[eW]⟩)::(bm,de bt th le2 se tx at_ lo o k)::ae o 1 (ar.map au)) (.ptr bm 0 0) (.Xm ((d+1:Nat):Int)) (r_:Int) (.ptr nb_ 0 0) (.bool ns):=by
  intro ns;have hcases:r_<4∨r_=4∨r_=5∨r_=6∨r_=7∨r_=8∨r_=9∨r_=10∨r_=11∨r_=12∨r_=13∨r_=14∨r_=15∨r_=16∨r_=17:=by omega
  rcases hcases with h4|rfl|rfl|rfl|rfl|rfl|rfl|rfl|rfl|rfl|rfl|rfl|rfl|rfl|rfl
  ·exact Q3 (d:=0) (r:=r_) hq ht ha_ ho hk h4 hw1
  ·exact Q4 (d:=0) (r:=0) hq ht ha_ ho hk hw1
  ·exact Q5 (d:=0) (r:=0) hq ht ha_ ho hk hw1
  ·exact US (r:=0) hq ht ha_ ho hk hU hd hb1 hb2 hw e1 dp
  ·exact UT (r:=0) hq ht ha_ ho hk hU hd hb1 hb2 hw e1 dp
  ·exact UU (r:=0) hq ht ha_ ho hk hU hd hb1 hb2 hw e1 dp
  ·exact UV (r:=0) hq ht ha_ ho hk hU hd hb1 hb2 hw e1 dp
  ·exact SS (r:=0) hq ht ha_ ho hk hU hd hb1 hb2 hw e1 dp
  ·exact ST (r:=0) hq ht ha_ ho hk hU hd hb1 hb2 hw e1 dp
  ·exact SU (r:=0) hq ht ha_ ho hk hU hd hb1 hb2 hw e1 dp hU0 hb0
  ·exact SW (r:=0) hq ht ha_ ho hk hU hd hb1 hb2 hw e1 dp
  ·exact SX (r:=0) hq ht ha_ ho hk hU hd hb1 hb2 hw e1 dp
  ·exact SY (r:=0) hq ht ha_ ho hk hU hd hb1 hb2 hw e1 dp
  ·exact OS (d:=0) (r:=0) hq ht ha_ ho hk hw1
  ·exact OT (d:=0) (r:=0) hq ht ha_ ho hk hw1
 cases tx<;>rcases Bool.eq_false_or_eq_true (decide (0<le2))with h0|h0
 all_goals
  rw[h0]
  repeat' (first|refine st ?_|refine sb λnb_ hnb_=>?_|fail)
  exact key _
theorem UW{Q:R}{bm bt nb k r a w d:Nat}{t:List UInt8}{th le:Int}{se tx at_ lo:Bool}{o:Option Nat}{ar:List aZ}{ns:Bool}(hq:QS Q bm bt k t w)(ht:t.length<2^40)(ha:a≤t.length)(ho:o=none→ar=[])(hk:k≤ar.length)(h6:6≤r)(h15:r≤15)(hns:ns=false)(hw:100≤w):eV Q ((bt,aN t a)::(nb,⟨11,[eW]⟩)::(bm,de bt th le se tx at_ lo o k)::ae o 1 (ar.map au)) (.ptr bm 0 0) (.Xm ((0:Nat):Int)) r (.ptr nb 0 0) (.bool ns):=by
 have hE0:=bV 0 Xl;have hE1:=bV 1 Xl;unfold eV de ml QS eW at *;subst hns;have hcases:r=6∨r=7∨r=8∨r=9∨r=10∨r=11∨r=12∨r=13∨r=14∨r=15:=by omega
 rcases hcases with rfl|rfl|rfl|rfl|rfl|rfl|rfl|rfl|rfl|rfl
 all_goals
  repeat' (first|refine st ?_|((with_reducible refine aX 97 ?_);(first|(refine cE hE1 Xj ht Xi rp rp (λx_ a_ hx_ ha_=>?_))|(refine cE hE0 Xj ht Xi rp rp (λx_ a_ hx_ ha_=>?_))))|(refine pf 36 ?_;refine pm (cD _ _) ?_)|refine sb λnb_ hnb_=>?_|fail)
  exact hq (cB _ _) _ _ _ _ _ _ _ _ _ _ _ _ _ _ rp rp rp (.refl _) sz Xi Xi Xi
theorem SZ:OP 0:=by
 intro bm bt t a th le se tx at_ lo o ar k ht ha ho hk hd;refine af.fz (jQ _ _ _ _ ?_);unfold gr;generalize hQ:(λ(v:AV) (L:SH)=>∃v2 L2,aJ [v] L [v2] L2∧∃(v:AV) (a':Nat) (th' le':Int) (se' tx' at' lo':Bool) (o':Option Nat) (ar':List aZ),v2=v∧OO 0 v∧a'≤t.length∧(o'=none→ar'=[])∧k≤ar'.length∧L2=(bm,de bt th' le' se' tx' at' lo' o' k)::(bt,aN t a')::ae o' 1 (ar'.map au))=Q;have hb0:cq 0=100:=by decide
 have hq:QS Q bm bt k t (100):=λx v a' th' le' se' tx' at' lo' o' ar' L L1 L2 L3 h1 h2 h3 h4 h5 h6 h7 h8=>by subst hQ;exact⟨_,_,EO h1 h2 h3 h4,_,a',th',le',se',tx',at',lo',o',ar',rfl,⟨x,rfl,Xh⟩,h6,h7,h8,rfl⟩
 clear hQ;have hw1:100≤100:=VC _;unfold de ml
 repeat' (first|refine st ?_|((with_reducible refine aX 34 ?_);(refine fI ht Xi rp (λr_ a_ hr_ ha_=>?_)))|refine sb λnb_ hnb_=>?_|fail)
 have hr:r_<18:=by omega
 generalize hLL:IntKind.i64.wrap (le-1)=le2;have key:eV Q ((bt,aN t a_)::(nb_,⟨11,[eW]⟩)::(bm,de bt th le2 se tx at_ lo o k)::ae o 1 (ar.map au)) (.ptr bm 0 0) (.Xm ((0:Nat):Int)) (r_:Int) (.ptr nb_ 0 0) (.bool false):=by
  have hcases:r_<4∨r_=4∨r_=5∨(6≤r_∧r_≤15)∨r_=16∨r_=17:=by omega
  rcases hcases with h4|rfl|rfl|h4|rfl|rfl
  ·exact Q3 (d:=0) (r:=r_) hq ht ha_ ho hk h4 hw1
  ·exact Q4 (d:=0) (r:=0) hq ht ha_ ho hk hw1
  ·exact Q5 (d:=0) (r:=0) hq ht ha_ ho hk hw1
  ·exact UW (d:=0) hq ht ha_ ho hk h4.1 h4.2 rfl hw1
  ·exact OS (d:=0) (r:=0) hq ht ha_ ho hk hw1
  ·exact OT (d:=0) (r:=0) hq ht ha_ ho hk hw1
 exact key
theorem Km:df 0:=Hl 0 SZ
theorem S0:df 1:=Hl 1 (OU 0 Km Km Xl)
theorem S1:df 2:=Hl 2 (OU 1 S0 Km Xl)
end
section
set_option maxRecDepth 100000
set_option maxHeartbeats 4000000
def qq:List aZ:=[[109,97,105,110],[116,49],[116,50],[116,51]]
def PH(bm bt b0 bp nmb:Nat)(t:List UInt8)(a:Nat)(th le:Int)(se tx at_ lo:Bool)(o:Option Nat)(ar:List aZ)(oT:Option Nat)(m:Nat)(ts:List ah):SH:=
 (bm,de bt th le se tx at_ lo o 0)::(bt,aN t a)::(b0,⟨2,[[.nils,.nils]]⟩)::(bp,⟨2,[[.lst (bA.map aI.enc),am oT m]]⟩)::(nmb,⟨1,qq.map au⟩)::(ae oT 4 (ts.map ah.enc)++ae o 1 (ar.map au))
theorem Je{bh bm bt i j:Nat}{x y:Blk}{o:Option Nat}{rows:List (List AV)}(f1:bh≠bm)(f2:bh≠bt)(f3:∀b,o=some b→bh≠b):∀z∈[rm j ⟨aa (.ptr bh 0 (0+3)),[],[],[]⟩],W.free z ⟨i,[],SH.names ((bm,x)::(bt,y)::ae o 1 rows),[],true,[]⟩:=by
 intro z hz;simp only[VI]at hz;subst hz;cases o with
 |none=>simp[rm,W.free,ae,SH.names,aa,dS,f1,f2,f1.symm,f2.symm]
 |some b=>have:=f3 b rfl;simp[rm,W.free,ae,SH.names,aa,dS,f1,f2,f1.symm,f2.symm,this,this.symm]
def PZ(b0 bp:Nat)(ts:List ah):SH:=[(b0,⟨2,[[.nils,.nils]]⟩),(bp,⟨2,[[.lst (bA.map aI.enc),.lst (ts.map ah.enc)]]⟩)]
theorem cN{K:SH}{x y:List AV}(h:ji K x y)(j:Nat)(r r':List AV)(h1:[x][j]? =some r)(h2:[y][j]? =some r'):ji K r r':=by
 match j with
 |0=>cases h1;cases h2;exact h
 |j+1=>simp at h1
theorem eX{K:SH}{b n:Nat}{ts:List ah}{x:ah}{raw:List AV}{rows:List (List AV)}(hm:(b,⟨4,rows⟩)∈K)(hr:rows=ts.map ah.enc++[raw])(hn:n=ts.length+1)(h:ji K raw x.enc):Fz K (.sl b 0 n) (.lst ((ts++[x]).map ah.enc)):=by
 have e:(ts++[x]).map ah.enc=(ts.map (λt:ah=>(t.enc,t))++[(raw,x)]).map (λy:List AV×ah=>y.2.enc):=by rw[VF,VF,List.map_map];rfl
 rw[e];refine Fz.slm (f:=Prod.fst) (g:=λy:List AV×ah=>y.2.enc) hm (by rw[hr,VF,List.map_map];rfl) Xl (by rw[hn,VL,WH];rfl) (λy hy=>?_) λy hy q a a2 h1 h2=>?_
 ·rcases VP.1 hy with hy|hy
  ·obtain⟨s,_,rfl⟩:=Wd.1 hy;rfl
  ·rw[VI.1 hy];exact h.at_.1
 ·rcases VP.1 hy with hy|hy
  ·obtain⟨s,_,rfl⟩:=Wd.1 hy;replace h1:s.enc[q]? =some a:=h1;replace h2:s.enc[q]? =some a2:=h2;rw[h1]at h2;cases h2;exact .refl _
  ·rw[VI.1 hy]at h1 h2;exact h.at_.2 q a a2 h1 h2
theorem Jf{bm bt:Nat}{t:List UInt8}{a r:Nat}{th le:Int}{se tx at_ lo:Bool}{o:Option Nat}{ar:List aZ}{L L1 L2 L3:SH}{i:Nat}{nn:Int}{us:List W.WR}{KN:AV→SH→List Nat→Prop}(hnn:nn=((1+r:Nat):Int))(hr:r<3)(h1:eQ bm (de bt th le se tx at_ lo o 0) L L1)(h2:eQ bt (aN t a) L1 L2)(h3:dP o 1 (ar.map au) L2 L3)(ht:t.length<2^40)(ha:a≤t.length)(ho:o=none→ar=[])
  (hf:∀y∈us,W.free y ⟨i,[],SH.names ((bm,de bt th le se tx at_ lo o 0)::(bt,aN t a)::ae o 1 (ar.map au)),[],true,[]⟩)
  (hq:∀(l:List ab) (a':Nat) (th' le':Int) (se' tx' at' lo':Bool) (o':Option Nat) (ar':List aZ) (ks:List Nat),ab.wts l≤30000→a'≤t.length→(o'=none→ar'=[])→KN (.lst (l.map ab.enc)) ((bm,de bt th' le' se' tx' at' lo' o' 0)::(bt,aN t a')::(ae o' 1 (ar'.map au)++L3)) ks):W.dcallM Tryz.prog us i 35 [.ptr bm 0 0,.Xm 2,.Xm nn] L KN:=by
 subst hnn;refine ON (Hm 2 S1 (1+r) Xh) h1 h2 h3 ht ha ho (We _) Xl hf ?_;rintro _ a' th' le' se' tx' at' lo' o' ar' ks ⟨l,rfl,hl⟩ q2 q3 q4;refine hq l a' th' le' se' tx' at' lo' o' ar' ks (VT hl ?_) q2 q3;have:cq 2=10000:=by decide
 rw[this];omega
theorem cU{α:Type}{f:α→List AV}{K:SH}{ts:List α}{x:α}{raw:List AV}(h:ji K raw (f x))(j:Nat)(r r':List AV)(h1:(ts.map f++[raw])[j]? =some r)(h2:((ts++[x]).map f)[j]? =some r'):ji K r r':=by
 rw[VF]at h2;rcases VG j (ts.map f).length with g|g
 ·rw[VS g]at h1 h2;rw[h1]at h2;cases h2;exact .refl _ _
 ·rw[VK g]at h1 h2;generalize j-(ts.map f).length=k at h1 h2
  match k with
  |0=>cases h1;cases h2;exact h
  |k+1=>simp at h1
theorem ja(l m:List ab):ab.wts (l++m)=ab.wts l+ab.wts m:=by
 induction l with
 |nil=>simp[ab.wts]
 |cons x l ih=>simp only[WO,ab.wts,ih];omega
def OV(ps:List (List AV×ab))(l:List ab):List (List AV×ab):=ps++l.map λs=>(s.enc,s)
structure fQ(ps:List (List AV×ab)):Prop where
 len:∀y∈ps,y.1.length=11
 fz:∀(K:SH),∀y∈ps,∀(q:Nat) (a a2:AV),y.1[q]? =some a→y.2.row[q]? =some a2→Fz K a a2
theorem fQ.pl{ps:List (List AV×ab)}(h:fQ ps)(l:List ab):fQ (OV ps l):=by
 constructor
 ·intro y hy;rcases VP.1 hy with hy|hy
  ·exact h.len y hy
  ·obtain⟨s,_,rfl⟩:=Wd.1 hy;show s.enc.length=11;rw[ab.enc_row];rfl
 ·intro K y hy q a a2 h1 h2;rcases VP.1 hy with hy|hy
  ·exact h.fz K y hy q a a2 h1 h2
  ·obtain⟨s,_,rfl⟩:=Wd.1 hy;rw[←ab.enc_row]at h2;replace h1:s.enc[q]? =some a:=h1;replace h2:s.enc[q]? =some a2:=h2;rw[h1]at h2;cases h2;exact .refl _
theorem fQ.raw{ps:List (List AV×ab)}(h:fQ ps)(op:Int)(nm:aZ):fQ (ps++[(Fq op nm,lC op nm)]):=by
 constructor
 ·intro y hy;rcases VP.1 hy with hy|hy
  ·exact h.len y hy
  ·rw[VI.1 hy];rfl
 ·intro K y hy q a a2 h1 h2;rcases VP.1 hy with hy|hy
  ·exact h.fz K y hy q a a2 h1 h2
  ·rw[VI.1 hy]at h1 h2;exact Kl q a a2 h1 h2
theorem fQ.go{ps:List (List AV×ab)}(h:fQ ps){K:SH}{b n:Nat}{rows:List (List AV)}(hm:(b,⟨11,rows⟩)∈K)(hr:rows=ps.map Prod.fst)(hn:n=ps.length):Fz K (.sl b 0 n) (.lst ((ps.map Prod.snd).map ab.enc)):=ER ps hm hr hn h.len (h.fz K)
theorem kM(ps:List (List AV×ab))(l:List ab):(OV ps l).map Prod.fst=ps.map Prod.fst++l.map ab.enc:=by simp[OV,Function.comp]
theorem kN(ps:List (List AV×ab))(l:List ab):(OV ps l).map Prod.snd=ps.map Prod.snd++l:=by rw[OV,VF,List.map_map,show(Prod.snd∘λs:ab=>(s.enc,s))=id from rfl,List.map_id]
theorem kO(ps:List (List AV×ab))(l:List ab):(OV ps l).length=ps.length+l.length:=by simp[OV]
theorem S2{n23:Kn}{bm bt b0 bp nmb bh lb a n i:Nat}{t:List UInt8}{th le:Int}{se tx at_ lo:Bool}{o oT oB:Option Nat}{ar:List aZ}{ts:List ah}{ps:List (List AV×ab)}{nm:aZ}
  (ht:t.length<2^40) (ha:a≤t.length) (ho:o=none→ar=[]) (hoT:oT=none→ts=[]) (hoB:oB=none→ps=[]) (hts:ts.length≤4) (hps:ps.length≤4)
  (f1:bh≠bm) (f2:bh≠bt) (f3:∀b,o=some b→bh≠b) (hg:fQ ps) (hnm:nm.length≤4) (hpw:ab.wts (ps.map Prod.snd)≤100)
  (hn:∀(x:ah) (a':Nat) (th' le':Int) (se' tx' at' lo':Bool) (o':Option Nat) (ar':List aZ) (nbT:Nat) (L':SH),(ah.wt x≤40000∧x.name=nm∧x.locals=[[97],[98]])→a'≤t.length→(o'=none→ar'=[])→aJ [.ptr b0 0 0,.ptr bm 0 0,.ptr bp 0 0,.Xm n,.sl nmb 0 4,.Xm (IntKind.i64.wrap ((i:Int)+1))] L' [.ptr b0 0 0,.ptr bm 0 0,.ptr bp 0 0,.Xm n,.sl nmb 0 4,.Xm (IntKind.i64.wrap ((i:Int)+1))] (PH bm bt b0 bp nmb t a' th' le' se' tx' at' lo' o' ar' (some nbT) (ts.length+1) (ts++[x]))→aJ [.ptr b0 0 0,.ptr bm 0 0,.ptr bp 0 0,.Xm n,.sl nmb 0 4,.Xm (IntKind.i64.wrap ((i:Int)+1))] L' [.ptr b0 0 0,.ptr bm 0 0,.ptr bp 0 0,.Xm n,.sl nmb 0 4,.Xm (IntKind.i64.wrap ((i:Int)+1))] (PZ b0 bp (ts++[x]))→n23 [.ptr b0 0 0,.ptr bm 0 0,.ptr bp 0 0,.Xm n,.sl nmb 0 4,.Xm (IntKind.i64.wrap ((i:Int)+1))] L')
  : bY n23 [.ptr b0 0 0,.ptr bm 0 0,.ptr bp 0 0,.Xm n,.sl nmb 0 4,.Xm i,.ptr bh 0 0] ((bh,⟨4,[[.str nm,.Xm 0,.sl lb 0 2,am oB ps.length]]⟩)::(lb,⟨1,[[.str [97]],[.str [98]]]⟩)::(bm,de bt th le se tx at_ lo o 0)::(bt,aN t a)::(b0,⟨2,[[.nils,.nils]]⟩)::(bp,⟨2,[[.lst (bA.map aI.enc),am oT ts.length]]⟩)::(nmb,⟨1,qq.map au⟩)::(ae oB 11 (ps.map Prod.fst)++(ae oT 4 (ts.map ah.enc)++ae o 1 (ar.map au)))):=by
 unfold bY de ml
 repeat' (first|refine mK (sZ ?_ (Qj Xh))|refine st ?_|((with_reducible refine aX 34 ?_);(refine fI ht Xi rp (λr_ a_ hr_ ha_=>?_)))|((with_reducible refine ef 34 ?_);refine CB ht Xi rp (λr_ a_ hr_ ha_=>?_))|((with_reducible refine ef 35 ?_);refine Jf rfl Xh rp rp rp ht Xi Xi (Je f1 f2 f3) ?_;rintro l_ a_ th_ le_ se_ tx_ at_ lo_ o_ ar_ ks_ hl_ ha_ ho_;have hl9_:=ab.wts_len l_;rcases o_ with _|ob_;all_goals dsimp only[Cz,CA,List.nil_append,List.cons_append])|(refine Dc rp (λx=>by rw[ab.enc_row];rfl) Xk (λe=>by simp[hoB e]) Xh Xh (λx=>by rw[ab.enc_row];rfl) (λo2_ ho2_=>?_);rcases o2_ with _|ob2_;(have e_:=ho2_ rfl;simp only[List.append_eq_nil_iff,List.map_eq_nil_iff]at e_;obtain⟨rfl,rfl⟩:=e_);all_goals dsimp only[Cz,CA,List.nil_append,List.cons_append])|refine cz (rows:=[]) (o:=none) rp (.here _) Xj (λ_=>rfl) Xj Xk Xk Xk Xj (λnb_ hnb_=>?_)|refine cz rp rp Xk (λe=>by first|simp[ho2_ e]|simp[hoT e]|simp[hoB e]) Xj Xk (by simp;omega) (by simp;omega) Xj (λnb_ hnb_=>?_)|refine sb λnb_ hnb_=>?_|refine s2 (λh=>?_) λh=>?_|fail)
 all_goals first
  |exact hn ⟨nm,0,[[97],[98]],((OV ps l_).map Prod.snd)⟩ a_ th_ le_ se_ tx_ at_ lo_ none ar_ nb_ _ ⟨by simp only[ah.wt,kN,ja,VF,VD,Wm,lC,wz,VZ,V7,Wz,WY];omega,rfl,rfl⟩ ha_ ho_ (aJ.rowA (A:=[(bm,_),(bt,_),(b0,_),(bp,_),(nmb,_)]) (b:=nb_) (R:=[]) (rows':=(ts++[_]).map ah.enc) rp Xk (cU (f:=ah.enc) (.cons (.refl _) (.cons (.refl _) (.cons (Fz.sls (l:=[[97],[98]]) (f:=au) (size:=1) (b:=lb) mm Xj Xl Xj) (.cons ((hg.pl l_).go mm (kM _ _).symm (kO _ _).symm) .nil))))) rfl) (aJ.rowA (A:=[(b0,_)]) (b:=bp) (R:=[]) (rows':=[[.lst (bA.map aI.enc),.lst ((ts++[_]).map ah.enc)]]) rp Xj (cN (.cons (.refl _) (.cons (eX (b:=nb_) mm Xj Xj (.cons (.refl _) (.cons (.refl _) (.cons (Fz.sls (l:=[[97],[98]]) (f:=au) (size:=1) (b:=lb) mm Xj Xl Xj) (.cons ((hg.pl l_).go mm (kM _ _).symm (kO _ _).symm) .nil))))) .nil))) rfl)
  |exact hn ⟨nm,0,[[97],[98]],((OV ps l_++[(Fq 13 [116,49],lC 13 [116,49])]).map Prod.snd)⟩ a_ th_ le_ se_ tx_ at_ lo_ none ar_ nb_ _ ⟨by simp only[ah.wt,kN,ja,VF,VD,Wm,lC,wz,VZ,V7,Wz,WY];omega,rfl,rfl⟩ ha_ ho_ (aJ.rowA (A:=[(bm,_),(bt,_),(b0,_),(bp,_),(nmb,_)]) (b:=nb_) (R:=[]) (rows':=(ts++[_]).map ah.enc) rp Xk (cU (f:=ah.enc) (.cons (.refl _) (.cons (.refl _) (.cons (Fz.sls (l:=[[97],[98]]) (f:=au) (size:=1) (b:=lb) mm Xj Xl Xj) (.cons (((hg.pl l_).raw 13 [116,49]).go mm (by rw[VF,kM];rfl) (by rw[VL,kO];rfl)) .nil))))) rfl) (aJ.rowA (A:=[(b0,_)]) (b:=bp) (R:=[]) (rows':=[[.lst (bA.map aI.enc),.lst ((ts++[_]).map ah.enc)]]) rp Xj (cN (.cons (.refl _) (.cons (eX (b:=nb_) mm Xj Xj (.cons (.refl _) (.cons (.refl _) (.cons (Fz.sls (l:=[[97],[98]]) (f:=au) (size:=1) (b:=lb) mm Xj Xl Xj) (.cons (((hg.pl l_).raw 13 [116,49]).go mm (by rw[VF,kM];rfl) (by rw[VL,kO];rfl)) .nil))))) .nil))) rfl)
  |exact hn ⟨nm,0,[[97],[98]],[]⟩ a_ th_ le_ se_ tx_ at_ lo_ none ar_ nb_ _ ⟨by simp only[ah.wt,kN,ja,VF,VD,Wm,lC,wz,VZ,V7,Wz,WY];omega,rfl,rfl⟩ ha_ ho_ (aJ.rowA (A:=[(bm,_),(bt,_),(b0,_),(bp,_),(nmb,_)]) (b:=nb_) (R:=[]) (rows':=(ts++[_]).map ah.enc) rp Xk (cU (f:=ah.enc) (.cons (.refl _) (.cons (.refl _) (.cons (Fz.sls (l:=[[97],[98]]) (f:=au) (size:=1) (b:=lb) mm Xj Xl Xj) (.cons .emp .nil))))) rfl) (aJ.rowA (A:=[(b0,_)]) (b:=bp) (R:=[]) (rows':=[[.lst (bA.map aI.enc),.lst ((ts++[_]).map ah.enc)]]) rp Xj (cN (.cons (.refl _) (.cons (eX (b:=nb_) mm Xj Xj (.cons (.refl _) (.cons (.refl _) (.cons (Fz.sls (l:=[[97],[98]]) (f:=au) (size:=1) (b:=lb) mm Xj Xl Xj) (.cons .emp .nil))))) .nil))) rfl)
  |exact hn ⟨nm,0,[[97],[98]],[lC 13 [116,49]]⟩ a_ th_ le_ se_ tx_ at_ lo_ none ar_ nb_ _ ⟨by simp only[ah.wt,kN,ja,VF,VD,Wm,lC,wz,VZ,V7,Wz,WY];omega,rfl,rfl⟩ ha_ ho_ (aJ.rowA (A:=[(bm,_),(bt,_),(b0,_),(bp,_),(nmb,_)]) (b:=nb_) (R:=[]) (rows':=(ts++[_]).map ah.enc) rp Xk (cU (f:=ah.enc) (.cons (.refl _) (.cons (.refl _) (.cons (Fz.sls (l:=[[97],[98]]) (f:=au) (size:=1) (b:=lb) mm Xj Xl Xj) (.cons (((fQ.mk nofun nofun:fQ []).raw 13 [116,49]).go mm Xj Xj) .nil))))) rfl) (aJ.rowA (A:=[(b0,_)]) (b:=bp) (R:=[]) (rows':=[[.lst (bA.map aI.enc),.lst ((ts++[_]).map ah.enc)]]) rp Xj (cN (.cons (.refl _) (.cons (eX (b:=nb_) mm Xj Xj (.cons (.refl _) (.cons (.refl _) (.cons (Fz.sls (l:=[[97],[98]]) (f:=au) (size:=1) (b:=lb) mm Xj Xl Xj) (.cons (((fQ.mk nofun nofun:fQ []).raw 13 [116,49]).go mm Xj Xj) .nil))))) .nil))) rfl)
  |exact hn ⟨nm,0,[[97],[98]],((OV ps l_).map Prod.snd)⟩ a_ th_ le_ se_ tx_ at_ lo_ (some ob_) ar_ nb_ _ ⟨by simp only[ah.wt,kN,ja,VF,VD,Wm,lC,wz,VZ,V7,Wz,WY];omega,rfl,rfl⟩ ha_ ho_ (aJ.rowA (A:=[(bm,_),(bt,_),(b0,_),(bp,_),(nmb,_)]) (b:=nb_) (R:=[(ob_,_)]) (rows':=(ts++[_]).map ah.enc) rp Xk (cU (f:=ah.enc) (.cons (.refl _) (.cons (.refl _) (.cons (Fz.sls (l:=[[97],[98]]) (f:=au) (size:=1) (b:=lb) mm Xj Xl Xj) (.cons ((hg.pl l_).go mm (kM _ _).symm (kO _ _).symm) .nil))))) rfl) (aJ.rowA (A:=[(b0,_)]) (b:=bp) (R:=[]) (rows':=[[.lst (bA.map aI.enc),.lst ((ts++[_]).map ah.enc)]]) rp Xj (cN (.cons (.refl _) (.cons (eX (b:=nb_) mm Xj Xj (.cons (.refl _) (.cons (.refl _) (.cons (Fz.sls (l:=[[97],[98]]) (f:=au) (size:=1) (b:=lb) mm Xj Xl Xj) (.cons ((hg.pl l_).go mm (kM _ _).symm (kO _ _).symm) .nil))))) .nil))) rfl)
  |exact hn ⟨nm,0,[[97],[98]],((OV ps l_++[(Fq 13 [116,49],lC 13 [116,49])]).map Prod.snd)⟩ a_ th_ le_ se_ tx_ at_ lo_ (some ob_) ar_ nb_ _ ⟨by simp only[ah.wt,kN,ja,VF,VD,Wm,lC,wz,VZ,V7,Wz,WY];omega,rfl,rfl⟩ ha_ ho_ (aJ.rowA (A:=[(bm,_),(bt,_),(b0,_),(bp,_),(nmb,_)]) (b:=nb_) (R:=[(ob_,_)]) (rows':=(ts++[_]).map ah.enc) rp Xk (cU (f:=ah.enc) (.cons (.refl _) (.cons (.refl _) (.cons (Fz.sls (l:=[[97],[98]]) (f:=au) (size:=1) (b:=lb) mm Xj Xl Xj) (.cons (((hg.pl l_).raw 13 [116,49]).go mm (by rw[VF,kM];rfl) (by rw[VL,kO];rfl)) .nil))))) rfl) (aJ.rowA (A:=[(b0,_)]) (b:=bp) (R:=[]) (rows':=[[.lst (bA.map aI.enc),.lst ((ts++[_]).map ah.enc)]]) rp Xj (cN (.cons (.refl _) (.cons (eX (b:=nb_) mm Xj Xj (.cons (.refl _) (.cons (.refl _) (.cons (Fz.sls (l:=[[97],[98]]) (f:=au) (size:=1) (b:=lb) mm Xj Xl Xj) (.cons (((hg.pl l_).raw 13 [116,49]).go mm (by rw[VF,kM];rfl) (by rw[VL,kO];rfl)) .nil))))) .nil))) rfl)
  |exact hn ⟨nm,0,[[97],[98]],[]⟩ a_ th_ le_ se_ tx_ at_ lo_ (some ob_) ar_ nb_ _ ⟨by simp only[ah.wt,kN,ja,VF,VD,Wm,lC,wz,VZ,V7,Wz,WY];omega,rfl,rfl⟩ ha_ ho_ (aJ.rowA (A:=[(bm,_),(bt,_),(b0,_),(bp,_),(nmb,_)]) (b:=nb_) (R:=[(ob_,_)]) (rows':=(ts++[_]).map ah.enc) rp Xk (cU (f:=ah.enc) (.cons (.refl _) (.cons (.refl _) (.cons (Fz.sls (l:=[[97],[98]]) (f:=au) (size:=1) (b:=lb) mm Xj Xl Xj) (.cons .emp .nil))))) rfl) (aJ.rowA (A:=[(b0,_)]) (b:=bp) (R:=[]) (rows':=[[.lst (bA.map aI.enc),.lst ((ts++[_]).map ah.enc)]]) rp Xj (cN (.cons (.refl _) (.cons (eX (b:=nb_) mm Xj Xj (.cons (.refl _) (.cons (.refl _) (.cons (Fz.sls (l:=[[97],[98]]) (f:=au) (size:=1) (b:=lb) mm Xj Xl Xj) (.cons .emp .nil))))) .nil))) rfl)
  |exact hn ⟨nm,0,[[97],[98]],[lC 13 [116,49]]⟩ a_ th_ le_ se_ tx_ at_ lo_ (some ob_) ar_ nb_ _ ⟨by simp only[ah.wt,kN,ja,VF,VD,Wm,lC,wz,VZ,V7,Wz,WY];omega,rfl,rfl⟩ ha_ ho_ (aJ.rowA (A:=[(bm,_),(bt,_),(b0,_),(bp,_),(nmb,_)]) (b:=nb_) (R:=[(ob_,_)]) (rows':=(ts++[_]).map ah.enc) rp Xk (cU (f:=ah.enc) (.cons (.refl _) (.cons (.refl _) (.cons (Fz.sls (l:=[[97],[98]]) (f:=au) (size:=1) (b:=lb) mm Xj Xl Xj) (.cons (((fQ.mk nofun nofun:fQ []).raw 13 [116,49]).go mm Xj Xj) .nil))))) rfl) (aJ.rowA (A:=[(b0,_)]) (b:=bp) (R:=[]) (rows':=[[.lst (bA.map aI.enc),.lst ((ts++[_]).map ah.enc)]]) rp Xj (cN (.cons (.refl _) (.cons (eX (b:=nb_) mm Xj Xj (.cons (.refl _) (.cons (.refl _) (.cons (Fz.sls (l:=[[97],[98]]) (f:=au) (size:=1) (b:=lb) mm Xj Xl Xj) (.cons (((fQ.mk nofun nofun:fQ []).raw 13 [116,49]).go mm Xj Xj) .nil))))) .nil))) rfl)
end
section
set_option maxRecDepth 100000
set_option maxHeartbeats 2000000
theorem ES{α:Type}{o:Option Nat}{size:Nat}{l:List α}{f:α→List AV}{L:SH}(h0:o=none→l=[])(hs:0<size)(hm:∀q∈ae o size (l.map f),q∈L):Fz L (am o l.length) (.lst (l.map f)):=by
 cases o with
 |none=>rw[h0 rfl];exact .emp
 |some b=>exact Fz.sls (hm _ (.head _)) rfl hs rfl
theorem AR(o:Option Nat)(n:Nat):(am o n).one=true:=by cases o<;>rfl
theorem Jg(o:Option Nat)(n:Nat):(am o n).cells? =some [am o n]:=by cases o<;>rfl
section
variable {n151:Kn} {b2 b6 i:Nat} {oc ol od of ot os:Option Nat} {w:aH} {dl:List (List AV)} {ts:List ah} {Q:R}
theorem Qm(hi:i<ts.length)(hi1:IntKind.i64.wrap ((i:Int)+1)=((i+1:Nat):Int))(hw:i=w.threads.length)(hti:i<2^20)(hb:ab.wts ts[i].body<2^20)(hsl:w.sites.length<2^29)(ho:Fo b6 oc ol od of ot os w)
  (hn:QZ (n151 [.pptr [[.lst dl,.lst (ts.map ah.enc)]] 0 0,.ptr b2 0 0,.ptr b6 0 0,.Xm ((i+1:Nat):Int)]) b2 b6 (du w ts[i])) :
  jV n151 (EU b2 b6 oc ol od of ot os w) (.ptr b6 0 0) (.pptr [[.lst dl,.lst (ts.map ah.enc)]] 0 0) (.Xm i) (.ptr b2 0 0):=by
 have hx:=aw (f:=ah.enc) hi;have hcw:=ab.cnts_wt ts[i].body;have hk:=OM i (2^20) ts[i].body Xh Xh;have ht0:ot=none→w.threads.map au=[]:=λe=>by rw[ho.t e];rfl
 unfold du at hn;rw[←hw]at hn;unfold jV EU
 repeat' (first|refine st ?_|refine cz rp rp Xk (λe=>by first|simp[ht0 e]) Xj Xk (by simp;omega) (by simp;omega) Xj (λnb_ hnb_=>?_)|((with_reducible refine ef 60 ?_);refine m8 ?_;refine Kk (t:=i) (n:=0) hk rp rfl rfl ho.s Xh Xh (λo_ ho_ ks_=>?_);simp only[WO,WC,Wh])|refine A4 ?_ (h2:=Jg _ _) (h4:=AR _ _)|refine sb λnb_ hnb_=>?_|refine s2 (λh=>?_) λh=>?_|fail)
 exact hn oc ol od of (some nb_) o_ _ _ _ _ _ _ _ _ _ _ _ _ _ ⟨ho.c,ho.l,ho.d,ho.f,nofun,ho_,ho.n⟩ rp (by simp[am]) rfl rfl rfl rfl (by rw[VF];rfl) rfl
theorem S3(hts:ts.length<2^20)(hb:∀t∈ts,ab.wts t.body<2^20)(hw0:w.threads=[])(hs0:w.sites=[])(hsl:∀k,(((ts.take k).foldl du w).sites.length<2^29))(ho:Fo b6 oc ol od of ot os w)
  (hq:∀(v:AV) (L:SH),Fz L v (.agg (ts.foldl du w).enc)→Q v L) :
  W.loop (jW Q) [.pptr [[.lst dl,.lst (ts.map ah.enc)]] 0 0,.ptr b2 0 0,.ptr b6 0 0,.Xm 0] (EU b2 b6 oc ol od of ot os w):=by
 have hlen:∀k,k≤ts.length→((ts.take k).foldl du w).threads.length=k:=by
  intro k
  induction k with
  |zero=>intro _;simp[hw0]
  |succ k ih=>intro h;rw[vN (show k<ts.length by omega)];simp[du,ih Xh]
 refine cg (β:=Option Nat×Option Nat×Option Nat×Option Nat×Option Nat×Option Nat) ts.length (λi q=>([.pptr [[.lst dl,.lst (ts.map ah.enc)]] 0 0,.ptr b2 0 0,.ptr b6 0 0,.Xm i],EU b2 b6 q.1 q.2.1 q.2.2.1 q.2.2.2.1 q.2.2.2.2.1 q.2.2.2.2.2 ((ts.take i).foldl du w)))
  (λi q=>Fo b6 q.1 q.2.1 q.2.2.1 q.2.2.2.1 q.2.2.2.2.1 q.2.2.2.2.2 ((ts.take i).foldl du w)) (oc,ol,od,of,ot,os) ho (.refl _ _) ?_
 rintro i ⟨oc,ol,od,of,ot,os⟩ hi ho;dsimp only at ho ⊢;unfold jW;generalize hnx:(λ(vs':List AV) (L':SH)=>∃j o',i<j∧j≤ts.length∧_)=nx;rcases Nat.lt_or_ge i ts.length with g1|g1
 ·have hd:=bF g1;have hi1:=aE g1 Xh;have hgo:QZ (nx [.pptr [[.lst dl,.lst (ts.map ah.enc)]] 0 0,.ptr b2 0 0,.ptr b6 0 0,.Xm ((i+1:Nat):Int)]) b2 b6 (du ((ts.take i).foldl du w) ts[i]):=.of λoc2 ol2 od2 of2 ot2 os2 L' q1 q2=>by subst hnx;rw[←vN (f:=du) (a:=w) g1]at q1 q2;exact⟨i+1,(oc2,ol2,od2,of2,ot2,os2),Xh,Xh,q1,aJ.pick q2 rfl⟩
  have hr:=Qm (dl:=dl) g1 hi1 (hlen i Xh).symm Xh (hb _ (VV g1)) (hsl i) ho hgo;clear hnx hgo;generalize hW:EU b2 b6 oc ol od of ot os ((ts.take i).foldl du w)=LW at *
  repeat' (first|exact hr|refine st ?_|refine sb λnb_ hnb_=>?_|refine s2 (λh=>?_) λh=>?_|fail)
 ·have hd:=bI g1;have e:i=ts.length:=by omega
  subst e;rw[List.take_length]at ho ⊢;unfold EU
  repeat' (first|refine st ?_|refine sb λnb_ hnb_=>?_|refine s2 (λh=>?_) λh=>?_|fail)
  refine aq (cs:=[am oc (List.foldl du w ts).cells.length,am ol (List.foldl du w ts).locks.length,am od (List.foldl du w ts).conds.length,am of (List.foldl du w ts).futures.length,am ot (List.foldl du w ts).threads.length,am os (List.foldl du w ts).sites.length]) (.there _ (.here _)) rfl rfl (by simp[AR]) rfl ?_
  repeat' (first|refine st ?_|refine sb λnb_ hnb_=>?_|refine s2 (λh=>?_) λh=>?_|fail)
  refine hq _ _ (Fz.aggs (.cons (ES ho.c Xl λq h=>.tail _ (.tail _ (WB _ h))) (.cons (ES ho.l Xl λq h=>.tail _ (.tail _ (V1 _ (WB _ h)))) (.cons (ES ho.d Xl λq h=>.tail _ (.tail _ (V1 _ (V1 _ (WB _ h))))) (.cons (ES ho.f Xl λq h=>.tail _ (.tail _ (V1 _ (V1 _ (V1 _ (WB _ h)))))) (.cons (ES ho.t Xl λq h=>.tail _ (.tail _ (V1 _ (V1 _ (V1 _ (V1 _ (WB _ h))))))) (.cons (ES ho.s Xl λq h=>.tail _ (.tail _ (V1 _ (V1 _ (V1 _ (V1 _ (V1 _ h))))))) .nil)))))))
end
theorem Mt(w:aH)(d:aI)(hs:d.size≤4):(bS w d).cells.length≤w.cells.length+4∧(bS w d).locks.length≤w.locks.length+1∧(bS w d).conds.length≤w.conds.length+1∧(bS w d).futures.length≤w.futures.length+1∧(bS w d).threads=w.threads∧(bS w d).sites=w.sites:=by
 unfold bS
 repeat' split
 all_goals simp[aI.celW]
 all_goals omega
theorem F8(w:aH):∀(l:List aI),(∀d∈l,d.size≤4)→(l.foldl bS w).cells.length≤w.cells.length+4*l.length∧(l.foldl bS w).locks.length≤w.locks.length+l.length∧(l.foldl bS w).conds.length≤w.conds.length+l.length∧(l.foldl bS w).futures.length≤w.futures.length+l.length∧(l.foldl bS w).threads=w.threads∧(l.foldl bS w).sites=w.sites:=by
 intro l
 induction l generalizing w with
 |nil=>intro _;simp
 |cons d l ih=>
  intro h;obtain⟨a1,a2,a3,a4,a5,a6⟩:=Mt w d (h d (.head _));obtain⟨b1,b2,b3,b4,b5,b6⟩:=ih (bS w d) λx hx=>h x (.tail _ hx)
  simp only[W9,VZ];exact⟨Xh,Xh,Xh,Xh,b5.trans a5,b6.trans a6⟩
theorem Ko(ts:List ah):∀(w:aH),(ts.foldl du w).sites.length=w.sites.length+gG (λt=>ab.cnts t.body) ts:=by
 induction ts with
 |nil=>intro w;simp[gG]
 |cons t l ih=>intro w;rw[W9,ih];simp[du,sitL_len,gG];omega
theorem Mu(p:bP){ln:Int}(hkind:∀d∈p.decls,(1≤d.kind∧d.kind≤6)∧d.size≤4)(hck:az Tryz.prog 28 [.agg p.enc] (.tup [.Xm 0,.Xm ln]))(hw:p.wt≤200000):az Tryz.prog 29 [.agg p.enc] (.agg (lB p).enc):=by
 have hdl:=p.decls_len;have htl:=p.threads_len;refine af.fz (EM _ _ _ ?_);unfold sQ bP.enc;generalize hQ:(λ(v:AV) (L:SH)=>∃v2 L2,aJ [v] L [v2] L2∧v2=.agg (lB p).enc∧L2=[])=Q;have hq:∀v L,Fz L v (.agg (lB p).enc)→Q v L:=λv L h=>by subst hQ;exact⟨_,[],aJ.all h,rfl,rfl⟩
 clear hQ
 repeat' (first|refine st ?_|(refine pf 28 ?_;refine pm (hck) ?_)|refine sb λnb_ hnb_=>?_|refine s2 (λh=>?_) λh=>?_|fail)
 rename_i b0 hb0 b2 hb2;have hlen:∀k,((p.decls.take k).foldl bS aH.zero).cells.length<2^30∧((p.decls.take k).foldl bS aH.zero).locks.length<2^30∧((p.decls.take k).foldl bS aH.zero).conds.length<2^30∧((p.decls.take k).foldl bS aH.zero).futures.length<2^30:=λk=>by
  obtain⟨a1,a2,a3,a4,_,_⟩:=F8 aH.zero (p.decls.take k) λd hd=>(hkind d (List.mem_of_mem_take hd)).2
  have:(p.decls.take k).length≤200000:=by rw[V5];omega
  simp only[aH.zero,V7]at a1 a2 a3 a4;exact⟨by show List.length _<_;unfold aH.zero;omega,by show List.length _<_;unfold aH.zero;omega,by show List.length _<_;unfold aH.zero;omega,by show List.length _<_;unfold aH.zero;omega⟩
 obtain⟨_,_,_,_,hth0,hsi0⟩:=F8 aH.zero p.decls λd hd=>(hkind d hd).2
 refine cg (β:=Option Nat×Option Nat×Option Nat×Option Nat×Option Nat×Option Nat) p.decls.length (λi q=>([.pptr [[.lst (p.decls.map aI.enc),.lst (p.threads.map ah.enc)]] 0 0,.ptr b2 0 0,.ptr nb_ 0 0,.Xm i],EU b2 nb_ q.1 q.2.1 q.2.2.1 q.2.2.2.1 q.2.2.2.2.1 q.2.2.2.2.2 ((p.decls.take i).foldl bS aH.zero)))
  (λi q=>Fo nb_ q.1 q.2.1 q.2.2.1 q.2.2.2.1 q.2.2.2.2.1 q.2.2.2.2.2 ((p.decls.take i).foldl bS aH.zero)) (none,none,none,none,none,none) ⟨λ_=>rfl,λ_=>rfl,λ_=>rfl,λ_=>rfl,λ_=>rfl,λ_=>rfl,nofun⟩ ?_ ?_
 ·exact aJ.rowA (K:=[]) (A:=[]) (R:=[(b2,⟨6,[SO]⟩)]) (rows:=[[.nils,.nils,.nils,.nils,.nils,.nils]]) (.one (.here _) (.one (.here _) (.nil _))) rfl (cN (.cons .nile (.cons .nile (.cons .nile (.cons .nile (.cons .nile (.cons .nile .nil))))))) rfl
 rintro i ⟨oc,ol,od,of,ot,os⟩ hi ho;dsimp only at ho ⊢;unfold qo;generalize hnx:(λ(vs':List AV) (L':SH)=>∃j o',i<j∧j≤p.decls.length∧_)=nx;rcases Nat.lt_or_ge i p.decls.length with g1|g1
 ·have hd:=bF g1;have hi1:=aE g1 Xh;have hgo:QZ (nx [.pptr [[.lst (p.decls.map aI.enc),.lst (p.threads.map ah.enc)]] 0 0,.ptr b2 0 0,.ptr nb_ 0 0,.Xm ((i+1:Nat):Int)]) b2 nb_ (bS ((p.decls.take i).foldl bS aH.zero) p.decls[i]):=.of λoc2 ol2 od2 of2 ot2 os2 L' q1 q2=>by subst hnx;rw[←vN (f:=bS) (a:=aH.zero) g1]at q1 q2;exact⟨i+1,(oc2,ol2,od2,of2,ot2,os2),Xh,Xh,q1,aJ.pick q2 rfl⟩
  obtain⟨a1,a2,a3,a4⟩:=hlen i;have hk:=hkind _ (VV g1);have hr:=SP (rows:=p.decls.map aI.enc) (tl:=p.threads.map ah.enc) (d:=p.decls[i]) (aw g1) hk.1 Xh hi1 ho a1 a2 a3 a4 hgo;clear hnx hgo;generalize hW:EU b2 nb_ oc ol od of ot os ((p.decls.take i).foldl bS aH.zero)=LW at *
  repeat' (first|exact hr|refine st ?_|refine sb λnb_ hnb_=>?_|refine s2 (λh=>?_) λh=>?_|fail)
 ·have hd:=bI g1;have e:i=p.decls.length:=by omega
  subst e;rw[List.take_length]at ho ⊢;have hl:=S3 (Q:=Q) (dl:=p.decls.map aI.enc) (ts:=p.threads) (b2:=b2) Xh (λt ht=>?hb) hth0 hsi0 (λk=>?hs) ho hq
  case hb=>
   obtain⟨j,hj,rfl⟩:=WE ht;have:=p.thread_wt hj;unfold ah.wt at this;omega
  case hs=>
   rw[Ko,hsi0];have h1:=Ec (λt:ah=>ab.cnts t.body) p.threads k;have h2:gG (λt:ah=>ab.cnts t.body) p.threads≤p.wt:=by have:=I3 (f:=λt:ah=>ab.cnts t.body) (g:=ah.wt) (λt=>by have:=ab.cnts_wt t.body;unfold ah.wt;omega) p.threads;unfold bP.wt;unfold gG at *;omega
   simp only[aH.zero,V7];omega
  generalize hW:EU b2 nb_ oc ol od of ot os (p.decls.foldl bS aH.zero)=LW at *
  repeat' (first|exact hl|refine st ?_|refine sb λnb_ hnb_=>?_|refine s2 (λh=>?_) λh=>?_|fail)
end
section
set_option maxRecDepth 100000
def vO(Q:R)(a:SH)(b:AV):Prop:=aA 1 b a λc=>aA 2 b a λd=>aA 3 b a λe=>W.bslice 1 [(.Xm 0)] 3 [(0,c),(1,d),(2,e)] a λf g=>Q f g
def vP(Q:R)(a:SH)(c b:AV):Prop:=wb .eql 3 c (.Xm 9) λd=>wk d (aA 2 b a λe=>aA 3 b a λf=>W.bslice 1 [(.Xm 0)] 2 [(0,e),(1,f)] a λg h=>Q g h) (Q .nils a)
def vQ(Q:R)(c:Vs)(a:SH):Prop:=vY 1 4 37 c λb d e=>wk e (aA 2 b a λf=>W.bslice 1 [(.Xm 0)] 1 [(0,f)] a λg h=>Q g h) ((vP Q a d b))
def vR(Q:R)(b:SH)(a c:AV):Prop:=W.join (vQ Q) λd=>wb .eql 3 a (.Xm 8) λe=>wk e (d [c,a,e] b) (wb .eql 3 a (.Xm 26) λf=>d [c,a,f] b)
def vS(Q:R)(a:SH)(c b:AV):Prop:=wb .eql 3 c (.Xm 7) λd=>wk d (aA 1 b a λe=>aA 3 b a λf=>W.bslice 1 [(.Xm 0)] 2 [(0,e),(1,f)] a λg h=>Q g h) ((vR Q a c b))
def vT(Q:R)(d:Vs)(a:SH):Prop:=vY 1 4 13 d λb c e=>wk e (aA 1 b a λf=>aA 2 b a λg=>W.bslice 1 [(.Xm 0)] 2 [(0,f),(1,g)] a λh i=>Q h i) (wb .eql 3 c (.Xm 4) λj=>wk j ((vO Q a b)) ((vS Q a c b)))
def vU(Q:R)(b:SH)(a c:AV):Prop:=W.join (vT Q) λd=>wb .eql 3 a (.Xm 2) λe=>wk e (d [c,a,e] b) (wb .eql 3 a (.Xm 3) λf=>d [c,a,f] b)
def vV(Q:R)(c:Vs)(a:SH):Prop:=vY 1 4 5 c λb d e=>wk e (aA 1 b a λf=>W.bslice 1 [(.Xm 0)] 1 [(0,f)] a λg h=>Q g h) ((vU Q a d b))
def vW(b:Kn)(c:SH)(a d:AV):Prop:=wb .eql 3 a (.Xm 6) λe=>wk e (b [d,a,e] c) (wb .eql 3 a (.Xm 10) λf=>wk f (b [d,a,f] c) (wb .eql 3 a (.Xm 27) λg=>b [d,a,g] c))
def kP(f:AV)(L:SH)(Q:R):Prop:=su f L λa b=>aA 0 a b λc=>W.join (vV Q) λd=>wb .eql 3 c (.Xm 1) λe=>wk e (d [a,c,e] b) ((vW d b c a))
theorem vX(t0:AV)(L:SH)(Q:R)(h:kP t0 L Q):af Tryz.prog 32 [t0] L Q:=
 fs [(5,[1,4,5]),(8,[1,4,13]),(15,[1,4,37])] [] [(0,[1])] [] Tryz.func32 h
end
end Go.Proofs.YtdnpdghlggbklaaGreatDoor.Am
