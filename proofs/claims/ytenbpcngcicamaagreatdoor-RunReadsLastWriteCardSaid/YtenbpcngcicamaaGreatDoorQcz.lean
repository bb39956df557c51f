/- A part of the proof; the statement is proved in the last part. -/
import Derived.Test.YtenbpcngcicamaaGreatDoorQcy
set_option linter.unusedSimpArgs false
set_option linter.unusedVariables false
namespace Go.Proofs.YtenbpcngcicamaaGreatDoor.Am
section
set_option maxRecDepth 100000
theorem OO(d:Nat)(hU:dq d)(hU0:dq 0)(hd9:d≤5):OJ (d+1):=by
 intro bm bt t a th le se tx at_ lo o ar k ht ha ho hk hd;refine ai.fz (jU _ _ _ _ ?_);unfold gl;generalize hQ:(λ(v:AV) (L:SH)=>∃v2 L2,aI [v] L [v2] L2∧∃(v:AV) (a':Nat) (th' le':Int) (se' tx' at' lo':Bool) (o':Option Nat) (ar':List bj),v2=v∧OI (d+1) v∧a'≤t.length∧(o'=none→ar'=[])∧k≤ar'.length∧L2=(bm,dm bt th' le' se' tx' at' lo' o' k)::(bt,aP t a')::ah o' 1 (ar'.map aw))=Q;have hb:cq (d+1)=10*cq d:=by simp only[cq,Nat.pow_succ];omega
 have hb1:100≤cq d:=by unfold cq;have:1≤10^d:=Nat.one_le_pow _ _ W8;omega
 have hb2:cq d≤2^30:=by unfold cq;have:10^d≤10^5:=Nat.pow_le_pow_right W8 hd9;omega
 have hb0:cq 0=100:=by decide
 have hq:QS Q bm bt k t (10*cq d):=λx v a' th' le' se' tx' at' lo' o' ar' L L1 L2 L3 h1 h2 h3 h4 h5 h6 h7 h8=>by subst hQ;exact⟨_,_,EI h1 h2 h3 h4,_,a',th',le',se',tx',at',lo',o',ar',rfl,⟨x,rfl,W4⟩,h6,h7,h8,rfl⟩
 clear hQ hb;have e1:IntKind.i64.wrap (((d+1:Nat):Int)-1)=(d:Int):=by rw[We _ W4];omega
 have dp:decide ((0:Int)<((d+1:Nat):Int))=true:=by simp
 have hw:10*cq d≤10*cq d:=Vo _;have hw1:100≤10*cq d:=by omega
 unfold dm mq
 repeat' (first|refine st ?_|((with_reducible refine aZ 23 ?_);(refine fF ht W5 rp (λr_ a_ hr_ ha_=>?_)))|refine sb λnb_ hnb_=>?_|fail)
 have hr:r_<18:=by omega
 generalize hLL:IntKind.i64.wrap (le-1)=le2;have key:∀ns:Bool,eR Q ((bt,aP t a_)::(nb_,⟨11,[eT]⟩)::(bm,dm bt th le2 se tx at_ lo o k)::ah o 1 (ar.map aw)) (.ptr bm 0 0) (.W9 ((d+1:Nat):Int)) (r_:Int) (.ptr nb_ 0 0) (.bool ns):=by
  intro ns;have hcases:r_<4∨r_=4∨r_=5∨r_=6∨r_=7∨r_=8∨r_=9∨r_=10∨r_=11∨r_=12∨r_=13∨r_=14∨r_=15∨r_=16∨r_=17:=by omega
  rcases hcases with h4|rfl|rfl|rfl|rfl|rfl|rfl|rfl|rfl|rfl|rfl|rfl|rfl|rfl|rfl
  ·exact QU (d:=0) (r:=r_) hq ht ha_ ho hk h4 hw1
  ·exact QV (d:=0) (r:=0) hq ht ha_ ho hk hw1
  ·exact QW (d:=0) (r:=0) hq ht ha_ ho hk hw1
  ·exact UE (r:=0) hq ht ha_ ho hk hU hd hb1 hb2 hw e1 dp
  ·exact UF (r:=0) hq ht ha_ ho hk hU hd hb1 hb2 hw e1 dp
  ·exact UG (r:=0) hq ht ha_ ho hk hU hd hb1 hb2 hw e1 dp
  ·exact UH (r:=0) hq ht ha_ ho hk hU hd hb1 hb2 hw e1 dp
  ·exact SG (r:=0) hq ht ha_ ho hk hU hd hb1 hb2 hw e1 dp
  ·exact SI (r:=0) hq ht ha_ ho hk hU hd hb1 hb2 hw e1 dp
  ·exact SJ (r:=0) hq ht ha_ ho hk hU hd hb1 hb2 hw e1 dp hU0 hb0
  ·exact SK (r:=0) hq ht ha_ ho hk hU hd hb1 hb2 hw e1 dp
  ·exact SL (r:=0) hq ht ha_ ho hk hU hd hb1 hb2 hw e1 dp
  ·exact SM (r:=0) hq ht ha_ ho hk hU hd hb1 hb2 hw e1 dp
  ·exact OM (d:=0) (r:=0) hq ht ha_ ho hk hw1
  ·exact ON (d:=0) (r:=0) hq ht ha_ ho hk hw1
 cases tx<;>rcases Bool.eq_false_or_eq_true (decide (0<le2))with h0|h0
 all_goals
  rw[h0]
  repeat' (first|refine st ?_|refine sb λnb_ hnb_=>?_|fail)
  exact key _
theorem UI{Q:R}{bm bt nb k r a w d:Nat}{t:List UInt8}{th le:Int}{se tx at_ lo:Bool}{o:Option Nat}{ar:List bj}{ns:Bool}(hq:QS Q bm bt k t w)(ht:t.length<2^40)(ha:a≤t.length)(ho:o=none→ar=[])(hk:k≤ar.length)(h6:6≤r)(h15:r≤15)(hns:ns=false)(hw:100≤w):eR Q ((bt,aP t a)::(nb,⟨11,[eT]⟩)::(bm,dm bt th le se tx at_ lo o k)::ah o 1 (ar.map aw)) (.ptr bm 0 0) (.W9 ((0:Nat):Int)) r (.ptr nb 0 0) (.bool ns):=by
 have hE0:=bW 0 W8;have hE1:=bW 1 W8;unfold eR dm mq QS eT at *;subst hns;have hcases:r=6∨r=7∨r=8∨r=9∨r=10∨r=11∨r=12∨r=13∨r=14∨r=15:=by omega
 rcases hcases with rfl|rfl|rfl|rfl|rfl|rfl|rfl|rfl|rfl|rfl
 all_goals
  repeat' (first|refine st ?_|((with_reducible refine aZ 71 ?_);(first|(refine cD hE1 W6 ht W5 rp rp (λx_ a_ hx_ ha_=>?_))|(refine cD hE0 W6 ht W5 rp rp (λx_ a_ hx_ ha_=>?_))))|(refine pf 25 ?_;refine pm (cC _ _) ?_)|refine sb λnb_ hnb_=>?_|fail)
  exact hq (cz _ _) _ _ _ _ _ _ _ _ _ _ _ _ _ _ rp rp rp (.refl _) sz W5 W5 W5
theorem SN:OJ 0:=by
 intro bm bt t a th le se tx at_ lo o ar k ht ha ho hk hd;refine ai.fz (jU _ _ _ _ ?_);unfold gl;generalize hQ:(λ(v:AV) (L:SH)=>∃v2 L2,aI [v] L [v2] L2∧∃(v:AV) (a':Nat) (th' le':Int) (se' tx' at' lo':Bool) (o':Option Nat) (ar':List bj),v2=v∧OI 0 v∧a'≤t.length∧(o'=none→ar'=[])∧k≤ar'.length∧L2=(bm,dm bt th' le' se' tx' at' lo' o' k)::(bt,aP t a')::ah o' 1 (ar'.map aw))=Q;have hb0:cq 0=100:=by decide
 have hq:QS Q bm bt k t (100):=λx v a' th' le' se' tx' at' lo' o' ar' L L1 L2 L3 h1 h2 h3 h4 h5 h6 h7 h8=>by subst hQ;exact⟨_,_,EI h1 h2 h3 h4,_,a',th',le',se',tx',at',lo',o',ar',rfl,⟨x,rfl,W4⟩,h6,h7,h8,rfl⟩
 clear hQ;have hw1:100≤100:=Vo _;unfold dm mq
 repeat' (first|refine st ?_|((with_reducible refine aZ 23 ?_);(refine fF ht W5 rp (λr_ a_ hr_ ha_=>?_)))|refine sb λnb_ hnb_=>?_|fail)
 have hr:r_<18:=by omega
 generalize hLL:IntKind.i64.wrap (le-1)=le2;have key:eR Q ((bt,aP t a_)::(nb_,⟨11,[eT]⟩)::(bm,dm bt th le2 se tx at_ lo o k)::ah o 1 (ar.map aw)) (.ptr bm 0 0) (.W9 ((0:Nat):Int)) (r_:Int) (.ptr nb_ 0 0) (.bool false):=by
  have hcases:r_<4∨r_=4∨r_=5∨(6≤r_∧r_≤15)∨r_=16∨r_=17:=by omega
  rcases hcases with h4|rfl|rfl|h4|rfl|rfl
  ·exact QU (d:=0) (r:=r_) hq ht ha_ ho hk h4 hw1
  ·exact QV (d:=0) (r:=0) hq ht ha_ ho hk hw1
  ·exact QW (d:=0) (r:=0) hq ht ha_ ho hk hw1
  ·exact UI (d:=0) hq ht ha_ ho hk h4.1 h4.2 rfl hw1
  ·exact OM (d:=0) (r:=0) hq ht ha_ ho hk hw1
  ·exact ON (d:=0) (r:=0) hq ht ha_ ho hk hw1
 exact key
theorem Kg:dq 0:=Ha 0 SN
theorem SO:dq 1:=Ha 1 (OO 0 Kg Kg W8)
theorem SP:dq 2:=Ha 2 (OO 1 SO Kg W8)
end
section
set_option maxRecDepth 100000
set_option maxHeartbeats 4000000
def qj:List bj:=[[109,97,105,110],[116,49],[116,50],[116,51]]
def PH(bm bt b0 bp nmb:Nat)(t:List UInt8)(a:Nat)(th le:Int)(se tx at_ lo:Bool)(o:Option Nat)(ar:List bj)(oT:Option Nat)(m:Nat)(ts:List aj):SH:=
 (bm,dm bt th le se tx at_ lo o 0)::(bt,aP t a)::(b0,⟨2,[[.nils,.nils]]⟩)::(bp,⟨2,[[.lst (bC.map aH.enc),aq oT m]]⟩)::(nmb,⟨1,qj.map aw⟩)::(ah oT 4 (ts.map aj.enc)++ah o 1 (ar.map aw))
theorem I6{bh bm bt i j:Nat}{x y:Blk}{o:Option Nat}{rows:List (List AV)}(f1:bh≠bm)(f2:bh≠bt)(f3:∀b,o=some b→bh≠b):∀z∈[rm j ⟨aa (.ptr bh 0 (0+3)),[],[],[]⟩],W.free z ⟨i,[],SH.names ((bm,x)::(bt,y)::ah o 1 rows),[],true,[]⟩:=by
 intro z hz;simp only[Vv]at hz;subst hz;cases o with
 |none=>simp[rm,W.free,ah,SH.names,aa,dT,f1,f2,f1.symm,f2.symm]
 |some b=>have:=f3 b rfl;simp[rm,W.free,ah,SH.names,aa,dT,f1,f2,f1.symm,f2.symm,this,this.symm]
def PZ(b0 bp:Nat)(ts:List aj):SH:=[(b0,⟨2,[[.nils,.nils]]⟩),(bp,⟨2,[[.lst (bC.map aH.enc),.lst (ts.map aj.enc)]]⟩)]
theorem cN{K:SH}{x y:List AV}(h:jd K x y)(j:Nat)(r r':List AV)(h1:[x][j]? =some r)(h2:[y][j]? =some r'):jd K r r':=by
 match j with
 |0=>cases h1;cases h2;exact h
 |j+1=>simp at h1
theorem eU{K:SH}{b n:Nat}{ts:List aj}{x:aj}{raw:List AV}{rows:List (List AV)}(hm:(b,⟨4,rows⟩)∈K)(hr:rows=ts.map aj.enc++[raw])(hn:n=ts.length+1)(h:jd K raw x.enc):Fz K (.sl b 0 n) (.lst ((ts++[x]).map aj.enc)):=by
 have e:(ts++[x]).map aj.enc=(ts.map (λt:aj=>(t.enc,t))++[(raw,x)]).map (λy:List AV×aj=>y.2.enc):=by rw[Vr,Vr,List.map_map];rfl
 rw[e];refine Fz.slm (f:=Prod.fst) (g:=λy:List AV×aj=>y.2.enc) hm (by rw[hr,Vr,List.map_map];rfl) W8 (by rw[hn,Vy,Wv];rfl) (λy hy=>?_) λy hy q a a2 h1 h2=>?_
 ·rcases VC.1 hy with hy|hy
  ·obtain⟨s,_,rfl⟩:=V0.1 hy;rfl
  ·rw[Vv.1 hy];exact h.at_.1
 ·rcases VC.1 hy with hy|hy
  ·obtain⟨s,_,rfl⟩:=V0.1 hy;replace h1:s.enc[q]? =some a:=h1;replace h2:s.enc[q]? =some a2:=h2;rw[h1]at h2;cases h2;exact .refl _
  ·rw[Vv.1 hy]at h1 h2;exact h.at_.2 q a a2 h1 h2
theorem I7{bm bt:Nat}{t:List UInt8}{a r:Nat}{th le:Int}{se tx at_ lo:Bool}{o:Option Nat}{ar:List bj}{L L1 L2 L3:SH}{i:Nat}{nn:Int}{us:List W.WR}{KN:AV→SH→List Nat→Prop}(hnn:nn=((1+r:Nat):Int))(hr:r<3)(h1:eN bm (dm bt th le se tx at_ lo o 0) L L1)(h2:eN bt (aP t a) L1 L2)(h3:dQ o 1 (ar.map aw) L2 L3)(ht:t.length<2^40)(ha:a≤t.length)(ho:o=none→ar=[])
  (hf:∀y∈us,W.free y ⟨i,[],SH.names ((bm,dm bt th le se tx at_ lo o 0)::(bt,aP t a)::ah o 1 (ar.map aw)),[],true,[]⟩)
  (hq:∀(l:List ab) (a':Nat) (th' le':Int) (se' tx' at' lo':Bool) (o':Option Nat) (ar':List bj) (ks:List Nat),ab.wts l≤30000→a'≤t.length→(o'=none→ar'=[])→KN (.lst (l.map ab.enc)) ((bm,dm bt th' le' se' tx' at' lo' o' 0)::(bt,aP t a')::(ah o' 1 (ar'.map aw)++L3)) ks):W.dcallM Tryz.prog us i 24 [.ptr bm 0 0,.W9 2,.W9 nn] L KN:=by
 subst hnn;refine OH (Hb 2 SP (1+r) W4) h1 h2 h3 ht ha ho (V1 _) W8 hf ?_;rintro _ a' th' le' se' tx' at' lo' o' ar' ks ⟨l,rfl,hl⟩ q2 q3 q4;refine hq l a' th' le' se' tx' at' lo' o' ar' ks (VG hl ?_) q2 q3;have:cq 2=10000:=by decide
 rw[this];omega
theorem cV{α:Type}{f:α→List AV}{K:SH}{ts:List α}{x:α}{raw:List AV}(h:jd K raw (f x))(j:Nat)(r r':List AV)(h1:(ts.map f++[raw])[j]? =some r)(h2:((ts++[x]).map f)[j]? =some r'):jd K r r':=by
 rw[Vr]at h2;rcases Vt j (ts.map f).length with g|g
 ·rw[VF g]at h1 h2;rw[h1]at h2;cases h2;exact .refl _ _
 ·rw[Vx g]at h1 h2;generalize j-(ts.map f).length=k at h1 h2
  match k with
  |0=>cases h1;cases h2;exact h
  |k+1=>simp at h1
theorem iX(l m:List ab):ab.wts (l++m)=ab.wts l+ab.wts m:=by
 induction l with
 |nil=>simp[ab.wts]
 |cons x l ih=>simp only[Wz,ab.wts,ih];omega
def OP(ps:List (List AV×ab))(l:List ab):List (List AV×ab):=ps++l.map λs=>(s.enc,s)
structure fN(ps:List (List AV×ab)):Prop where
 len:∀y∈ps,y.1.length=11
 fz:∀(K:SH),∀y∈ps,∀(q:Nat) (a a2:AV),y.1[q]? =some a→y.2.row[q]? =some a2→Fz K a a2
theorem fN.pl{ps:List (List AV×ab)}(h:fN ps)(l:List ab):fN (OP ps l):=by
 constructor
 ·intro y hy;rcases VC.1 hy with hy|hy
  ·exact h.len y hy
  ·obtain⟨s,_,rfl⟩:=V0.1 hy;show s.enc.length=11;rw[ab.enc_row];rfl
 ·intro K y hy q a a2 h1 h2;rcases VC.1 hy with hy|hy
  ·exact h.fz K y hy q a a2 h1 h2
  ·obtain⟨s,_,rfl⟩:=V0.1 hy;rw[←ab.enc_row]at h2;replace h1:s.enc[q]? =some a:=h1;replace h2:s.enc[q]? =some a2:=h2;rw[h1]at h2;cases h2;exact .refl _
theorem fN.raw{ps:List (List AV×ab)}(h:fN ps)(op:Int)(nm:bj):fN (ps++[(Fi op nm,lD op nm)]):=by
 constructor
 ·intro y hy;rcases VC.1 hy with hy|hy
  ·exact h.len y hy
  ·rw[Vv.1 hy];rfl
 ·intro K y hy q a a2 h1 h2;rcases VC.1 hy with hy|hy
  ·exact h.fz K y hy q a a2 h1 h2
  ·rw[Vv.1 hy]at h1 h2;exact Kf q a a2 h1 h2
theorem fN.go{ps:List (List AV×ab)}(h:fN ps){K:SH}{b n:Nat}{rows:List (List AV)}(hm:(b,⟨11,rows⟩)∈K)(hr:rows=ps.map Prod.fst)(hn:n=ps.length):Fz K (.sl b 0 n) (.lst ((ps.map Prod.snd).map ab.enc)):=EL ps hm hr hn h.len (h.fz K)
theorem kN(ps:List (List AV×ab))(l:List ab):(OP ps l).map Prod.fst=ps.map Prod.fst++l.map ab.enc:=by simp[OP,Function.comp]
theorem kO(ps:List (List AV×ab))(l:List ab):(OP ps l).map Prod.snd=ps.map Prod.snd++l:=by rw[OP,Vr,List.map_map,show(Prod.snd∘λs:ab=>(s.enc,s))=id from rfl,List.map_id]
theorem kP(ps:List (List AV×ab))(l:List ab):(OP ps l).length=ps.length+l.length:=by simp[OP]
theorem SQ{n23:Kn}{bm bt b0 bp nmb bh lb a n i:Nat}{t:List UInt8}{th le:Int}{se tx at_ lo:Bool}{o oT oB:Option Nat}{ar:List bj}{ts:List aj}{ps:List (List AV×ab)}{nm:bj}
  (ht:t.length<2^40) (ha:a≤t.length) (ho:o=none→ar=[]) (hoT:oT=none→ts=[]) (hoB:oB=none→ps=[]) (hts:ts.length≤4) (hps:ps.length≤4)
  (f1:bh≠bm) (f2:bh≠bt) (f3:∀b,o=some b→bh≠b) (hg:fN ps) (hnm:nm.length≤4) (hpw:ab.wts (ps.map Prod.snd)≤100)
  (hn:∀(x:aj) (a':Nat) (th' le':Int) (se' tx' at' lo':Bool) (o':Option Nat) (ar':List bj) (nbT:Nat) (L':SH),(aj.wt x≤40000∧x.name=nm∧x.locals=[[97],[98]])→a'≤t.length→(o'=none→ar'=[])→aI [.ptr b0 0 0,.ptr bm 0 0,.ptr bp 0 0,.W9 n,.sl nmb 0 4,.W9 (IntKind.i64.wrap ((i:Int)+1))] L' [.ptr b0 0 0,.ptr bm 0 0,.ptr bp 0 0,.W9 n,.sl nmb 0 4,.W9 (IntKind.i64.wrap ((i:Int)+1))] (PH bm bt b0 bp nmb t a' th' le' se' tx' at' lo' o' ar' (some nbT) (ts.length+1) (ts++[x]))→aI [.ptr b0 0 0,.ptr bm 0 0,.ptr bp 0 0,.W9 n,.sl nmb 0 4,.W9 (IntKind.i64.wrap ((i:Int)+1))] L' [.ptr b0 0 0,.ptr bm 0 0,.ptr bp 0 0,.W9 n,.sl nmb 0 4,.W9 (IntKind.i64.wrap ((i:Int)+1))] (PZ b0 bp (ts++[x]))→n23 [.ptr b0 0 0,.ptr bm 0 0,.ptr bp 0 0,.W9 n,.sl nmb 0 4,.W9 (IntKind.i64.wrap ((i:Int)+1))] L')
  : bZ n23 [.ptr b0 0 0,.ptr bm 0 0,.ptr bp 0 0,.W9 n,.sl nmb 0 4,.W9 i,.ptr bh 0 0] ((bh,⟨4,[[.str nm,.W9 0,.sl lb 0 2,aq oB ps.length]]⟩)::(lb,⟨1,[[.str [97]],[.str [98]]]⟩)::(bm,dm bt th le se tx at_ lo o 0)::(bt,aP t a)::(b0,⟨2,[[.nils,.nils]]⟩)::(bp,⟨2,[[.lst (bC.map aH.enc),aq oT ts.length]]⟩)::(nmb,⟨1,qj.map aw⟩)::(ah oB 11 (ps.map Prod.fst)++(ah oT 4 (ts.map aj.enc)++ah o 1 (ar.map aw)))):=by
 unfold bZ dm mq
 repeat' (first|refine mN (sQ ?_ (Qd W4))|refine st ?_|((with_reducible refine aZ 23 ?_);(refine fF ht W5 rp (λr_ a_ hr_ ha_=>?_)))|((with_reducible refine ef 23 ?_);refine Cv ht W5 rp (λr_ a_ hr_ ha_=>?_))|((with_reducible refine ef 24 ?_);refine I7 rfl W4 rp rp rp ht W5 W5 (I6 f1 f2 f3) ?_;rintro l_ a_ th_ le_ se_ tx_ at_ lo_ o_ ar_ ks_ hl_ ha_ ho_;have hl9_:=ab.wts_len l_;rcases o_ with _|ob_;all_goals dsimp only[Ct,Cu,List.nil_append,List.cons_append])|(refine C6 rp (λx=>by rw[ab.enc_row];rfl) W7 (λe=>by simp[hoB e]) W4 W4 (λx=>by rw[ab.enc_row];rfl) (λo2_ ho2_=>?_);rcases o2_ with _|ob2_;(have e_:=ho2_ rfl;simp only[List.append_eq_nil_iff,List.map_eq_nil_iff]at e_;obtain⟨rfl,rfl⟩:=e_);all_goals dsimp only[Ct,Cu,List.nil_append,List.cons_append])|refine cy (rows:=[]) (o:=none) rp (.here _) W6 (λ_=>rfl) W6 W7 W7 W7 W6 (λnb_ hnb_=>?_)|refine cy rp rp W7 (λe=>by first|simp[ho2_ e]|simp[hoT e]|simp[hoB e]) W6 W7 (by simp;omega) (by simp;omega) W6 (λnb_ hnb_=>?_)|refine sb λnb_ hnb_=>?_|refine s2 (λh=>?_) λh=>?_|fail)
 all_goals first
  |exact hn ⟨nm,0,[[97],[98]],((OP ps l_).map Prod.snd)⟩ a_ th_ le_ se_ tx_ at_ lo_ none ar_ nb_ _ ⟨by simp only[aj.wt,kO,iX,Vr,Vp,V9,lD,wz,VL,VU,Wm,WH];omega,rfl,rfl⟩ ha_ ho_ (aI.rowA (A:=[(bm,_),(bt,_),(b0,_),(bp,_),(nmb,_)]) (b:=nb_) (R:=[]) (rows':=(ts++[_]).map aj.enc) rp W7 (cV (f:=aj.enc) (.cons (.refl _) (.cons (.refl _) (.cons (Fz.sls (l:=[[97],[98]]) (f:=aw) (size:=1) (b:=lb) mm W6 W8 W6) (.cons ((hg.pl l_).go mm (kN _ _).symm (kP _ _).symm) .nil))))) rfl) (aI.rowA (A:=[(b0,_)]) (b:=bp) (R:=[]) (rows':=[[.lst (bC.map aH.enc),.lst ((ts++[_]).map aj.enc)]]) rp W6 (cN (.cons (.refl _) (.cons (eU (b:=nb_) mm W6 W6 (.cons (.refl _) (.cons (.refl _) (.cons (Fz.sls (l:=[[97],[98]]) (f:=aw) (size:=1) (b:=lb) mm W6 W8 W6) (.cons ((hg.pl l_).go mm (kN _ _).symm (kP _ _).symm) .nil))))) .nil))) rfl)
  |exact hn ⟨nm,0,[[97],[98]],((OP ps l_++[(Fi 13 [116,49],lD 13 [116,49])]).map Prod.snd)⟩ a_ th_ le_ se_ tx_ at_ lo_ none ar_ nb_ _ ⟨by simp only[aj.wt,kO,iX,Vr,Vp,V9,lD,wz,VL,VU,Wm,WH];omega,rfl,rfl⟩ ha_ ho_ (aI.rowA (A:=[(bm,_),(bt,_),(b0,_),(bp,_),(nmb,_)]) (b:=nb_) (R:=[]) (rows':=(ts++[_]).map aj.enc) rp W7 (cV (f:=aj.enc) (.cons (.refl _) (.cons (.refl _) (.cons (Fz.sls (l:=[[97],[98]]) (f:=aw) (size:=1) (b:=lb) mm W6 W8 W6) (.cons (((hg.pl l_).raw 13 [116,49]).go mm (by rw[Vr,kN];rfl) (by rw[Vy,kP];rfl)) .nil))))) rfl) (aI.rowA (A:=[(b0,_)]) (b:=bp) (R:=[]) (rows':=[[.lst (bC.map aH.enc),.lst ((ts++[_]).map aj.enc)]]) rp W6 (cN (.cons (.refl _) (.cons (eU (b:=nb_) mm W6 W6 (.cons (.refl _) (.cons (.refl _) (.cons (Fz.sls (l:=[[97],[98]]) (f:=aw) (size:=1) (b:=lb) mm W6 W8 W6) (.cons (((hg.pl l_).raw 13 [116,49]).go mm (by rw[Vr,kN];rfl) (by rw[Vy,kP];rfl)) .nil))))) .nil))) rfl)
  |exact hn ⟨nm,0,[[97],[98]],[]⟩ a_ th_ le_ se_ tx_ at_ lo_ none ar_ nb_ _ ⟨by simp only[aj.wt,kO,iX,Vr,Vp,V9,lD,wz,VL,VU,Wm,WH];omega,rfl,rfl⟩ ha_ ho_ (aI.rowA (A:=[(bm,_),(bt,_),(b0,_),(bp,_),(nmb,_)]) (b:=nb_) (R:=[]) (rows':=(ts++[_]).map aj.enc) rp W7 (cV (f:=aj.enc) (.cons (.refl _) (.cons (.refl _) (.cons (Fz.sls (l:=[[97],[98]]) (f:=aw) (size:=1) (b:=lb) mm W6 W8 W6) (.cons .emp .nil))))) rfl) (aI.rowA (A:=[(b0,_)]) (b:=bp) (R:=[]) (rows':=[[.lst (bC.map aH.enc),.lst ((ts++[_]).map aj.enc)]]) rp W6 (cN (.cons (.refl _) (.cons (eU (b:=nb_) mm W6 W6 (.cons (.refl _) (.cons (.refl _) (.cons (Fz.sls (l:=[[97],[98]]) (f:=aw) (size:=1) (b:=lb) mm W6 W8 W6) (.cons .emp .nil))))) .nil))) rfl)
  |exact hn ⟨nm,0,[[97],[98]],[lD 13 [116,49]]⟩ a_ th_ le_ se_ tx_ at_ lo_ none ar_ nb_ _ ⟨by simp only[aj.wt,kO,iX,Vr,Vp,V9,lD,wz,VL,VU,Wm,WH];omega,rfl,rfl⟩ ha_ ho_ (aI.rowA (A:=[(bm,_),(bt,_),(b0,_),(bp,_),(nmb,_)]) (b:=nb_) (R:=[]) (rows':=(ts++[_]).map aj.enc) rp W7 (cV (f:=aj.enc) (.cons (.refl _) (.cons (.refl _) (.cons (Fz.sls (l:=[[97],[98]]) (f:=aw) (size:=1) (b:=lb) mm W6 W8 W6) (.cons (((fN.mk nofun nofun:fN []).raw 13 [116,49]).go mm W6 W6) .nil))))) rfl) (aI.rowA (A:=[(b0,_)]) (b:=bp) (R:=[]) (rows':=[[.lst (bC.map aH.enc),.lst ((ts++[_]).map aj.enc)]]) rp W6 (cN (.cons (.refl _) (.cons (eU (b:=nb_) mm W6 W6 (.cons (.refl _) (.cons (.refl _) (.cons (Fz.sls (l:=[[97],[98]]) (f:=aw) (size:=1) (b:=lb) mm W6 W8 W6) (.cons (((fN.mk nofun nofun:fN []).raw 13 [116,49]).go mm W6 W6) .nil))))) .nil))) rfl)
  |exact hn ⟨nm,0,[[97],[98]],((OP ps l_).map Prod.snd)⟩ a_ th_ le_ se_ tx_ at_ lo_ (some ob_) ar_ nb_ _ ⟨by simp only[aj.wt,kO,iX,Vr,Vp,V9,lD,wz,VL,VU,Wm,WH];omega,rfl,rfl⟩ ha_ ho_ (aI.rowA (A:=[(bm,_),(bt,_),(b0,_),(bp,_),(nmb,_)]) (b:=nb_) (R:=[(ob_,_)]) (rows':=(ts++[_]).map aj.enc) rp W7 (cV (f:=aj.enc) (.cons (.refl _) (.cons (.refl _) (.cons (Fz.sls (l:=[[97],[98]]) (f:=aw) (size:=1) (b:=lb) mm W6 W8 W6) (.cons ((hg.pl l_).go mm (kN _ _).symm (kP _ _).symm) .nil))))) rfl) (aI.rowA (A:=[(b0,_)]) (b:=bp) (R:=[]) (rows':=[[.lst (bC.map aH.enc),.lst ((ts++[_]).map aj.enc)]]) rp W6 (cN (.cons (.refl _) (.cons (eU (b:=nb_) mm W6 W6 (.cons (.refl _) (.cons (.refl _) (.cons (Fz.sls (l:=[[97],[98]]) (f:=aw) (size:=1) (b:=lb) mm W6 W8 W6) (.cons ((hg.pl l_).go mm (kN _ _).symm (kP _ _).symm) .nil))))) .nil))) rfl)
  |exact hn ⟨nm,0,[[97],[98]],((OP ps l_++[(Fi 13 [116,49],lD 13 [116,49])]).map Prod.snd)⟩ a_ th_ le_ se_ tx_ at_ lo_ (some ob_) ar_ nb_ _ ⟨by simp only[aj.wt,kO,iX,Vr,Vp,V9,lD,wz,VL,VU,Wm,WH];omega,rfl,rfl⟩ ha_ ho_ (aI.rowA (A:=[(bm,_),(bt,_),(b0,_),(bp,_),(nmb,_)]) (b:=nb_) (R:=[(ob_,_)]) (rows':=(ts++[_]).map aj.enc) rp W7 (cV (f:=aj.enc) (.cons (.refl _) (.cons (.refl _) (.cons (Fz.sls (l:=[[97],[98]]) (f:=aw) (size:=1) (b:=lb) mm W6 W8 W6) (.cons (((hg.pl l_).raw 13 [116,49]).go mm (by rw[Vr,kN];rfl) (by rw[Vy,kP];rfl)) .nil))))) rfl) (aI.rowA (A:=[(b0,_)]) (b:=bp) (R:=[]) (rows':=[[.lst (bC.map aH.enc),.lst ((ts++[_]).map aj.enc)]]) rp W6 (cN (.cons (.refl _) (.cons (eU (b:=nb_) mm W6 W6 (.cons (.refl _) (.cons (.refl _) (.cons (Fz.sls (l:=[[97],[98]]) (f:=aw) (size:=1) (b:=lb) mm W6 W8 W6) (.cons (((hg.pl l_).raw 13 [116,49]).go mm (by rw[Vr,kN];rfl) (by rw[Vy,kP];rfl)) .nil))))) .nil))) rfl)
  |exact hn ⟨nm,0,[[97],[98]],[]⟩ a_ th_ le_ se_ tx_ at_ lo_ (some ob_) ar_ nb_ _ ⟨by simp only[aj.wt,kO,iX,Vr,Vp,V9,lD,wz,VL,VU,Wm,WH];omega,rfl,rfl⟩ ha_ ho_ (aI.rowA (A:=[(bm,_),(bt,_),(b0,_),(bp,_),(nmb,_)]) (b:=nb_) (R:=[(ob_,_)]) (rows':=(ts++[_]).map aj.enc) rp W7 (cV (f:=aj.enc) (.cons (.refl _) (.cons (.refl _) (.cons (Fz.sls (l:=[[97],[98]]) (f:=aw) (size:=1) (b:=lb) mm W6 W8 W6) (.cons .emp .nil))))) rfl) (aI.rowA (A:=[(b0,_)]) (b:=bp) (R:=[]) (rows':=[[.lst (bC.map aH.enc),.lst ((ts++[_]).map aj.enc)]]) rp W6 (cN (.cons (.refl _) (.cons (eU (b:=nb_) mm W6 W6 (.cons (.refl _) (.cons (.refl _) (.cons (Fz.sls (l:=[[97],[98]]) (f:=aw) (size:=1) (b:=lb) mm W6 W8 W6) (.cons .emp .nil))))) .nil))) rfl)
  |exact hn ⟨nm,0,[[97],[98]],[lD 13 [116,49]]⟩ a_ th_ le_ se_ tx_ at_ lo_ (some ob_) ar_ nb_ _ ⟨by simp only[aj.wt,kO,iX,Vr,Vp,V9,lD,wz,VL,VU,Wm,WH];omega,rfl,rfl⟩ ha_ ho_ (aI.rowA (A:=[(bm,_),(bt,_),(b0,_),(bp,_),(nmb,_)]) (b:=nb_) (R:=[(ob_,_)]) (rows':=(ts++[_]).map aj.enc) rp W7 (cV (f:=aj.enc) (.cons (.refl _) (.cons (.refl _) (.cons (Fz.sls (l:=[[97],[98]]) (f:=aw) (size:=1) (b:=lb) mm W6 W8 W6) (.cons (((fN.mk nofun nofun:fN []).raw 13 [116,49]).go mm W6 W6) .nil))))) rfl) (aI.rowA (A:=[(b0,_)]) (b:=bp) (R:=[]) (rows':=[[.lst (bC.map aH.enc),.lst ((ts++[_]).map aj.enc)]]) rp W6 (cN (.cons (.refl _) (.cons (eU (b:=nb_) mm W6 W6 (.cons (.refl _) (.cons (.refl _) (.cons (Fz.sls (l:=[[97],[98]]) (f:=aw) (size:=1) (b:=lb) mm W6 W8 W6) (.cons (((fN.mk nofun nofun:fN []).raw 13 [116,49]).go mm W6 W6) .nil))))) .nil))) rfl)
end
section
set_option maxRecDepth 100000
set_option maxHeartbeats 2000000
theorem EM{α:Type}{o:Option Nat}{size:Nat}{l:List α}{f:α→List AV}{L:SH}(h0:o=none→l=[])(hs:0<size)(hm:∀q∈ah o size (l.map f),q∈L):Fz L (aq o l.length) (.lst (l.map f)):=by
 cases o with
 |none=>rw[h0 rfl];exact .emp
 |some b=>exact Fz.sls (hm _ (.head _)) rfl hs rfl
theorem AK(o:Option Nat)(n:Nat):(aq o n).one=true:=by cases o<;>rfl
theorem I8(o:Option Nat)(n:Nat):(aq o n).cells? =some [aq o n]:=by cases o<;>rfl
section
variable {n151:Kn} {b2 b6 i:Nat} {oc ol od of ot os:Option Nat} {w:aN} {dl:List (List AV)} {ts:List aj} {Q:R}
theorem Qg(hi:i<ts.length)(hi1:IntKind.i64.wrap ((i:Int)+1)=((i+1:Nat):Int))(hw:i=w.threads.length)(hti:i<2^20)(hb:ab.wts ts[i].body<2^20)(hsl:w.sites.length<2^29)(ho:Fh b6 oc ol od of ot os w)
  (hn:QR (n151 [.pptr [[.lst dl,.lst (ts.map aj.enc)]] 0 0,.ptr b2 0 0,.ptr b6 0 0,.W9 ((i+1:Nat):Int)]) b2 b6 (dx w ts[i])) :
  jZ n151 (EO b2 b6 oc ol od of ot os w) (.ptr b6 0 0) (.pptr [[.lst dl,.lst (ts.map aj.enc)]] 0 0) (.W9 i) (.ptr b2 0 0):=by
 have hx:=az (f:=aj.enc) hi;have hcw:=ab.cnts_wt ts[i].body;have hk:=OG i (2^20) ts[i].body W4 W4;have ht0:ot=none→w.threads.map aw=[]:=λe=>by rw[ho.t e];rfl
 unfold dx at hn;rw[←hw]at hn;unfold jZ EO
 repeat' (first|refine st ?_|refine cy rp rp W7 (λe=>by first|simp[ht0 e]) W6 W7 (by simp;omega) (by simp;omega) W6 (λnb_ hnb_=>?_)|((with_reducible refine ef 43 ?_);refine ng ?_;refine Ke (t:=i) (n:=0) hk rp rfl rfl ho.s W4 W4 (λo_ ho_ ks_=>?_);simp only[Wz,Wp,V4])|refine AU ?_ (h2:=I8 _ _) (h4:=AK _ _)|refine sb λnb_ hnb_=>?_|refine s2 (λh=>?_) λh=>?_|fail)
 exact hn oc ol od of (some nb_) o_ _ _ _ _ _ _ _ _ _ _ _ _ _ ⟨ho.c,ho.l,ho.d,ho.f,nofun,ho_,ho.n⟩ rp (by simp[aq]) rfl rfl rfl rfl (by rw[Vr];rfl) rfl
theorem SR(hts:ts.length<2^20)(hb:∀t∈ts,ab.wts t.body<2^20)(hw0:w.threads=[])(hs0:w.sites=[])(hsl:∀k,(((ts.take k).foldl dx w).sites.length<2^29))(ho:Fh b6 oc ol od of ot os w)
  (hq:∀(v:AV) (L:SH),Fz L v (.agg (ts.foldl dx w).enc)→Q v L) :
  W.loop (j0 Q) [.pptr [[.lst dl,.lst (ts.map aj.enc)]] 0 0,.ptr b2 0 0,.ptr b6 0 0,.W9 0] (EO b2 b6 oc ol od of ot os w):=by
 have hlen:∀k,k≤ts.length→((ts.take k).foldl dx w).threads.length=k:=by
  intro k
  induction k with
  |zero=>intro _;simp[hw0]
  |succ k ih=>intro h;rw[vA (show k<ts.length by omega)];simp[dx,ih W4]
 refine cg (β:=Option Nat×Option Nat×Option Nat×Option Nat×Option Nat×Option Nat) ts.length (λi q=>([.pptr [[.lst dl,.lst (ts.map aj.enc)]] 0 0,.ptr b2 0 0,.ptr b6 0 0,.W9 i],EO b2 b6 q.1 q.2.1 q.2.2.1 q.2.2.2.1 q.2.2.2.2.1 q.2.2.2.2.2 ((ts.take i).foldl dx w)))
  (λi q=>Fh b6 q.1 q.2.1 q.2.2.1 q.2.2.2.1 q.2.2.2.2.1 q.2.2.2.2.2 ((ts.take i).foldl dx w)) (oc,ol,od,of,ot,os) ho (.refl _ _) ?_
 rintro i ⟨oc,ol,od,of,ot,os⟩ hi ho;dsimp only at ho ⊢;unfold j0;generalize hnx:(λ(vs':List AV) (L':SH)=>∃j o',i<j∧j≤ts.length∧_)=nx;rcases Nat.lt_or_ge i ts.length with g1|g1
 ·have hd:=bF g1;have hi1:=aE g1 W4;have hgo:QR (nx [.pptr [[.lst dl,.lst (ts.map aj.enc)]] 0 0,.ptr b2 0 0,.ptr b6 0 0,.W9 ((i+1:Nat):Int)]) b2 b6 (dx ((ts.take i).foldl dx w) ts[i]):=.of λoc2 ol2 od2 of2 ot2 os2 L' q1 q2=>by subst hnx;rw[←vA (f:=dx) (a:=w) g1]at q1 q2;exact⟨i+1,(oc2,ol2,od2,of2,ot2,os2),W4,W4,q1,aI.pick q2 rfl⟩
  have hr:=Qg (dl:=dl) g1 hi1 (hlen i W4).symm W4 (hb _ (VI g1)) (hsl i) ho hgo;clear hnx hgo;generalize hW:EO b2 b6 oc ol od of ot os ((ts.take i).foldl dx w)=LW at *
  repeat' (first|exact hr|refine st ?_|refine sb λnb_ hnb_=>?_|refine s2 (λh=>?_) λh=>?_|fail)
 ·have hd:=bM g1;have e:i=ts.length:=by omega
  subst e;rw[List.take_length]at ho ⊢;unfold EO
  repeat' (first|refine st ?_|refine sb λnb_ hnb_=>?_|refine s2 (λh=>?_) λh=>?_|fail)
  refine av (cs:=[aq oc (List.foldl dx w ts).cells.length,aq ol (List.foldl dx w ts).locks.length,aq od (List.foldl dx w ts).conds.length,aq of (List.foldl dx w ts).futures.length,aq ot (List.foldl dx w ts).threads.length,aq os (List.foldl dx w ts).sites.length]) (.there _ (.here _)) rfl rfl (by simp[AK]) rfl ?_
  repeat' (first|refine st ?_|refine sb λnb_ hnb_=>?_|refine s2 (λh=>?_) λh=>?_|fail)
  refine hq _ _ (Fz.aggs (.cons (EM ho.c W8 λq h=>.tail _ (.tail _ (Wo _ h))) (.cons (EM ho.l W8 λq h=>.tail _ (.tail _ (VN _ (Wo _ h)))) (.cons (EM ho.d W8 λq h=>.tail _ (.tail _ (VN _ (VN _ (Wo _ h))))) (.cons (EM ho.f W8 λq h=>.tail _ (.tail _ (VN _ (VN _ (VN _ (Wo _ h)))))) (.cons (EM ho.t W8 λq h=>.tail _ (.tail _ (VN _ (VN _ (VN _ (VN _ (Wo _ h))))))) (.cons (EM ho.s W8 λq h=>.tail _ (.tail _ (VN _ (VN _ (VN _ (VN _ (VN _ h))))))) .nil)))))))
end
theorem Mo(w:aN)(d:aH)(hs:d.size≤4):(bT w d).cells.length≤w.cells.length+4∧(bT w d).locks.length≤w.locks.length+1∧(bT w d).conds.length≤w.conds.length+1∧(bT w d).futures.length≤w.futures.length+1∧(bT w d).threads=w.threads∧(bT w d).sites=w.sites:=by
 unfold bT
 repeat' split
 all_goals simp[aH.celW]
 all_goals omega
theorem F0(w:aN):∀(l:List aH),(∀d∈l,d.size≤4)→(l.foldl bT w).cells.length≤w.cells.length+4*l.length∧(l.foldl bT w).locks.length≤w.locks.length+l.length∧(l.foldl bT w).conds.length≤w.conds.length+l.length∧(l.foldl bT w).futures.length≤w.futures.length+l.length∧(l.foldl bT w).threads=w.threads∧(l.foldl bT w).sites=w.sites:=by
 intro l
 induction l generalizing w with
 |nil=>intro _;simp
 |cons d l ih=>
  intro h;obtain⟨a1,a2,a3,a4,a5,a6⟩:=Mo w d (h d (.head _));obtain⟨b1,b2,b3,b4,b5,b6⟩:=ih (bT w d) λx hx=>h x (.tail _ hx)
  simp only[WU,VL];exact⟨W4,W4,W4,W4,b5.trans a5,b6.trans a6⟩
theorem Kh(ts:List aj):∀(w:aN),(ts.foldl dx w).sites.length=w.sites.length+gC (λt=>ab.cnts t.body) ts:=by
 induction ts with
 |nil=>intro w;simp[gC]
 |cons t l ih=>intro w;rw[WU,ih];simp[dx,sitL_len,gC];omega
theorem Mp(p:bO){ln:Int}(hkind:∀d∈p.decls,(1≤d.kind∧d.kind≤6)∧d.size≤4)(hck:aB Tryz.prog 17 [.agg p.enc] (.tup [.W9 0,.W9 ln]))(hw:p.wt≤200000):aB Tryz.prog 18 [.agg p.enc] (.agg (lC p).enc):=by
 have hdl:=p.decls_len;have htl:=p.threads_len;refine ai.fz (EG _ _ _ ?_);unfold sH bO.enc;generalize hQ:(λ(v:AV) (L:SH)=>∃v2 L2,aI [v] L [v2] L2∧v2=.agg (lC p).enc∧L2=[])=Q;have hq:∀v L,Fz L v (.agg (lC p).enc)→Q v L:=λv L h=>by subst hQ;exact⟨_,[],aI.all h,rfl,rfl⟩
 clear hQ
 repeat' (first|refine st ?_|(refine pf 17 ?_;refine pm (hck) ?_)|refine sb λnb_ hnb_=>?_|refine s2 (λh=>?_) λh=>?_|fail)
 rename_i b0 hb0 b2 hb2;have hlen:∀k,((p.decls.take k).foldl bT aN.zero).cells.length<2^30∧((p.decls.take k).foldl bT aN.zero).locks.length<2^30∧((p.decls.take k).foldl bT aN.zero).conds.length<2^30∧((p.decls.take k).foldl bT aN.zero).futures.length<2^30:=λk=>by
  obtain⟨a1,a2,a3,a4,_,_⟩:=F0 aN.zero (p.decls.take k) λd hd=>(hkind d (List.mem_of_mem_take hd)).2
  have:(p.decls.take k).length≤200000:=by rw[VR];omega
  simp only[aN.zero,VU]at a1 a2 a3 a4;exact⟨by show List.length _<_;unfold aN.zero;omega,by show List.length _<_;unfold aN.zero;omega,by show List.length _<_;unfold aN.zero;omega,by show List.length _<_;unfold aN.zero;omega⟩
 obtain⟨_,_,_,_,hth0,hsi0⟩:=F0 aN.zero p.decls λd hd=>(hkind d hd).2
 refine cg (β:=Option Nat×Option Nat×Option Nat×Option Nat×Option Nat×Option Nat) p.decls.length (λi q=>([.pptr [[.lst (p.decls.map aH.enc),.lst (p.threads.map aj.enc)]] 0 0,.ptr b2 0 0,.ptr nb_ 0 0,.W9 i],EO b2 nb_ q.1 q.2.1 q.2.2.1 q.2.2.2.1 q.2.2.2.2.1 q.2.2.2.2.2 ((p.decls.take i).foldl bT aN.zero)))
  (λi q=>Fh nb_ q.1 q.2.1 q.2.2.1 q.2.2.2.1 q.2.2.2.2.1 q.2.2.2.2.2 ((p.decls.take i).foldl bT aN.zero)) (none,none,none,none,none,none) ⟨λ_=>rfl,λ_=>rfl,λ_=>rfl,λ_=>rfl,λ_=>rfl,λ_=>rfl,nofun⟩ ?_ ?_
 ·exact aI.rowA (K:=[]) (A:=[]) (R:=[(b2,⟨6,[SC]⟩)]) (rows:=[[.nils,.nils,.nils,.nils,.nils,.nils]]) (.one (.here _) (.one (.here _) (.nil _))) rfl (cN (.cons .nile (.cons .nile (.cons .nile (.cons .nile (.cons .nile (.cons .nile .nil))))))) rfl
 rintro i ⟨oc,ol,od,of,ot,os⟩ hi ho;dsimp only at ho ⊢;unfold qh;generalize hnx:(λ(vs':List AV) (L':SH)=>∃j o',i<j∧j≤p.decls.length∧_)=nx;rcases Nat.lt_or_ge i p.decls.length with g1|g1
 ·have hd:=bF g1;have hi1:=aE g1 W4;have hgo:QR (nx [.pptr [[.lst (p.decls.map aH.enc),.lst (p.threads.map aj.enc)]] 0 0,.ptr b2 0 0,.ptr nb_ 0 0,.W9 ((i+1:Nat):Int)]) b2 nb_ (bT ((p.decls.take i).foldl bT aN.zero) p.decls[i]):=.of λoc2 ol2 od2 of2 ot2 os2 L' q1 q2=>by subst hnx;rw[←vA (f:=bT) (a:=aN.zero) g1]at q1 q2;exact⟨i+1,(oc2,ol2,od2,of2,ot2,os2),W4,W4,q1,aI.pick q2 rfl⟩
  obtain⟨a1,a2,a3,a4⟩:=hlen i;have hk:=hkind _ (VI g1);have hr:=SD (rows:=p.decls.map aH.enc) (tl:=p.threads.map aj.enc) (d:=p.decls[i]) (az g1) hk.1 W4 hi1 ho a1 a2 a3 a4 hgo;clear hnx hgo;generalize hW:EO b2 nb_ oc ol od of ot os ((p.decls.take i).foldl bT aN.zero)=LW at *
  repeat' (first|exact hr|refine st ?_|refine sb λnb_ hnb_=>?_|refine s2 (λh=>?_) λh=>?_|fail)
 ·have hd:=bM g1;have e:i=p.decls.length:=by omega
  subst e;rw[List.take_length]at ho ⊢;have hl:=SR (Q:=Q) (dl:=p.decls.map aH.enc) (ts:=p.threads) (b2:=b2) W4 (λt ht=>?hb) hth0 hsi0 (λk=>?hs) ho hq
  case hb=>
   obtain⟨j,hj,rfl⟩:=Wq ht;have:=p.thread_wt hj;unfold aj.wt at this;omega
  case hs=>
   rw[Kh,hsi0];have h1:=D6 (λt:aj=>ab.cnts t.body) p.threads k;have h2:gC (λt:aj=>ab.cnts t.body) p.threads≤p.wt:=by have:=IV (f:=λt:aj=>ab.cnts t.body) (g:=aj.wt) (λt=>by have:=ab.cnts_wt t.body;unfold aj.wt;omega) p.threads;unfold bO.wt;unfold gC at *;omega
   simp only[aN.zero,VU];omega
  generalize hW:EO b2 nb_ oc ol od of ot os (p.decls.foldl bT aN.zero)=LW at *
  repeat' (first|exact hl|refine st ?_|refine sb λnb_ hnb_=>?_|refine s2 (λh=>?_) λh=>?_|fail)
end
section
set_option maxRecDepth 100000
def vC(Q:R)(a:SH)(b:AV):Prop:=aC 1 b a λc=>aC 2 b a λd=>aC 3 b a λe=>W.bslice 1 [(.W9 0)] 3 [(0,c),(1,d),(2,e)] a λf g=>Q f g
def vD(Q:R)(a:SH)(c b:AV):Prop:=wb .eql 3 c (.W9 9) λd=>wk d (aC 2 b a λe=>aC 3 b a λf=>W.bslice 1 [(.W9 0)] 2 [(0,e),(1,f)] a λg h=>Q g h) (Q .nils a)
def vF(Q:R)(c:Vs)(a:SH):Prop:=vO 1 4 37 c λb d e=>wk e (aC 2 b a λf=>W.bslice 1 [(.W9 0)] 1 [(0,f)] a λg h=>Q g h) ((vD Q a d b))
def vG(Q:R)(b:SH)(a c:AV):Prop:=W.join (vF Q) λd=>wb .eql 3 a (.W9 8) λe=>wk e (d [c,a,e] b) (wb .eql 3 a (.W9 26) λf=>d [c,a,f] b)
def vH(Q:R)(a:SH)(c b:AV):Prop:=wb .eql 3 c (.W9 7) λd=>wk d (aC 1 b a λe=>aC 3 b a λf=>W.bslice 1 [(.W9 0)] 2 [(0,e),(1,f)] a λg h=>Q g h) ((vG Q a c b))
def vJ(Q:R)(d:Vs)(a:SH):Prop:=vO 1 4 13 d λb c e=>wk e (aC 1 b a λf=>aC 2 b a λg=>W.bslice 1 [(.W9 0)] 2 [(0,f),(1,g)] a λh i=>Q h i) (wb .eql 3 c (.W9 4) λj=>wk j ((vC Q a b)) ((vH Q a c b)))
def vK(Q:R)(b:SH)(a c:AV):Prop:=W.join (vJ Q) λd=>wb .eql 3 a (.W9 2) λe=>wk e (d [c,a,e] b) (wb .eql 3 a (.W9 3) λf=>d [c,a,f] b)
def vL(Q:R)(c:Vs)(a:SH):Prop:=vO 1 4 5 c λb d e=>wk e (aC 1 b a λf=>W.bslice 1 [(.W9 0)] 1 [(0,f)] a λg h=>Q g h) ((vK Q a d b))
def vM(b:Kn)(c:SH)(a d:AV):Prop:=wb .eql 3 a (.W9 6) λe=>wk e (b [d,a,e] c) (wb .eql 3 a (.W9 10) λf=>wk f (b [d,a,f] c) (wb .eql 3 a (.W9 27) λg=>b [d,a,g] c))
def kQ(f:AV)(L:SH)(Q:R):Prop:=sf f L λa b=>aC 0 a b λc=>W.join (vL Q) λd=>wb .eql 3 c (.W9 1) λe=>wk e (d [a,c,e] b) ((vM d b c a))
theorem vN(t0:AV)(L:SH)(Q:R)(h:kQ t0 L Q):ai Tryz.prog 21 [t0] L Q:=
 fs [(5,[1,4,5]),(8,[1,4,13]),(15,[1,4,37])] [] [(0,[1])] [] Tryz.func21 h
end
end Go.Proofs.YtenbpcngcicamaaGreatDoor.Am
