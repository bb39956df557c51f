/- A part of the proof; the statement is proved in the last part. -/
import Derived.Test.YtenbpcngcicamaaGreatDoorQbx
set_option linter.unusedSimpArgs false
set_option linter.unusedVariables false
namespace Go.Proofs.YtenbpcngcicamaaGreatDoor.Am
section
set_option maxRecDepth 100000
theorem OQ(d:Nat)(hU:de d)(hU0:de 0)(hd9:d≤5):OL (d+1):=by
 intro bm bt t a th le se tx at_ lo o ar k ht ha ho hk hd;refine af.fz (jH _ _ _ _ ?_);unfold gf;generalize hQ:(λ(v:AV) (L:SH)=>∃v2 L2,aG [v] L [v2] L2∧∃(v:AV) (a':Nat) (th' le':Int) (se' tx' at' lo':Bool) (o':Option Nat) (ar':List aZ),v2=v∧OK (d+1) v∧a'≤t.length∧(o'=none→ar'=[])∧k≤ar'.length∧L2=(bm,db bt th' le' se' tx' at' lo' o' k)::(bt,aN t a')::ae o' 1 (ar'.map au))=Q;have hb:co (d+1)=10*co d:=by simp only[co,Nat.pow_succ];omega
 have hb1:100≤co d:=by unfold co;have:1≤10^d:=Nat.one_le_pow _ _ W5;omega
 have hb2:co d≤2^30:=by unfold co;have:10^d≤10^5:=Nat.pow_le_pow_right W5 hd9;omega
 have hb0:co 0=100:=by decide
 have hq:QS Q bm bt k t (10*co d):=λx v a' th' le' se' tx' at' lo' o' ar' L L1 L2 L3 h1 h2 h3 h4 h5 h6 h7 h8=>by subst hQ;exact⟨_,_,EL h1 h2 h3 h4,_,a',th',le',se',tx',at',lo',o',ar',rfl,⟨x,rfl,W1⟩,h6,h7,h8,rfl⟩
 clear hQ hb;have e1:IntKind.i64.wrap (((d+1:Nat):Int)-1)=(d:Int):=by rw[V9 _ W1];omega
 have dp:decide ((0:Int)<((d+1:Nat):Int))=true:=by simp
 have hw:10*co d≤10*co d:=Vl _;have hw1:100≤10*co d:=by omega
 unfold db mg
 repeat' (first|refine st ?_|((with_reducible refine aX 23 ?_);(refine fB ht W2 rp (λr_ a_ hr_ ha_=>?_)))|refine sb λnb_ hnb_=>?_|fail)
 have hr:r_<18:=by omega
 generalize hLL:IntKind.i64.wrap (le-1)=le2;have key:∀ns:Bool,eO Q ((bt,aN t a_)::(nb_,⟨11,[eP]⟩)::(bm,db bt th le2 se tx at_ lo o k)::ae o 1 (ar.map au)) (.ptr bm 0 0) (.W6 ((d+1:Nat):Int)) (r_:Int) (.ptr nb_ 0 0) (.bool ns):=by
  intro ns;have hcases:r_<4∨r_=4∨r_=5∨r_=6∨r_=7∨r_=8∨r_=9∨r_=10∨r_=11∨r_=12∨r_=13∨r_=14∨r_=15∨r_=16∨r_=17:=by omega
  rcases hcases with h4|rfl|rfl|rfl|rfl|rfl|rfl|rfl|rfl|rfl|rfl|rfl|rfl|rfl|rfl
  ·exact QR (d:=0) (r:=r_) hq ht ha_ ho hk h4 hw1
  ·exact QT (d:=0) (r:=0) hq ht ha_ ho hk hw1
  ·exact QU (d:=0) (r:=0) hq ht ha_ ho hk hw1
  ·exact UC (r:=0) hq ht ha_ ho hk hU hd hb1 hb2 hw e1 dp
  ·exact UD (r:=0) hq ht ha_ ho hk hU hd hb1 hb2 hw e1 dp
  ·exact UE (r:=0) hq ht ha_ ho hk hU hd hb1 hb2 hw e1 dp
  ·exact UF (r:=0) hq ht ha_ ho hk hU hd hb1 hb2 hw e1 dp
  ·exact SE (r:=0) hq ht ha_ ho hk hU hd hb1 hb2 hw e1 dp
  ·exact SF (r:=0) hq ht ha_ ho hk hU hd hb1 hb2 hw e1 dp
  ·exact SG (r:=0) hq ht ha_ ho hk hU hd hb1 hb2 hw e1 dp hU0 hb0
  ·exact SI (r:=0) hq ht ha_ ho hk hU hd hb1 hb2 hw e1 dp
  ·exact SJ (r:=0) hq ht ha_ ho hk hU hd hb1 hb2 hw e1 dp
  ·exact SK (r:=0) hq ht ha_ ho hk hU hd hb1 hb2 hw e1 dp
  ·exact OO (d:=0) (r:=0) hq ht ha_ ho hk hw1
  ·exact OP (d:=0) (r:=0) hq ht ha_ ho hk hw1
 cases tx<;>rcases Bool.eq_false_or_eq_true (decide (0<le2))with h0|h0
 all_goals
  rw[h0]
  repeat' (first|refine st ?_|refine sb λnb_ hnb_=>?_|fail)
  exact key _
theorem UG{Q:R}{bm bt nb k r a w d:Nat}{t:List UInt8}{th le:Int}{se tx at_ lo:Bool}{o:Option Nat}{ar:List aZ}{ns:Bool}(hq:QS Q bm bt k t w)(ht:t.length<2^40)(ha:a≤t.length)(ho:o=none→ar=[])(hk:k≤ar.length)(h6:6≤r)(h15:r≤15)(hns:ns=false)(hw:100≤w):eO Q ((bt,aN t a)::(nb,⟨11,[eP]⟩)::(bm,db bt th le se tx at_ lo o k)::ae o 1 (ar.map au)) (.ptr bm 0 0) (.W6 ((0:Nat):Int)) r (.ptr nb 0 0) (.bool ns):=by
 have hE0:=bU 0 W5;have hE1:=bU 1 W5;unfold eO db mg QS eP at *;subst hns;have hcases:r=6∨r=7∨r=8∨r=9∨r=10∨r=11∨r=12∨r=13∨r=14∨r=15:=by omega
 rcases hcases with rfl|rfl|rfl|rfl|rfl|rfl|rfl|rfl|rfl|rfl
 all_goals
  repeat' (first|refine st ?_|((with_reducible refine aX 71 ?_);(first|(refine cC hE1 W3 ht W2 rp rp (λx_ a_ hx_ ha_=>?_))|(refine cC hE0 W3 ht W2 rp rp (λx_ a_ hx_ ha_=>?_))))|(refine pf 25 ?_;refine pm (cB _ _) ?_)|refine sb λnb_ hnb_=>?_|fail)
  exact hq (cy _ _) _ _ _ _ _ _ _ _ _ _ _ _ _ _ rp rp rp (.refl _) sz W2 W2 W2
theorem SL:OL 0:=by
 intro bm bt t a th le se tx at_ lo o ar k ht ha ho hk hd;refine af.fz (jH _ _ _ _ ?_);unfold gf;generalize hQ:(λ(v:AV) (L:SH)=>∃v2 L2,aG [v] L [v2] L2∧∃(v:AV) (a':Nat) (th' le':Int) (se' tx' at' lo':Bool) (o':Option Nat) (ar':List aZ),v2=v∧OK 0 v∧a'≤t.length∧(o'=none→ar'=[])∧k≤ar'.length∧L2=(bm,db bt th' le' se' tx' at' lo' o' k)::(bt,aN t a')::ae o' 1 (ar'.map au))=Q;have hb0:co 0=100:=by decide
 have hq:QS Q bm bt k t (100):=λx v a' th' le' se' tx' at' lo' o' ar' L L1 L2 L3 h1 h2 h3 h4 h5 h6 h7 h8=>by subst hQ;exact⟨_,_,EL h1 h2 h3 h4,_,a',th',le',se',tx',at',lo',o',ar',rfl,⟨x,rfl,W1⟩,h6,h7,h8,rfl⟩
 clear hQ;have hw1:100≤100:=Vl _;unfold db mg
 repeat' (first|refine st ?_|((with_reducible refine aX 23 ?_);(refine fB ht W2 rp (λr_ a_ hr_ ha_=>?_)))|refine sb λnb_ hnb_=>?_|fail)
 have hr:r_<18:=by omega
 generalize hLL:IntKind.i64.wrap (le-1)=le2;have key:eO Q ((bt,aN t a_)::(nb_,⟨11,[eP]⟩)::(bm,db bt th le2 se tx at_ lo o k)::ae o 1 (ar.map au)) (.ptr bm 0 0) (.W6 ((0:Nat):Int)) (r_:Int) (.ptr nb_ 0 0) (.bool false):=by
  have hcases:r_<4∨r_=4∨r_=5∨(6≤r_∧r_≤15)∨r_=16∨r_=17:=by omega
  rcases hcases with h4|rfl|rfl|h4|rfl|rfl
  ·exact QR (d:=0) (r:=r_) hq ht ha_ ho hk h4 hw1
  ·exact QT (d:=0) (r:=0) hq ht ha_ ho hk hw1
  ·exact QU (d:=0) (r:=0) hq ht ha_ ho hk hw1
  ·exact UG (d:=0) hq ht ha_ ho hk h4.1 h4.2 rfl hw1
  ·exact OO (d:=0) (r:=0) hq ht ha_ ho hk hw1
  ·exact OP (d:=0) (r:=0) hq ht ha_ ho hk hw1
 exact key
theorem Km:de 0:=Hg 0 SL
theorem SM:de 1:=Hg 1 (OQ 0 Km Km W5)
theorem SN:de 2:=Hg 2 (OQ 1 SM Km W5)
end
section
set_option maxRecDepth 100000
set_option maxHeartbeats 4000000
def qh:List aZ:=[[109,97,105,110],[116,49],[116,50],[116,51]]
def PH(bm bt b0 bp nmb:Nat)(t:List UInt8)(a:Nat)(th le:Int)(se tx at_ lo:Bool)(o:Option Nat)(ar:List aZ)(oT:Option Nat)(m:Nat)(ts:List ah):SH:=
 (bm,db bt th le se tx at_ lo o 0)::(bt,aN t a)::(b0,⟨2,[[.nils,.nils]]⟩)::(bp,⟨2,[[.lst (bA.map aF.enc),am oT m]]⟩)::(nmb,⟨1,qh.map au⟩)::(ae oT 4 (ts.map ah.enc)++ae o 1 (ar.map au))
theorem Je{bh bm bt i j:Nat}{x y:Blk}{o:Option Nat}{rows:List (List AV)}(f1:bh≠bm)(f2:bh≠bt)(f3:∀b,o=some b→bh≠b):∀z∈[rm j ⟨aa (.ptr bh 0 (0+3)),[],[],[]⟩],W.free z ⟨i,[],SH.names ((bm,x)::(bt,y)::ae o 1 rows),[],true,[]⟩:=by
 intro z hz;simp only[Vr]at hz;subst hz;cases o with
 |none=>simp[rm,W.free,ae,SH.names,aa,dq,f1,f2,f1.symm,f2.symm]
 |some b=>have:=f3 b rfl;simp[rm,W.free,ae,SH.names,aa,dq,f1,f2,f1.symm,f2.symm,this,this.symm]
def PZ(b0 bp:Nat)(ts:List ah):SH:=[(b0,⟨2,[[.nils,.nils]]⟩),(bp,⟨2,[[.lst (bA.map aF.enc),.lst (ts.map ah.enc)]]⟩)]
theorem cJ{K:SH}{x y:List AV}(h:i9 K x y)(j:Nat)(r r':List AV)(h1:[x][j]? =some r)(h2:[y][j]? =some r'):i9 K r r':=by
 match j with
 |0=>cases h1;cases h2;exact h
 |j+1=>simp at h1
theorem eQ{K:SH}{b n:Nat}{ts:List ah}{x:ah}{raw:List AV}{rows:List (List AV)}(hm:(b,⟨4,rows⟩)∈K)(hr:rows=ts.map ah.enc++[raw])(hn:n=ts.length+1)(h:i9 K raw x.enc):Fz K (.sl b 0 n) (.lst ((ts++[x]).map ah.enc)):=by
 have e:(ts++[x]).map ah.enc=(ts.map (λt:ah=>(t.enc,t))++[(raw,x)]).map (λy:List AV×ah=>y.2.enc):=by rw[Vo,Vo,List.map_map];rfl
 rw[e];refine Fz.slm (f:=Prod.fst) (g:=λy:List AV×ah=>y.2.enc) hm (by rw[hr,Vo,List.map_map];rfl) W5 (by rw[hn,Vu,Wq];rfl) (λy hy=>?_) λy hy q a a2 h1 h2=>?_
 ·rcases Vz.1 hy with hy|hy
  ·obtain⟨s,_,rfl⟩:=VY.1 hy;rfl
  ·rw[Vr.1 hy];exact h.at_.1
 ·rcases Vz.1 hy with hy|hy
  ·obtain⟨s,_,rfl⟩:=VY.1 hy;replace h1:s.enc[q]? =some a:=h1;replace h2:s.enc[q]? =some a2:=h2;rw[h1]at h2;cases h2;exact .refl _
  ·rw[Vr.1 hy]at h1 h2;exact h.at_.2 q a a2 h1 h2
theorem Jf{bm bt:Nat}{t:List UInt8}{a r:Nat}{th le:Int}{se tx at_ lo:Bool}{o:Option Nat}{ar:List aZ}{L L1 L2 L3:SH}{i:Nat}{nn:Int}{us:List W.WR}{KN:AV→SH→List Nat→Prop}(hnn:nn=((1+r:Nat):Int))(hr:r<3)(h1:eJ bm (db bt th le se tx at_ lo o 0) L L1)(h2:eJ bt (aN t a) L1 L2)(h3:dL o 1 (ar.map au) L2 L3)(ht:t.length<2^40)(ha:a≤t.length)(ho:o=none→ar=[])
  (hf:∀y∈us,W.free y ⟨i,[],SH.names ((bm,db bt th le se tx at_ lo o 0)::(bt,aN t a)::ae o 1 (ar.map au)),[],true,[]⟩)
  (hq:∀(l:List ab) (a':Nat) (th' le':Int) (se' tx' at' lo':Bool) (o':Option Nat) (ar':List aZ) (ks:List Nat),ab.wts l≤30000→a'≤t.length→(o'=none→ar'=[])→KN (.lst (l.map ab.enc)) ((bm,db bt th' le' se' tx' at' lo' o' 0)::(bt,aN t a')::(ae o' 1 (ar'.map au)++L3)) ks):W.dcallM Tryz.prog us i 24 [.ptr bm 0 0,.W6 2,.W6 nn] L KN:=by
 subst hnn;refine OJ (Hj 2 SN (1+r) W1) h1 h2 h3 ht ha ho (VX _) W5 hf ?_;rintro _ a' th' le' se' tx' at' lo' o' ar' ks ⟨l,rfl,hl⟩ q2 q3 q4;refine hq l a' th' le' se' tx' at' lo' o' ar' ks (VD hl ?_) q2 q3;have:co 2=10000:=by decide
 rw[this];omega
theorem cQ{α:Type}{f:α→List AV}{K:SH}{ts:List α}{x:α}{raw:List AV}(h:i9 K raw (f x))(j:Nat)(r r':List AV)(h1:(ts.map f++[raw])[j]? =some r)(h2:((ts++[x]).map f)[j]? =some r'):i9 K r r':=by
 rw[Vo]at h2;rcases Vp j (ts.map f).length with g|g
 ·rw[VC g]at h1 h2;rw[h1]at h2;cases h2;exact .refl _ _
 ·rw[Vt g]at h1 h2;generalize j-(ts.map f).length=k at h1 h2
  match k with
  |0=>cases h1;cases h2;exact h
  |k+1=>simp at h1
theorem iT(l m:List ab):ab.wts (l++m)=ab.wts l+ab.wts m:=by
 induction l with
 |nil=>simp[ab.wts]
 |cons x l ih=>simp only[Ww,ab.wts,ih];omega
def OR(ps:List (List AV×ab))(l:List ab):List (List AV×ab):=ps++l.map λs=>(s.enc,s)
structure fJ(ps:List (List AV×ab)):Prop where
 len:∀y∈ps,y.1.length=11
 fz:∀(K:SH),∀y∈ps,∀(q:Nat) (a a2:AV),y.1[q]? =some a→y.2.row[q]? =some a2→Fz K a a2
theorem fJ.pl{ps:List (List AV×ab)}(h:fJ ps)(l:List ab):fJ (OR ps l):=by
 constructor
 ·intro y hy;rcases Vz.1 hy with hy|hy
  ·exact h.len y hy
  ·obtain⟨s,_,rfl⟩:=VY.1 hy;show s.enc.length=11;rw[ab.enc_row];rfl
 ·intro K y hy q a a2 h1 h2;rcases Vz.1 hy with hy|hy
  ·exact h.fz K y hy q a a2 h1 h2
  ·obtain⟨s,_,rfl⟩:=VY.1 hy;rw[←ab.enc_row]at h2;replace h1:s.enc[q]? =some a:=h1;replace h2:s.enc[q]? =some a2:=h2;rw[h1]at h2;cases h2;exact .refl _
theorem fJ.raw{ps:List (List AV×ab)}(h:fJ ps)(op:Int)(nm:aZ):fJ (ps++[(Fo op nm,lr op nm)]):=by
 constructor
 ·intro y hy;rcases Vz.1 hy with hy|hy
  ·exact h.len y hy
  ·rw[Vr.1 hy];rfl
 ·intro K y hy q a a2 h1 h2;rcases Vz.1 hy with hy|hy
  ·exact h.fz K y hy q a a2 h1 h2
  ·rw[Vr.1 hy]at h1 h2;exact Kl q a a2 h1 h2
theorem fJ.go{ps:List (List AV×ab)}(h:fJ ps){K:SH}{b n:Nat}{rows:List (List AV)}(hm:(b,⟨11,rows⟩)∈K)(hr:rows=ps.map Prod.fst)(hn:n=ps.length):Fz K (.sl b 0 n) (.lst ((ps.map Prod.snd).map ab.enc)):=EO ps hm hr hn h.len (h.fz K)
theorem kE(ps:List (List AV×ab))(l:List ab):(OR ps l).map Prod.fst=ps.map Prod.fst++l.map ab.enc:=by simp[OR,Function.comp]
theorem kF(ps:List (List AV×ab))(l:List ab):(OR ps l).map Prod.snd=ps.map Prod.snd++l:=by rw[OR,Vo,List.map_map,show(Prod.snd∘λs:ab=>(s.enc,s))=id from rfl,List.map_id]
theorem kG(ps:List (List AV×ab))(l:List ab):(OR ps l).length=ps.length+l.length:=by simp[OR]
theorem SO{n23:Kn}{bm bt b0 bp nmb bh lb a n i:Nat}{t:List UInt8}{th le:Int}{se tx at_ lo:Bool}{o oT oB:Option Nat}{ar:List aZ}{ts:List ah}{ps:List (List AV×ab)}{nm:aZ}
  (ht:t.length<2^40) (ha:a≤t.length) (ho:o=none→ar=[]) (hoT:oT=none→ts=[]) (hoB:oB=none→ps=[]) (hts:ts.length≤4) (hps:ps.length≤4)
  (f1:bh≠bm) (f2:bh≠bt) (f3:∀b,o=some b→bh≠b) (hg:fJ ps) (hnm:nm.length≤4) (hpw:ab.wts (ps.map Prod.snd)≤100)
  (hn:∀(x:ah) (a':Nat) (th' le':Int) (se' tx' at' lo':Bool) (o':Option Nat) (ar':List aZ) (nbT:Nat) (L':SH),(ah.wt x≤40000∧x.name=nm∧x.locals=[[97],[98]])→a'≤t.length→(o'=none→ar'=[])→aG [.ptr b0 0 0,.ptr bm 0 0,.ptr bp 0 0,.W6 n,.sl nmb 0 4,.W6 (IntKind.i64.wrap ((i:Int)+1))] L' [.ptr b0 0 0,.ptr bm 0 0,.ptr bp 0 0,.W6 n,.sl nmb 0 4,.W6 (IntKind.i64.wrap ((i:Int)+1))] (PH bm bt b0 bp nmb t a' th' le' se' tx' at' lo' o' ar' (some nbT) (ts.length+1) (ts++[x]))→aG [.ptr b0 0 0,.ptr bm 0 0,.ptr bp 0 0,.W6 n,.sl nmb 0 4,.W6 (IntKind.i64.wrap ((i:Int)+1))] L' [.ptr b0 0 0,.ptr bm 0 0,.ptr bp 0 0,.W6 n,.sl nmb 0 4,.W6 (IntKind.i64.wrap ((i:Int)+1))] (PZ b0 bp (ts++[x]))→n23 [.ptr b0 0 0,.ptr bm 0 0,.ptr bp 0 0,.W6 n,.sl nmb 0 4,.W6 (IntKind.i64.wrap ((i:Int)+1))] L')
  : bW n23 [.ptr b0 0 0,.ptr bm 0 0,.ptr bp 0 0,.W6 n,.sl nmb 0 4,.W6 i,.ptr bh 0 0] ((bh,⟨4,[[.str nm,.W6 0,.sl lb 0 2,am oB ps.length]]⟩)::(lb,⟨1,[[.str [97]],[.str [98]]]⟩)::(bm,db bt th le se tx at_ lo o 0)::(bt,aN t a)::(b0,⟨2,[[.nils,.nils]]⟩)::(bp,⟨2,[[.lst (bA.map aF.enc),am oT ts.length]]⟩)::(nmb,⟨1,qh.map au⟩)::(ae oB 11 (ps.map Prod.fst)++(ae oT 4 (ts.map ah.enc)++ae o 1 (ar.map au)))):=by
 unfold bW db mg
 repeat' (first|refine lH (sQ ?_ (Qb W1))|refine st ?_|((with_reducible refine aX 23 ?_);(refine fB ht W2 rp (λr_ a_ hr_ ha_=>?_)))|((with_reducible refine dZ 23 ?_);refine Cw ht W2 rp (λr_ a_ hr_ ha_=>?_))|((with_reducible refine dZ 24 ?_);refine Jf rfl W1 rp rp rp ht W2 W2 (Je f1 f2 f3) ?_;rintro l_ a_ th_ le_ se_ tx_ at_ lo_ o_ ar_ ks_ hl_ ha_ ho_;have hl9_:=ab.wts_len l_;rcases o_ with _|ob_;all_goals dsimp only[Cu,Cv,List.nil_append,List.cons_append])|(refine C8 rp (λx=>by rw[ab.enc_row];rfl) W4 (λe=>by simp[hoB e]) W1 W1 (λx=>by rw[ab.enc_row];rfl) (λo2_ ho2_=>?_);rcases o2_ with _|ob2_;(have e_:=ho2_ rfl;simp only[List.append_eq_nil_iff,List.map_eq_nil_iff]at e_;obtain⟨rfl,rfl⟩:=e_);all_goals dsimp only[Cu,Cv,List.nil_append,List.cons_append])|refine cx (rows:=[]) (o:=none) rp (.here _) W3 (λ_=>rfl) W3 W4 W4 W4 W3 (λnb_ hnb_=>?_)|refine cx rp rp W4 (λe=>by first|simp[ho2_ e]|simp[hoT e]|simp[hoB e]) W3 W4 (by simp;omega) (by simp;omega) W3 (λnb_ hnb_=>?_)|refine sb λnb_ hnb_=>?_|refine s2 (λh=>?_) λh=>?_|fail)
 all_goals first
  |exact hn ⟨nm,0,[[97],[98]],((OR ps l_).map Prod.snd)⟩ a_ th_ le_ se_ tx_ at_ lo_ none ar_ nb_ _ ⟨by simp only[ah.wt,kF,iT,Vo,Vm,V6,lr,wz,VI,VR,Wj,WE];omega,rfl,rfl⟩ ha_ ho_ (aG.rowA (A:=[(bm,_),(bt,_),(b0,_),(bp,_),(nmb,_)]) (b:=nb_) (R:=[]) (rows':=(ts++[_]).map ah.enc) rp W4 (cQ (f:=ah.enc) (.cons (.refl _) (.cons (.refl _) (.cons (Fz.sls (l:=[[97],[98]]) (f:=au) (size:=1) (b:=lb) mm W3 W5 W3) (.cons ((hg.pl l_).go mm (kE _ _).symm (kG _ _).symm) .nil))))) rfl) (aG.rowA (A:=[(b0,_)]) (b:=bp) (R:=[]) (rows':=[[.lst (bA.map aF.enc),.lst ((ts++[_]).map ah.enc)]]) rp W3 (cJ (.cons (.refl _) (.cons (eQ (b:=nb_) mm W3 W3 (.cons (.refl _) (.cons (.refl _) (.cons (Fz.sls (l:=[[97],[98]]) (f:=au) (size:=1) (b:=lb) mm W3 W5 W3) (.cons ((hg.pl l_).go mm (kE _ _).symm (kG _ _).symm) .nil))))) .nil))) rfl)
  |exact hn ⟨nm,0,[[97],[98]],((OR ps l_++[(Fo 13 [116,49],lr 13 [116,49])]).map Prod.snd)⟩ a_ th_ le_ se_ tx_ at_ lo_ none ar_ nb_ _ ⟨by simp only[ah.wt,kF,iT,Vo,Vm,V6,lr,wz,VI,VR,Wj,WE];omega,rfl,rfl⟩ ha_ ho_ (aG.rowA (A:=[(bm,_),(bt,_),(b0,_),(bp,_),(nmb,_)]) (b:=nb_) (R:=[]) (rows':=(ts++[_]).map ah.enc) rp W4 (cQ (f:=ah.enc) (.cons (.refl _) (.cons (.refl _) (.cons (Fz.sls (l:=[[97],[98]]) (f:=au) (size:=1) (b:=lb) mm W3 W5 W3) (.cons (((hg.pl l_).raw 13 [116,49]).go mm (by rw[Vo,kE];rfl) (by rw[Vu,kG];rfl)) .nil))))) rfl) (aG.rowA (A:=[(b0,_)]) (b:=bp) (R:=[]) (rows':=[[.lst (bA.map aF.enc),.lst ((ts++[_]).map ah.enc)]]) rp W3 (cJ (.cons (.refl _) (.cons (eQ (b:=nb_) mm W3 W3 (.cons (.refl _) (.cons (.refl _) (.cons (Fz.sls (l:=[[97],[98]]) (f:=au) (size:=1) (b:=lb) mm W3 W5 W3) (.cons (((hg.pl l_).raw 13 [116,49]).go mm (by rw[Vo,kE];rfl) (by rw[Vu,kG];rfl)) .nil))))) .nil))) rfl)
  |exact hn ⟨nm,0,[[97],[98]],[]⟩ a_ th_ le_ se_ tx_ at_ lo_ none ar_ nb_ _ ⟨by simp only[ah.wt,kF,iT,Vo,Vm,V6,lr,wz,VI,VR,Wj,WE];omega,rfl,rfl⟩ ha_ ho_ (aG.rowA (A:=[(bm,_),(bt,_),(b0,_),(bp,_),(nmb,_)]) (b:=nb_) (R:=[]) (rows':=(ts++[_]).map ah.enc) rp W4 (cQ (f:=ah.enc) (.cons (.refl _) (.cons (.refl _) (.cons (Fz.sls (l:=[[97],[98]]) (f:=au) (size:=1) (b:=lb) mm W3 W5 W3) (.cons .emp .nil))))) rfl) (aG.rowA (A:=[(b0,_)]) (b:=bp) (R:=[]) (rows':=[[.lst (bA.map aF.enc),.lst ((ts++[_]).map ah.enc)]]) rp W3 (cJ (.cons (.refl _) (.cons (eQ (b:=nb_) mm W3 W3 (.cons (.refl _) (.cons (.refl _) (.cons (Fz.sls (l:=[[97],[98]]) (f:=au) (size:=1) (b:=lb) mm W3 W5 W3) (.cons .emp .nil))))) .nil))) rfl)
  |exact hn ⟨nm,0,[[97],[98]],[lr 13 [116,49]]⟩ a_ th_ le_ se_ tx_ at_ lo_ none ar_ nb_ _ ⟨by simp only[ah.wt,kF,iT,Vo,Vm,V6,lr,wz,VI,VR,Wj,WE];omega,rfl,rfl⟩ ha_ ho_ (aG.rowA (A:=[(bm,_),(bt,_),(b0,_),(bp,_),(nmb,_)]) (b:=nb_) (R:=[]) (rows':=(ts++[_]).map ah.enc) rp W4 (cQ (f:=ah.enc) (.cons (.refl _) (.cons (.refl _) (.cons (Fz.sls (l:=[[97],[98]]) (f:=au) (size:=1) (b:=lb) mm W3 W5 W3) (.cons (((fJ.mk nofun nofun:fJ []).raw 13 [116,49]).go mm W3 W3) .nil))))) rfl) (aG.rowA (A:=[(b0,_)]) (b:=bp) (R:=[]) (rows':=[[.lst (bA.map aF.enc),.lst ((ts++[_]).map ah.enc)]]) rp W3 (cJ (.cons (.refl _) (.cons (eQ (b:=nb_) mm W3 W3 (.cons (.refl _) (.cons (.refl _) (.cons (Fz.sls (l:=[[97],[98]]) (f:=au) (size:=1) (b:=lb) mm W3 W5 W3) (.cons (((fJ.mk nofun nofun:fJ []).raw 13 [116,49]).go mm W3 W3) .nil))))) .nil))) rfl)
  |exact hn ⟨nm,0,[[97],[98]],((OR ps l_).map Prod.snd)⟩ a_ th_ le_ se_ tx_ at_ lo_ (some ob_) ar_ nb_ _ ⟨by simp only[ah.wt,kF,iT,Vo,Vm,V6,lr,wz,VI,VR,Wj,WE];omega,rfl,rfl⟩ ha_ ho_ (aG.rowA (A:=[(bm,_),(bt,_),(b0,_),(bp,_),(nmb,_)]) (b:=nb_) (R:=[(ob_,_)]) (rows':=(ts++[_]).map ah.enc) rp W4 (cQ (f:=ah.enc) (.cons (.refl _) (.cons (.refl _) (.cons (Fz.sls (l:=[[97],[98]]) (f:=au) (size:=1) (b:=lb) mm W3 W5 W3) (.cons ((hg.pl l_).go mm (kE _ _).symm (kG _ _).symm) .nil))))) rfl) (aG.rowA (A:=[(b0,_)]) (b:=bp) (R:=[]) (rows':=[[.lst (bA.map aF.enc),.lst ((ts++[_]).map ah.enc)]]) rp W3 (cJ (.cons (.refl _) (.cons (eQ (b:=nb_) mm W3 W3 (.cons (.refl _) (.cons (.refl _) (.cons (Fz.sls (l:=[[97],[98]]) (f:=au) (size:=1) (b:=lb) mm W3 W5 W3) (.cons ((hg.pl l_).go mm (kE _ _).symm (kG _ _).symm) .nil))))) .nil))) rfl)
  |exact hn ⟨nm,0,[[97],[98]],((OR ps l_++[(Fo 13 [116,49],lr 13 [116,49])]).map Prod.snd)⟩ a_ th_ le_ se_ tx_ at_ lo_ (some ob_) ar_ nb_ _ ⟨by simp only[ah.wt,kF,iT,Vo,Vm,V6,lr,wz,VI,VR,Wj,WE];omega,rfl,rfl⟩ ha_ ho_ (aG.rowA (A:=[(bm,_),(bt,_),(b0,_),(bp,_),(nmb,_)]) (b:=nb_) (R:=[(ob_,_)]) (rows':=(ts++[_]).map ah.enc) rp W4 (cQ (f:=ah.enc) (.cons (.refl _) (.cons (.refl _) (.cons (Fz.sls (l:=[[97],[98]]) (f:=au) (size:=1) (b:=lb) mm W3 W5 W3) (.cons (((hg.pl l_).raw 13 [116,49]).go mm (by rw[Vo,kE];rfl) (by rw[Vu,kG];rfl)) .nil))))) rfl) (aG.rowA (A:=[(b0,_)]) (b:=bp) (R:=[]) (rows':=[[.lst (bA.map aF.enc),.lst ((ts++[_]).map ah.enc)]]) rp W3 (cJ (.cons (.refl _) (.cons (eQ (b:=nb_) mm W3 W3 (.cons (.refl _) (.cons (.refl _) (.cons (Fz.sls (l:=[[97],[98]]) (f:=au) (size:=1) (b:=lb) mm W3 W5 W3) (.cons (((hg.pl l_).raw 13 [116,49]).go mm (by rw[Vo,kE];rfl) (by rw[Vu,kG];rfl)) .nil))))) .nil))) rfl)
  |exact hn ⟨nm,0,[[97],[98]],[]⟩ a_ th_ le_ se_ tx_ at_ lo_ (some ob_) ar_ nb_ _ ⟨by simp only[ah.wt,kF,iT,Vo,Vm,V6,lr,wz,VI,VR,Wj,WE];omega,rfl,rfl⟩ ha_ ho_ (aG.rowA (A:=[(bm,_),(bt,_),(b0,_),(bp,_),(nmb,_)]) (b:=nb_) (R:=[(ob_,_)]) (rows':=(ts++[_]).map ah.enc) rp W4 (cQ (f:=ah.enc) (.cons (.refl _) (.cons (.refl _) (.cons (Fz.sls (l:=[[97],[98]]) (f:=au) (size:=1) (b:=lb) mm W3 W5 W3) (.cons .emp .nil))))) rfl) (aG.rowA (A:=[(b0,_)]) (b:=bp) (R:=[]) (rows':=[[.lst (bA.map aF.enc),.lst ((ts++[_]).map ah.enc)]]) rp W3 (cJ (.cons (.refl _) (.cons (eQ (b:=nb_) mm W3 W3 (.cons (.refl _) (.cons (.refl _) (.cons (Fz.sls (l:=[[97],[98]]) (f:=au) (size:=1) (b:=lb) mm W3 W5 W3) (.cons .emp .nil))))) .nil))) rfl)
  |exact hn ⟨nm,0,[[97],[98]],[lr 13 [116,49]]⟩ a_ th_ le_ se_ tx_ at_ lo_ (some ob_) ar_ nb_ _ ⟨by simp only[ah.wt,kF,iT,Vo,Vm,V6,lr,wz,VI,VR,Wj,WE];omega,rfl,rfl⟩ ha_ ho_ (aG.rowA (A:=[(bm,_),(bt,_),(b0,_),(bp,_),(nmb,_)]) (b:=nb_) (R:=[(ob_,_)]) (rows':=(ts++[_]).map ah.enc) rp W4 (cQ (f:=ah.enc) (.cons (.refl _) (.cons (.refl _) (.cons (Fz.sls (l:=[[97],[98]]) (f:=au) (size:=1) (b:=lb) mm W3 W5 W3) (.cons (((fJ.mk nofun nofun:fJ []).raw 13 [116,49]).go mm W3 W3) .nil))))) rfl) (aG.rowA (A:=[(b0,_)]) (b:=bp) (R:=[]) (rows':=[[.lst (bA.map aF.enc),.lst ((ts++[_]).map ah.enc)]]) rp W3 (cJ (.cons (.refl _) (.cons (eQ (b:=nb_) mm W3 W3 (.cons (.refl _) (.cons (.refl _) (.cons (Fz.sls (l:=[[97],[98]]) (f:=au) (size:=1) (b:=lb) mm W3 W5 W3) (.cons (((fJ.mk nofun nofun:fJ []).raw 13 [116,49]).go mm W3 W3) .nil))))) .nil))) rfl)
end
section
set_option maxRecDepth 100000
set_option maxHeartbeats 2000000
theorem EP{α:Type}{o:Option Nat}{size:Nat}{l:List α}{f:α→List AV}{L:SH}(h0:o=none→l=[])(hs:0<size)(hm:∀q∈ae o size (l.map f),q∈L):Fz L (am o l.length) (.lst (l.map f)):=by
 cases o with
 |none=>rw[h0 rfl];exact .emp
 |some b=>exact Fz.sls (hm _ (.head _)) rfl hs rfl
theorem AL(o:Option Nat)(n:Nat):(am o n).one=true:=by cases o<;>rfl
theorem Jg(o:Option Nat)(n:Nat):(am o n).cells? =some [am o n]:=by cases o<;>rfl
section
variable {n151:Kn} {b2 b6 i:Nat} {oc ol od of ot os:Option Nat} {w:aM} {dl:List (List AV)} {ts:List ah} {Q:R}
theorem Qe(hi:i<ts.length)(hi1:IntKind.i64.wrap ((i:Int)+1)=((i+1:Nat):Int))(hw:i=w.threads.length)(hti:i<2^20)(hb:ab.wts ts[i].body<2^20)(hsl:w.sites.length<2^29)(ho:Fn b6 oc ol od of ot os w)
  (hn:QP (n151 [.pptr [[.lst dl,.lst (ts.map ah.enc)]] 0 0,.ptr b2 0 0,.ptr b6 0 0,.W6 ((i+1:Nat):Int)]) b2 b6 (dm w ts[i])) :
  jM n151 (ES b2 b6 oc ol od of ot os w) (.ptr b6 0 0) (.pptr [[.lst dl,.lst (ts.map ah.enc)]] 0 0) (.W6 i) (.ptr b2 0 0):=by
 have hx:=aw (f:=ah.enc) hi;have hcw:=ab.cnts_wt ts[i].body;have hk:=OI i (2^20) ts[i].body W1 W1;have ht0:ot=none→w.threads.map au=[]:=λe=>by rw[ho.t e];rfl
 unfold dm at hn;rw[←hw]at hn;unfold jM ES
 repeat' (first|refine st ?_|refine cx rp rp W4 (λe=>by first|simp[ht0 e]) W3 W4 (by simp;omega) (by simp;omega) W3 (λnb_ hnb_=>?_)|((with_reducible refine dZ 43 ?_);refine m4 ?_;refine Kk (t:=i) (n:=0) hk rp rfl rfl ho.s W1 W1 (λo_ ho_ ks_=>?_);simp only[Ww,Wm,VZ])|refine AX ?_ (h2:=Jg _ _) (h4:=AL _ _)|refine sb λnb_ hnb_=>?_|refine s2 (λh=>?_) λh=>?_|fail)
 exact hn oc ol od of (some nb_) o_ _ _ _ _ _ _ _ _ _ _ _ _ _ ⟨ho.c,ho.l,ho.d,ho.f,nofun,ho_,ho.n⟩ rp (by simp[am]) rfl rfl rfl rfl (by rw[Vo];rfl) rfl
theorem SP(hts:ts.length<2^20)(hb:∀t∈ts,ab.wts t.body<2^20)(hw0:w.threads=[])(hs0:w.sites=[])(hsl:∀k,(((ts.take k).foldl dm w).sites.length<2^29))(ho:Fn b6 oc ol od of ot os w)
  (hq:∀(v:AV) (L:SH),Fz L v (.agg (ts.foldl dm w).enc)→Q v L) :
  W.loop (jN Q) [.pptr [[.lst dl,.lst (ts.map ah.enc)]] 0 0,.ptr b2 0 0,.ptr b6 0 0,.W6 0] (ES b2 b6 oc ol od of ot os w):=by
 have hlen:∀k,k≤ts.length→((ts.take k).foldl dm w).threads.length=k:=by
  intro k
  induction k with
  |zero=>intro _;simp[hw0]
  |succ k ih=>intro h;rw[vA (show k<ts.length by omega)];simp[dm,ih W1]
 refine cb (β:=Option Nat×Option Nat×Option Nat×Option Nat×Option Nat×Option Nat) ts.length (λi q=>([.pptr [[.lst dl,.lst (ts.map ah.enc)]] 0 0,.ptr b2 0 0,.ptr b6 0 0,.W6 i],ES b2 b6 q.1 q.2.1 q.2.2.1 q.2.2.2.1 q.2.2.2.2.1 q.2.2.2.2.2 ((ts.take i).foldl dm w)))
  (λi q=>Fn b6 q.1 q.2.1 q.2.2.1 q.2.2.2.1 q.2.2.2.2.1 q.2.2.2.2.2 ((ts.take i).foldl dm w)) (oc,ol,od,of,ot,os) ho (.refl _ _) ?_
 rintro i ⟨oc,ol,od,of,ot,os⟩ hi ho;dsimp only at ho ⊢;unfold jN;generalize hnx:(λ(vs':List AV) (L':SH)=>∃j o',i<j∧j≤ts.length∧_)=nx;rcases Nat.lt_or_ge i ts.length with g1|g1
 ·have hd:=bI g1;have hi1:=aD g1 W1;have hgo:QP (nx [.pptr [[.lst dl,.lst (ts.map ah.enc)]] 0 0,.ptr b2 0 0,.ptr b6 0 0,.W6 ((i+1:Nat):Int)]) b2 b6 (dm ((ts.take i).foldl dm w) ts[i]):=.of λoc2 ol2 od2 of2 ot2 os2 L' q1 q2=>by subst hnx;rw[←vA (f:=dm) (a:=w) g1]at q1 q2;exact⟨i+1,(oc2,ol2,od2,of2,ot2,os2),W1,W1,q1,aG.pick q2 rfl⟩
  have hr:=Qe (dl:=dl) g1 hi1 (hlen i W1).symm W1 (hb _ (VF g1)) (hsl i) ho hgo;clear hnx hgo;generalize hW:ES b2 b6 oc ol od of ot os ((ts.take i).foldl dm w)=LW at *
  repeat' (first|exact hr|refine st ?_|refine sb λnb_ hnb_=>?_|refine s2 (λh=>?_) λh=>?_|fail)
 ·have hd:=bO g1;have e:i=ts.length:=by omega
  subst e;rw[List.take_length]at ho ⊢;unfold ES
  repeat' (first|refine st ?_|refine sb λnb_ hnb_=>?_|refine s2 (λh=>?_) λh=>?_|fail)
  refine aq (cs:=[am oc (List.foldl dm w ts).cells.length,am ol (List.foldl dm w ts).locks.length,am od (List.foldl dm w ts).conds.length,am of (List.foldl dm w ts).futures.length,am ot (List.foldl dm w ts).threads.length,am os (List.foldl dm w ts).sites.length]) (.there _ (.here _)) rfl rfl (by simp[AL]) rfl ?_
  repeat' (first|refine st ?_|refine sb λnb_ hnb_=>?_|refine s2 (λh=>?_) λh=>?_|fail)
  refine hq _ _ (Fz.aggs (.cons (EP ho.c W5 λq h=>.tail _ (.tail _ (Wl _ h))) (.cons (EP ho.l W5 λq h=>.tail _ (.tail _ (VK _ (Wl _ h)))) (.cons (EP ho.d W5 λq h=>.tail _ (.tail _ (VK _ (VK _ (Wl _ h))))) (.cons (EP ho.f W5 λq h=>.tail _ (.tail _ (VK _ (VK _ (VK _ (Wl _ h)))))) (.cons (EP ho.t W5 λq h=>.tail _ (.tail _ (VK _ (VK _ (VK _ (VK _ (Wl _ h))))))) (.cons (EP ho.s W5 λq h=>.tail _ (.tail _ (VK _ (VK _ (VK _ (VK _ (VK _ h))))))) .nil)))))))
end
theorem Mv(w:aM)(d:aF)(hs:d.size≤4):(bR w d).cells.length≤w.cells.length+4∧(bR w d).locks.length≤w.locks.length+1∧(bR w d).conds.length≤w.conds.length+1∧(bR w d).futures.length≤w.futures.length+1∧(bR w d).threads=w.threads∧(bR w d).sites=w.sites:=by
 unfold bR
 repeat' split
 all_goals simp[aF.celW]
 all_goals omega
theorem F7(w:aM):∀(l:List aF),(∀d∈l,d.size≤4)→(l.foldl bR w).cells.length≤w.cells.length+4*l.length∧(l.foldl bR w).locks.length≤w.locks.length+l.length∧(l.foldl bR w).conds.length≤w.conds.length+l.length∧(l.foldl bR w).futures.length≤w.futures.length+l.length∧(l.foldl bR w).threads=w.threads∧(l.foldl bR w).sites=w.sites:=by
 intro l
 induction l generalizing w with
 |nil=>intro _;simp
 |cons d l ih=>
  intro h;obtain⟨a1,a2,a3,a4,a5,a6⟩:=Mv w d (h d (.head _));obtain⟨b1,b2,b3,b4,b5,b6⟩:=ih (bR w d) λx hx=>h x (.tail _ hx)
  simp only[WP,VI];exact⟨W1,W1,W1,W1,b5.trans a5,b6.trans a6⟩
theorem Ko(ts:List ah):∀(w:aM),(ts.foldl dm w).sites.length=w.sites.length+gw (λt=>ab.cnts t.body) ts:=by
 induction ts with
 |nil=>intro w;simp[gw]
 |cons t l ih=>intro w;rw[WP,ih];simp[dm,sitL_len,gw];omega
theorem Mw(p:bL){ln:Int}(hkind:∀d∈p.decls,(1≤d.kind∧d.kind≤6)∧d.size≤4)(hck:az Tryz.prog 17 [.agg p.enc] (.tup [.W6 0,.W6 ln]))(hw:p.wt≤200000):az Tryz.prog 18 [.agg p.enc] (.agg (lq p).enc):=by
 have hdl:=p.decls_len;have htl:=p.threads_len;refine af.fz (EJ _ _ _ ?_);unfold sI bL.enc;generalize hQ:(λ(v:AV) (L:SH)=>∃v2 L2,aG [v] L [v2] L2∧v2=.agg (lq p).enc∧L2=[])=Q;have hq:∀v L,Fz L v (.agg (lq p).enc)→Q v L:=λv L h=>by subst hQ;exact⟨_,[],aG.all h,rfl,rfl⟩
 clear hQ
 repeat' (first|refine st ?_|(refine pf 17 ?_;refine pm (hck) ?_)|refine sb λnb_ hnb_=>?_|refine s2 (λh=>?_) λh=>?_|fail)
 rename_i b0 hb0 b2 hb2;have hlen:∀k,((p.decls.take k).foldl bR aM.zero).cells.length<2^30∧((p.decls.take k).foldl bR aM.zero).locks.length<2^30∧((p.decls.take k).foldl bR aM.zero).conds.length<2^30∧((p.decls.take k).foldl bR aM.zero).futures.length<2^30:=λk=>by
  obtain⟨a1,a2,a3,a4,_,_⟩:=F7 aM.zero (p.decls.take k) λd hd=>(hkind d (List.mem_of_mem_take hd)).2
  have:(p.decls.take k).length≤200000:=by rw[VO];omega
  simp only[aM.zero,VR]at a1 a2 a3 a4;exact⟨by show List.length _<_;unfold aM.zero;omega,by show List.length _<_;unfold aM.zero;omega,by show List.length _<_;unfold aM.zero;omega,by show List.length _<_;unfold aM.zero;omega⟩
 obtain⟨_,_,_,_,hth0,hsi0⟩:=F7 aM.zero p.decls λd hd=>(hkind d hd).2
 refine cb (β:=Option Nat×Option Nat×Option Nat×Option Nat×Option Nat×Option Nat) p.decls.length (λi q=>([.pptr [[.lst (p.decls.map aF.enc),.lst (p.threads.map ah.enc)]] 0 0,.ptr b2 0 0,.ptr nb_ 0 0,.W6 i],ES b2 nb_ q.1 q.2.1 q.2.2.1 q.2.2.2.1 q.2.2.2.2.1 q.2.2.2.2.2 ((p.decls.take i).foldl bR aM.zero)))
  (λi q=>Fn nb_ q.1 q.2.1 q.2.2.1 q.2.2.2.1 q.2.2.2.2.1 q.2.2.2.2.2 ((p.decls.take i).foldl bR aM.zero)) (none,none,none,none,none,none) ⟨λ_=>rfl,λ_=>rfl,λ_=>rfl,λ_=>rfl,λ_=>rfl,λ_=>rfl,nofun⟩ ?_ ?_
 ·exact aG.rowA (K:=[]) (A:=[]) (R:=[(b2,⟨6,[SA]⟩)]) (rows:=[[.nils,.nils,.nils,.nils,.nils,.nils]]) (.one (.here _) (.one (.here _) (.nil _))) rfl (cJ (.cons .nile (.cons .nile (.cons .nile (.cons .nile (.cons .nile (.cons .nile .nil))))))) rfl
 rintro i ⟨oc,ol,od,of,ot,os⟩ hi ho;dsimp only at ho ⊢;unfold qf;generalize hnx:(λ(vs':List AV) (L':SH)=>∃j o',i<j∧j≤p.decls.length∧_)=nx;rcases Nat.lt_or_ge i p.decls.length with g1|g1
 ·have hd:=bI g1;have hi1:=aD g1 W1;have hgo:QP (nx [.pptr [[.lst (p.decls.map aF.enc),.lst (p.threads.map ah.enc)]] 0 0,.ptr b2 0 0,.ptr nb_ 0 0,.W6 ((i+1:Nat):Int)]) b2 nb_ (bR ((p.decls.take i).foldl bR aM.zero) p.decls[i]):=.of λoc2 ol2 od2 of2 ot2 os2 L' q1 q2=>by subst hnx;rw[←vA (f:=bR) (a:=aM.zero) g1]at q1 q2;exact⟨i+1,(oc2,ol2,od2,of2,ot2,os2),W1,W1,q1,aG.pick q2 rfl⟩
  obtain⟨a1,a2,a3,a4⟩:=hlen i;have hk:=hkind _ (VF g1);have hr:=SB (rows:=p.decls.map aF.enc) (tl:=p.threads.map ah.enc) (d:=p.decls[i]) (aw g1) hk.1 W1 hi1 ho a1 a2 a3 a4 hgo;clear hnx hgo;generalize hW:ES b2 nb_ oc ol od of ot os ((p.decls.take i).foldl bR aM.zero)=LW at *
  repeat' (first|exact hr|refine st ?_|refine sb λnb_ hnb_=>?_|refine s2 (λh=>?_) λh=>?_|fail)
 ·have hd:=bO g1;have e:i=p.decls.length:=by omega
  subst e;rw[List.take_length]at ho ⊢;have hl:=SP (Q:=Q) (dl:=p.decls.map aF.enc) (ts:=p.threads) (b2:=b2) W1 (λt ht=>?hb) hth0 hsi0 (λk=>?hs) ho hq
  case hb=>
   obtain⟨j,hj,rfl⟩:=Wn ht;have:=p.thread_wt hj;unfold ah.wt at this;omega
  case hs=>
   rw[Ko,hsi0];have h1:=D9 (λt:ah=>ab.cnts t.body) p.threads k;have h2:gw (λt:ah=>ab.cnts t.body) p.threads≤p.wt:=by have:=I2 (f:=λt:ah=>ab.cnts t.body) (g:=ah.wt) (λt=>by have:=ab.cnts_wt t.body;unfold ah.wt;omega) p.threads;unfold bL.wt;unfold gw at *;omega
   simp only[aM.zero,VR];omega
  generalize hW:ES b2 nb_ oc ol od of ot os (p.decls.foldl bR aM.zero)=LW at *
  repeat' (first|exact hl|refine st ?_|refine sb λnb_ hnb_=>?_|refine s2 (λh=>?_) λh=>?_|fail)
end
section
set_option maxRecDepth 100000
def vC(Q:R)(a:SH)(b:AV):Prop:=aA 1 b a λc=>aA 2 b a λd=>aA 3 b a λe=>W.bslice 1 [(.W6 0)] 3 [(0,c),(1,d),(2,e)] a λf g=>Q f g
def vD(Q:R)(a:SH)(c b:AV):Prop:=wb .eql 3 c (.W6 9) λd=>wk d (aA 2 b a λe=>aA 3 b a λf=>W.bslice 1 [(.W6 0)] 2 [(0,e),(1,f)] a λg h=>Q g h) (Q .nils a)
def vF(Q:R)(c:Vs)(a:SH):Prop:=sg 1 4 37 c λb d e=>wk e (aA 2 b a λf=>W.bslice 1 [(.W6 0)] 1 [(0,f)] a λg h=>Q g h) ((vD Q a d b))
def vG(Q:R)(b:SH)(a c:AV):Prop:=W.join (vF Q) λd=>wb .eql 3 a (.W6 8) λe=>wk e (d [c,a,e] b) (wb .eql 3 a (.W6 26) λf=>d [c,a,f] b)
def vH(Q:R)(a:SH)(c b:AV):Prop:=wb .eql 3 c (.W6 7) λd=>wk d (aA 1 b a λe=>aA 3 b a λf=>W.bslice 1 [(.W6 0)] 2 [(0,e),(1,f)] a λg h=>Q g h) ((vG Q a c b))
def vJ(Q:R)(d:Vs)(a:SH):Prop:=sg 1 4 13 d λb c e=>wk e (aA 1 b a λf=>aA 2 b a λg=>W.bslice 1 [(.W6 0)] 2 [(0,f),(1,g)] a λh i=>Q h i) (wb .eql 3 c (.W6 4) λj=>wk j ((vC Q a b)) ((vH Q a c b)))
def vK(Q:R)(b:SH)(a c:AV):Prop:=W.join (vJ Q) λd=>wb .eql 3 a (.W6 2) λe=>wk e (d [c,a,e] b) (wb .eql 3 a (.W6 3) λf=>d [c,a,f] b)
def vL(Q:R)(c:Vs)(a:SH):Prop:=sg 1 4 5 c λb d e=>wk e (aA 1 b a λf=>W.bslice 1 [(.W6 0)] 1 [(0,f)] a λg h=>Q g h) ((vK Q a d b))
def vM(b:Kn)(c:SH)(a d:AV):Prop:=wb .eql 3 a (.W6 6) λe=>wk e (b [d,a,e] c) (wb .eql 3 a (.W6 10) λf=>wk f (b [d,a,f] c) (wb .eql 3 a (.W6 27) λg=>b [d,a,g] c))
def kH(f:AV)(L:SH)(Q:R):Prop:=sf f L λa b=>aA 0 a b λc=>W.join (vL Q) λd=>wb .eql 3 c (.W6 1) λe=>wk e (d [a,c,e] b) ((vM d b c a))
theorem vN(t0:AV)(L:SH)(Q:R)(h:kH t0 L Q):af Tryz.prog 21 [t0] L Q:=
 fs [(5,[1,4,5]),(8,[1,4,13]),(15,[1,4,37])] [] [(0,[1])] [] Tryz.func21 h
end
end Go.Proofs.YtenbpcngcicamaaGreatDoor.Am
