/- A part of the proof; the statement is proved in the last part. -/
import Derived.Test.YtljkdffikfkcgaaQ2j
set_option linter.unusedSimpArgs false
set_option linter.unusedVariables false
section
namespace Go.Proofs.Ytljkdffikfkcgaa.Am
set_option maxRecDepth 100000
set_option linter.unusedVariables false
theorem DK(d:Nat)(hU:cM d)(hU0:cM 0)(hd9:d≤5):DF (d+1):=by
 intro bm bt t a th le se tx at_ lo o ar k ht ha ho hk hd
 refine am.fz (gD _ _ _ _ ?_)
 unfold eU
 generalize hQ:(fun(v:AV) (L:SH)=>∃v2 L2,aV [v] L [v2] L2∧∃(v:AV) (a':Nat) (th' le':Int) (se' tx' at' lo':Bool) (o':Option Nat) (ar':List aL),v2=v∧DE (d+1) v∧a'≤t.length∧(o'=none→ar'=[])∧k≤ar'.length∧L2=(bm,cL bt th' le' se' tx' at' lo' o' k)::(bt,aM t a')::ao o' 1 (ar'.map az))=Q
 have hb:bL (d+1)=10*bL d:=by simp only[bL,Nat.pow_succ];omega
 have hb1:100≤bL d:=by unfold bL;have:1≤10^d:=Nat.one_le_pow _ _ (by decide);omega
 have hb2:bL d≤2^30:=by unfold bL;have:10^d≤10^5:=Nat.pow_le_pow_right (by decide) hd9;omega
 have hb0:bL 0=100:=by decide
 have hq:QS Q bm bt k t (10*bL d):=fun x v a' th' le' se' tx' at' lo' o' ar' L L1 L2 L3 h1 h2 h3 h4 h5 h6 h7 h8=>by
  subst hQ;exact⟨_,_,vK h1 h2 h3 h4,_,a',th',le',se',tx',at',lo',o',ar',rfl,⟨x,rfl,by omega⟩,h6,h7,h8,rfl⟩
 clear hQ hb
 have e1:IntKind.i64.wrap (((d+1:Nat):Int)-1)=(d:Int):=by rw[IntWalk.i64_in _ (by omega)];omega
 have dp:decide ((0:Int)<((d+1:Nat):Int))=true:=by simp
 have hw:10*bL d≤10*bL d:=Nat.le_refl _
 have hw1:100≤10*bL d:=by omega
 unfold cL iY
 repeat' (first | refine st ?_ | ((with_reducible refine aq 18 ?_);(refine eg ht (by assumption) rp (fun r_ a_ hr_ ha_=>?_))) | refine sb (fun nb_ hnb_=>?_) | fail)
 have hr:r_<18:=by omega
 generalize hLL:IntKind.i64.wrap (le-1)=le2
 have key:∀ns:Bool,dB Q ((bt,aM t a_)::(nb_,⟨11,[dC]⟩)::(bm,cL bt th le2 se tx at_ lo o k)::ao o 1 (ar.map az)) (.ptr bm 0 0) (.int .i64 ((d+1:Nat):Int)) (r_:Int) (.ptr nb_ 0 0) (.bool ns):=by
  intro ns
  have hcases:r_<4∨r_=4∨r_=5∨r_=6∨r_=7∨r_=8∨r_=9∨r_=10∨r_=11∨r_=12∨r_=13∨r_=14∨r_=15∨r_=16∨r_=17:=by omega
  rcases hcases with h4 | rfl | rfl | rfl | rfl | rfl | rfl | rfl | rfl | rfl | rfl | rfl | rfl | rfl | rfl
  ·exact FX (d:=0) (r:=r_) hq ht ha_ ho hk h4 hw1
  ·exact FY (d:=0) (r:=0) hq ht ha_ ho hk hw1
  ·exact FZ (d:=0) (r:=0) hq ht ha_ ho hk hw1
  ·exact II (r:=0) hq ht ha_ ho hk hU hd hb1 hb2 hw e1 dp
  ·exact IJ (r:=0) hq ht ha_ ho hk hU hd hb1 hb2 hw e1 dp
  ·exact IK (r:=0) hq ht ha_ ho hk hU hd hb1 hb2 hw e1 dp
  ·exact IL (r:=0) hq ht ha_ ho hk hU hd hb1 hb2 hw e1 dp
  ·exact G1 (r:=0) hq ht ha_ ho hk hU hd hb1 hb2 hw e1 dp
  ·exact G2 (r:=0) hq ht ha_ ho hk hU hd hb1 hb2 hw e1 dp
  ·exact G3 (r:=0) hq ht ha_ ho hk hU hd hb1 hb2 hw e1 dp hU0 hb0
  ·exact G4 (r:=0) hq ht ha_ ho hk hU hd hb1 hb2 hw e1 dp
  ·exact G5 (r:=0) hq ht ha_ ho hk hU hd hb1 hb2 hw e1 dp
  ·exact G6 (r:=0) hq ht ha_ ho hk hU hd hb1 hb2 hw e1 dp
  ·exact DI (d:=0) (r:=0) hq ht ha_ ho hk hw1
  ·exact DJ (d:=0) (r:=0) hq ht ha_ ho hk hw1
 cases tx<;>rcases Bool.eq_false_or_eq_true (decide (0<le2))with h0 | h0
 all_goals
  rw[h0]
  repeat' (first | refine st ?_ | refine sb (fun nb_ hnb_=>?_) | fail)
  exact key _
theorem IM{Q:R}{bm bt nb k r a w d:Nat}{t:List UInt8}{th le:Int}{se tx at_ lo:Bool}{o:Option Nat}{ar:List aL}{ns:Bool}(hq:QS Q bm bt k t w)(ht:t.length<2^40)(ha:a≤t.length)(ho:o=none→ar=[])(hk:k≤ar.length)(h6:6≤r)(h15:r≤15)(hns:ns=false)(hw:100≤w):dB Q ((bt,aM t a)::(nb,⟨11,[dC]⟩)::(bm,cL bt th le se tx at_ lo o k)::ao o 1 (ar.map az)) (.ptr bm 0 0) (.int .i64 ((0:Nat):Int)) r (.ptr nb 0 0) (.bool ns):=by
 have hE0:=bI 0 (by decide)
 have hE1:=bI 1 (by decide)
 unfold dB cL iY QS dC at *
 subst hns
 have hcases:r=6∨r=7∨r=8∨r=9∨r=10∨r=11∨r=12∨r=13∨r=14∨r=15:=by omega
 rcases hcases with rfl | rfl | rfl | rfl | rfl | rfl | rfl | rfl | rfl | rfl
 all_goals
  repeat' (first | refine st ?_ | ((with_reducible refine aq 52 ?_);(first | (refine bW hE1 (by rfl) ht (by assumption) rp rp (fun x_ a_ hx_ ha_=>?_)) | (refine bW hE0 (by rfl) ht (by assumption) rp rp (fun x_ a_ hx_ ha_=>?_)))) | ((with_reducible refine aq 20 ?_);refine aj (aN _ _) ?_) | ((with_reducible refine al 20 ?_);refine ab (aN _ _) ?_) | refine sb (fun nb_ hnb_=>?_) | fail)
  exact hq (aE _ _) _ _ _ _ _ _ _ _ _ _ _ _ _ _ rp rp rp (.refl _) (by simp only[aa.wt,aa.wts,ac.wt,ac.wts,aE,bP,cS,dS,aW,List.length_cons,List.length_nil];omega) (by assumption) (by assumption) (by assumption)
theorem G7:DF 0:=by
 intro bm bt t a th le se tx at_ lo o ar k ht ha ho hk hd
 refine am.fz (gD _ _ _ _ ?_)
 unfold eU
 generalize hQ:(fun(v:AV) (L:SH)=>∃v2 L2,aV [v] L [v2] L2∧∃(v:AV) (a':Nat) (th' le':Int) (se' tx' at' lo':Bool) (o':Option Nat) (ar':List aL),v2=v∧DE 0 v∧a'≤t.length∧(o'=none→ar'=[])∧k≤ar'.length∧L2=(bm,cL bt th' le' se' tx' at' lo' o' k)::(bt,aM t a')::ao o' 1 (ar'.map az))=Q
 have hb0:bL 0=100:=by decide
 have hq:QS Q bm bt k t (100):=fun x v a' th' le' se' tx' at' lo' o' ar' L L1 L2 L3 h1 h2 h3 h4 h5 h6 h7 h8=>by
  subst hQ;exact⟨_,_,vK h1 h2 h3 h4,_,a',th',le',se',tx',at',lo',o',ar',rfl,⟨x,rfl,by omega⟩,h6,h7,h8,rfl⟩
 clear hQ
 have hw1:100≤100:=Nat.le_refl _
 unfold cL iY
 repeat' (first | refine st ?_ | ((with_reducible refine aq 18 ?_);(refine eg ht (by assumption) rp (fun r_ a_ hr_ ha_=>?_))) | refine sb (fun nb_ hnb_=>?_) | fail)
 have hr:r_<18:=by omega
 generalize hLL:IntKind.i64.wrap (le-1)=le2
 have key:dB Q ((bt,aM t a_)::(nb_,⟨11,[dC]⟩)::(bm,cL bt th le2 se tx at_ lo o k)::ao o 1 (ar.map az)) (.ptr bm 0 0) (.int .i64 ((0:Nat):Int)) (r_:Int) (.ptr nb_ 0 0) (.bool false):=by
  have hcases:r_<4∨r_=4∨r_=5∨(6≤r_∧r_≤15)∨r_=16∨r_=17:=by omega
  rcases hcases with h4 | rfl | rfl | h4 | rfl | rfl
  ·exact FX (d:=0) (r:=r_) hq ht ha_ ho hk h4 hw1
  ·exact FY (d:=0) (r:=0) hq ht ha_ ho hk hw1
  ·exact FZ (d:=0) (r:=0) hq ht ha_ ho hk hw1
  ·exact IM (d:=0) hq ht ha_ ho hk h4.1 h4.2 rfl hw1
  ·exact DI (d:=0) (r:=0) hq ht ha_ ho hk hw1
  ·exact DJ (d:=0) (r:=0) hq ht ha_ ho hk hw1
 exact key
theorem Av:cM 0:=xZ 0 G7
theorem G8:cM 1:=xZ 1 (DK 0 Av Av (by decide))
theorem G9:cM 2:=xZ 2 (DK 1 G8 Av (by decide))
end Go.Proofs.Ytljkdffikfkcgaa.Am
end
section
namespace Go.Proofs.Ytljkdffikfkcgaa.Am
set_option maxRecDepth 100000
set_option maxHeartbeats 4000000
set_option linter.unusedVariables false
def l8:List aL:=[[109,97,105,110],[116,49],[116,50],[116,51]]
def PH(bm bt b0 bp nmb:Nat)(t:List UInt8)(a:Nat)(th le:Int)(se tx at_ lo:Bool)(o:Option Nat)(ar:List aL)(oT:Option Nat)(m:Nat)(ts:List ai):SH:=
 (bm,cL bt th le se tx at_ lo o 0)::(bt,aM t a)::(b0,⟨2,[[.nils,.nils]]⟩)::(bp,⟨2,[[.lst (aP.map av.enc),au oT m]]⟩)::(nmb,⟨1,l8.map az⟩)::(ao oT 4 (ts.map ai.enc)++ao o 1 (ar.map az))
theorem um{n:Nat}{rows:List (List AV)}:ao none n rows=[]:=rfl
theorem uo{b n:Nat}{rows:List (List AV)}:ao (some b) n rows=[(b,⟨n,rows⟩)]:=rfl
theorem zC{bh bm bt i j:Nat}{x y:Blk}{o:Option Nat}{rows:List (List AV)}(f1:bh≠bm)(f2:bh≠bt)(f3:∀b,o=some b→bh≠b):∀z∈[rm j ⟨af (.ptr bh 0 (0+3)),[],[],[]⟩],W.free z ⟨i,[],SH.names ((bm,x)::(bt,y)::ao o 1 rows),[],true,[]⟩:=by
 intro z hz
 simp only[List.mem_singleton]at hz
 subst hz
 cases o with
 | none=>simp[rm,W.free,ao,SH.names,af,dw,f1,f2,f1.symm,f2.symm]
 | some b=>have:=f3 b rfl;simp[rm,W.free,ao,SH.names,af,dw,f1,f2,f1.symm,f2.symm,this,this.symm]
def PZ(b0 bp:Nat)(ts:List ai):SH:=[(b0,⟨2,[[.nils,.nils]]⟩),(bp,⟨2,[[.lst (aP.map av.enc),.lst (ts.map ai.enc)]]⟩)]
theorem co{K:SH}{x y:List AV}(h:pV K x y)(j:Nat)(r r':List AV)(h1:[x][j]? =some r)(h2:[y][j]? =some r'):pV K r r':=by
 match j with
 | 0=>cases h1;cases h2;exact h
 | j+1=>simp at h1
theorem dD{K:SH}{b n:Nat}{ts:List ai}{x:ai}{raw:List AV}{rows:List (List AV)}(hm:(b,⟨4,rows⟩)∈K)(hr:rows=ts.map ai.enc++[raw])(hn:n=ts.length+1)(h:pV K raw x.enc):Fz K (.sl b 0 n) (.lst ((ts++[x]).map ai.enc)):=by
 have e:(ts++[x]).map ai.enc=(ts.map (fun t:ai=>(t.enc,t))++[(raw,x)]).map (fun y:List AV×ai=>y.2.enc):=by
  rw[List.map_append,List.map_append,List.map_map];rfl
 rw[e]
 refine Fz.slm (f:=Prod.fst) (g:=fun y:List AV×ai=>y.2.enc) hm (by rw[hr,List.map_append,List.map_map];rfl) (by decide) (by rw[hn,List.length_append,List.length_map];rfl) (fun y hy=>?_) fun y hy q a a2 h1 h2=>?_
 ·rcases List.mem_append.1 hy with hy | hy
  ·obtain⟨s,_,rfl⟩:=List.mem_map.1 hy;rfl
  ·rw[List.mem_singleton.1 hy];exact h.at_.1
 ·rcases List.mem_append.1 hy with hy | hy
  ·obtain⟨s,_,rfl⟩:=List.mem_map.1 hy
   replace h1:s.enc[q]? =some a:=h1
   replace h2:s.enc[q]? =some a2:=h2
   rw[h1]at h2;cases h2;exact .refl _
  ·rw[List.mem_singleton.1 hy]at h1 h2;exact h.at_.2 q a a2 h1 h2
theorem zD{bm bt:Nat}{t:List UInt8}{a r:Nat}{th le:Int}{se tx at_ lo:Bool}{o:Option Nat}{ar:List aL}{L L1 L2 L3:SH}{i:Nat}{nn:Int}{us:List W.WR}{KN:AV→SH→List Nat→Prop}(hnn:nn=((1+r:Nat):Int))(hr:r<3)(h1:dG bm (cL bt th le se tx at_ lo o 0) L L1)(h2:dG bt (aM t a) L1 L2)(h3:cW o 1 (ar.map az) L2 L3)(ht:t.length<2^40)(ha:a≤t.length)(ho:o=none→ar=[])
  (hf:∀y∈us,W.free y ⟨i,[],SH.names ((bm,cL bt th le se tx at_ lo o 0)::(bt,aM t a)::ao o 1 (ar.map az)),[],true,[]⟩)
  (hq:∀(l:List aa) (a':Nat) (th' le':Int) (se' tx' at' lo':Bool) (o':Option Nat) (ar':List aL) (ks:List Nat),aa.wts l≤30000→a'≤t.length→(o'=none→ar'=[])→KN (.lst (l.map aa.enc)) ((bm,cL bt th' le' se' tx' at' lo' o' 0)::(bt,aM t a')::(ao o' 1 (ar'.map az)++L3)) ks):W.dcallM Try.prog us i 19 [.ptr bm 0 0,.int .i64 2,.int .i64 nn] L KN:=by
 subst hnn
 refine DD (ya 2 G9 (1+r) (by omega)) h1 h2 h3 ht ha ho (Nat.zero_le _) (by decide) hf ?_
 rintro _ a' th' le' se' tx' at' lo' o' ar' ks ⟨l,rfl,hl⟩ q2 q3 q4
 refine hq l a' th' le' se' tx' at' lo' o' ar' ks (Nat.le_trans hl ?_) q2 q3
 have:bL 2=10000:=by decide
 rw[this];omega
theorem cy{α:Type}{f:α→List AV}{K:SH}{ts:List α}{x:α}{raw:List AV}(h:pV K raw (f x))(j:Nat)(r r':List AV)(h1:(ts.map f++[raw])[j]? =some r)(h2:((ts++[x]).map f)[j]? =some r'):pV K r r':=by
 rw[List.map_append]at h2
 rcases Nat.lt_or_ge j (ts.map f).length with g | g
 ·rw[List.getElem?_append_left g]at h1 h2
  rw[h1]at h2;cases h2;exact .refl _ _
 ·rw[List.getElem?_append_right g]at h1 h2
  generalize j-(ts.map f).length=k at h1 h2
  match k with
  | 0=>cases h1;cases h2;exact h
  | k+1=>simp at h1
theorem fW(l m:List aa):aa.wts (l++m)=aa.wts l+aa.wts m:=by
 induction l with
 | nil=>simp[aa.wts]
 | cons x l ih=>simp only[List.cons_append,aa.wts,ih];omega
def DL(ps:List (List AV×aa))(l:List aa):List (List AV×aa):=ps++l.map fun s=>(s.enc,s)
structure ew(ps:List (List AV×aa)):Prop where
 len:∀y∈ps,y.1.length=11
 fz:∀(K:SH),∀y∈ps,∀(q:Nat) (a a2:AV),y.1[q]? =some a→y.2.row[q]? =some a2→Fz K a a2
theorem ew.pl{ps:List (List AV×aa)}(h:ew ps)(l:List aa):ew (DL ps l):=by
 constructor
 ·intro y hy
  rcases List.mem_append.1 hy with hy | hy
  ·exact h.len y hy
  ·obtain⟨s,_,rfl⟩:=List.mem_map.1 hy
   show s.enc.length=11
   rw[aa.enc_row];rfl
 ·intro K y hy q a a2 h1 h2
  rcases List.mem_append.1 hy with hy | hy
  ·exact h.fz K y hy q a a2 h1 h2
  ·obtain⟨s,_,rfl⟩:=List.mem_map.1 hy
   rw[←aa.enc_row]at h2
   replace h1:s.enc[q]? =some a:=h1
   replace h2:s.enc[q]? =some a2:=h2
   rw[h1]at h2;cases h2;exact .refl _
theorem ew.raw{ps:List (List AV×aa)}(h:ew ps)(op:Int)(nm:aL):ew (ps++[(wR op nm,gR op nm)]):=by
 constructor
 ·intro y hy
  rcases List.mem_append.1 hy with hy | hy
  ·exact h.len y hy
  ·rw[List.mem_singleton.1 hy];rfl
 ·intro K y hy q a a2 h1 h2
  rcases List.mem_append.1 hy with hy | hy
  ·exact h.fz K y hy q a a2 h1 h2
  ·rw[List.mem_singleton.1 hy]at h1 h2;exact Au q a a2 h1 h2
theorem ew.go{ps:List (List AV×aa)}(h:ew ps){K:SH}{b n:Nat}{rows:List (List AV)}(hm:(b,⟨11,rows⟩)∈K)(hr:rows=ps.map Prod.fst)(hn:n=ps.length):Fz K (.sl b 0 n) (.lst ((ps.map Prod.snd).map aa.enc)):=vN ps hm hr hn h.len (h.fz K)
theorem ig(ps:List (List AV×aa))(l:List aa):(DL ps l).map Prod.fst=ps.map Prod.fst++l.map aa.enc:=by simp[DL,Function.comp]
theorem ii(ps:List (List AV×aa))(l:List aa):(DL ps l).map Prod.snd=ps.map Prod.snd++l:=by rw[DL,List.map_append,List.map_map,show(Prod.snd∘fun s:aa=>(s.enc,s))=id from rfl,List.map_id]
theorem ij(ps:List (List AV×aa))(l:List aa):(DL ps l).length=ps.length+l.length:=by simp[DL]
theorem Ha{n23:Kn}{bm bt b0 bp nmb bh lb a n i:Nat}{t:List UInt8}{th le:Int}{se tx at_ lo:Bool}{o oT oB:Option Nat}{ar:List aL}{ts:List ai}{ps:List (List AV×aa)}{nm:aL}
  (ht:t.length<2^40) (ha:a≤t.length) (ho:o=none→ar=[]) (hoT:oT=none→ts=[]) (hoB:oB=none→ps=[]) (hts:ts.length≤4) (hps:ps.length≤4)
  (f1:bh≠bm) (f2:bh≠bt) (f3:∀b,o=some b→bh≠b) (hg:ew ps) (hnm:nm.length≤4) (hpw:aa.wts (ps.map Prod.snd)≤100)
  (hn:∀(x:ai) (a':Nat) (th' le':Int) (se' tx' at' lo':Bool) (o':Option Nat) (ar':List aL) (nbT:Nat) (L':SH),ai.wt x≤40000→a'≤t.length→(o'=none→ar'=[])→aV [.ptr b0 0 0,.ptr bm 0 0,.ptr bp 0 0,.int .i64 n,.sl nmb 0 4,.int .i64 (IntKind.i64.wrap ((i:Int)+1))] L' [.ptr b0 0 0,.ptr bm 0 0,.ptr bp 0 0,.int .i64 n,.sl nmb 0 4,.int .i64 (IntKind.i64.wrap ((i:Int)+1))] (PH bm bt b0 bp nmb t a' th' le' se' tx' at' lo' o' ar' (some nbT) (ts.length+1) (ts++[x]))→aV [.ptr b0 0 0,.ptr bm 0 0,.ptr bp 0 0,.int .i64 n,.sl nmb 0 4,.int .i64 (IntKind.i64.wrap ((i:Int)+1))] L' [.ptr b0 0 0,.ptr bm 0 0,.ptr bp 0 0,.int .i64 n,.sl nmb 0 4,.int .i64 (IntKind.i64.wrap ((i:Int)+1))] (PZ b0 bp (ts++[x]))→n23 [.ptr b0 0 0,.ptr bm 0 0,.ptr bp 0 0,.int .i64 n,.sl nmb 0 4,.int .i64 (IntKind.i64.wrap ((i:Int)+1))] L')
  : bJ n23 [.ptr b0 0 0,.ptr bm 0 0,.ptr bp 0 0,.int .i64 n,.sl nmb 0 4,.int .i64 i,.ptr bh 0 0] ((bh,⟨4,[[.str nm,.int .i64 0,.sl lb 0 2,au oB ps.length]]⟩)::(lb,⟨1,[[.str [97]],[.str [98]]]⟩)::(bm,cL bt th le se tx at_ lo o 0)::(bt,aM t a)::(b0,⟨2,[[.nils,.nils]]⟩)::(bp,⟨2,[[.lst (aP.map av.enc),au oT ts.length]]⟩)::(nmb,⟨1,l8.map az⟩)::(ao oB 11 (ps.map Prod.fst)++(ao oT 4 (ts.map ai.enc)++ao o 1 (ar.map az)))):=by
 unfold bJ cL iY
 repeat' (first | refine dm (b9 ?_ (E2 (by omega))) | refine st ?_ | ((with_reducible refine aq 18 ?_);(refine eg ht (by assumption) rp (fun r_ a_ hr_ ha_=>?_))) | ((with_reducible refine al 18 ?_);refine uk ht (by assumption) rp (fun r_ a_ hr_ ha_=>?_)) | ((with_reducible refine al 19 ?_);refine zD rfl (by omega) rp rp rp ht (by assumption) (by assumption) (zC f1 f2 f3) ?_;rintro l_ a_ th_ le_ se_ tx_ at_ lo_ o_ ar_ ks_ hl_ ha_ ho_;have hl9_:=aa.wts_len l_;rcases o_ with _ | ob_;all_goals dsimp only[um,uo,List.nil_append,List.cons_append]) | (refine C8 rp (fun x=>by rw[aa.enc_row];rfl) (by simp) (fun e=>by simp[hoB e]) (by omega) (by omega) (fun x=>by rw[aa.enc_row];rfl) (fun o2_ ho2_=>?_);rcases o2_ with _ | ob2_;(have e_:=ho2_ rfl;simp only[List.append_eq_nil_iff,List.map_eq_nil_iff]at e_;obtain⟨rfl,rfl⟩:=e_);all_goals dsimp only[um,uo,List.nil_append,List.cons_append]) | refine cI (rows:=[]) (o:=none) rp (.here _) (by rfl) (fun _=>rfl) (by rfl) (by simp) (by simp) (by simp) (by rfl) (fun nb_ hnb_=>?_) | refine cI rp rp (by simp) (fun e=>by first | simp[ho2_ e] | simp[hoT e] | simp[hoB e]) (by rfl) (by simp) (by simp;omega) (by simp;omega) (by rfl) (fun nb_ hnb_=>?_) | refine sb (fun nb_ hnb_=>?_) | refine s2 (fun h=>?_) (fun h=>?_) | fail)
 all_goals first
  | exact hn ⟨nm,0,[[97],[98]],((DL ps l_).map Prod.snd)⟩ a_ th_ le_ se_ tx_ at_ lo_ none ar_ nb_ _ (by simp only[ai.wt,ii,fW,List.map_append,List.map_cons,List.map_nil,gR,aW,aa.wt,aa.wts,ac.wt,ac.wts,List.length_cons,List.length_nil,List.sum_cons,List.sum_nil];omega) ha_ ho_ (aV.rowA (A:=[(bm,_),(bt,_),(b0,_),(bp,_),(nmb,_)]) (b:=nb_) (R:=[]) (rows':=(ts++[_]).map ai.enc) rp (by simp) (cy (f:=ai.enc) (.cons (.refl _) (.cons (.refl _) (.cons (Fz.sls (l:=[[97],[98]]) (f:=az) (size:=1) (b:=lb) mm (by rfl) (by decide) (by rfl)) (.cons ((hg.pl l_).go mm (ig _ _).symm (ij _ _).symm) .nil))))) rfl) (aV.rowA (A:=[(b0,_)]) (b:=bp) (R:=[]) (rows':=[[.lst (aP.map av.enc),.lst ((ts++[_]).map ai.enc)]]) rp (by rfl) (co (.cons (.refl _) (.cons (dD (b:=nb_) mm (by rfl) (by rfl) (.cons (.refl _) (.cons (.refl _) (.cons (Fz.sls (l:=[[97],[98]]) (f:=az) (size:=1) (b:=lb) mm (by rfl) (by decide) (by rfl)) (.cons ((hg.pl l_).go mm (ig _ _).symm (ij _ _).symm) .nil))))) .nil))) rfl)
  | exact hn ⟨nm,0,[[97],[98]],((DL ps l_++[(wR 13 [116,49],gR 13 [116,49])]).map Prod.snd)⟩ a_ th_ le_ se_ tx_ at_ lo_ none ar_ nb_ _ (by simp only[ai.wt,ii,fW,List.map_append,List.map_cons,List.map_nil,gR,aW,aa.wt,aa.wts,ac.wt,ac.wts,List.length_cons,List.length_nil,List.sum_cons,List.sum_nil];omega) ha_ ho_ (aV.rowA (A:=[(bm,_),(bt,_),(b0,_),(bp,_),(nmb,_)]) (b:=nb_) (R:=[]) (rows':=(ts++[_]).map ai.enc) rp (by simp) (cy (f:=ai.enc) (.cons (.refl _) (.cons (.refl _) (.cons (Fz.sls (l:=[[97],[98]]) (f:=az) (size:=1) (b:=lb) mm (by rfl) (by decide) (by rfl)) (.cons (((hg.pl l_).raw 13 [116,49]).go mm (by rw[List.map_append,ig];rfl) (by rw[List.length_append,ij];rfl)) .nil))))) rfl) (aV.rowA (A:=[(b0,_)]) (b:=bp) (R:=[]) (rows':=[[.lst (aP.map av.enc),.lst ((ts++[_]).map ai.enc)]]) rp (by rfl) (co (.cons (.refl _) (.cons (dD (b:=nb_) mm (by rfl) (by rfl) (.cons (.refl _) (.cons (.refl _) (.cons (Fz.sls (l:=[[97],[98]]) (f:=az) (size:=1) (b:=lb) mm (by rfl) (by decide) (by rfl)) (.cons (((hg.pl l_).raw 13 [116,49]).go mm (by rw[List.map_append,ig];rfl) (by rw[List.length_append,ij];rfl)) .nil))))) .nil))) rfl)
  | exact hn ⟨nm,0,[[97],[98]],[]⟩ a_ th_ le_ se_ tx_ at_ lo_ none ar_ nb_ _ (by simp only[ai.wt,ii,fW,List.map_append,List.map_cons,List.map_nil,gR,aW,aa.wt,aa.wts,ac.wt,ac.wts,List.length_cons,List.length_nil,List.sum_cons,List.sum_nil];omega) ha_ ho_ (aV.rowA (A:=[(bm,_),(bt,_),(b0,_),(bp,_),(nmb,_)]) (b:=nb_) (R:=[]) (rows':=(ts++[_]).map ai.enc) rp (by simp) (cy (f:=ai.enc) (.cons (.refl _) (.cons (.refl _) (.cons (Fz.sls (l:=[[97],[98]]) (f:=az) (size:=1) (b:=lb) mm (by rfl) (by decide) (by rfl)) (.cons .emp .nil))))) rfl) (aV.rowA (A:=[(b0,_)]) (b:=bp) (R:=[]) (rows':=[[.lst (aP.map av.enc),.lst ((ts++[_]).map ai.enc)]]) rp (by rfl) (co (.cons (.refl _) (.cons (dD (b:=nb_) mm (by rfl) (by rfl) (.cons (.refl _) (.cons (.refl _) (.cons (Fz.sls (l:=[[97],[98]]) (f:=az) (size:=1) (b:=lb) mm (by rfl) (by decide) (by rfl)) (.cons .emp .nil))))) .nil))) rfl)
  | exact hn ⟨nm,0,[[97],[98]],[gR 13 [116,49]]⟩ a_ th_ le_ se_ tx_ at_ lo_ none ar_ nb_ _ (by simp only[ai.wt,ii,fW,List.map_append,List.map_cons,List.map_nil,gR,aW,aa.wt,aa.wts,ac.wt,ac.wts,List.length_cons,List.length_nil,List.sum_cons,List.sum_nil];omega) ha_ ho_ (aV.rowA (A:=[(bm,_),(bt,_),(b0,_),(bp,_),(nmb,_)]) (b:=nb_) (R:=[]) (rows':=(ts++[_]).map ai.enc) rp (by simp) (cy (f:=ai.enc) (.cons (.refl _) (.cons (.refl _) (.cons (Fz.sls (l:=[[97],[98]]) (f:=az) (size:=1) (b:=lb) mm (by rfl) (by decide) (by rfl)) (.cons (((ew.mk nofun nofun:ew []).raw 13 [116,49]).go mm (by rfl) (by rfl)) .nil))))) rfl) (aV.rowA (A:=[(b0,_)]) (b:=bp) (R:=[]) (rows':=[[.lst (aP.map av.enc),.lst ((ts++[_]).map ai.enc)]]) rp (by rfl) (co (.cons (.refl _) (.cons (dD (b:=nb_) mm (by rfl) (by rfl) (.cons (.refl _) (.cons (.refl _) (.cons (Fz.sls (l:=[[97],[98]]) (f:=az) (size:=1) (b:=lb) mm (by rfl) (by decide) (by rfl)) (.cons (((ew.mk nofun nofun:ew []).raw 13 [116,49]).go mm (by rfl) (by rfl)) .nil))))) .nil))) rfl)
  | exact hn ⟨nm,0,[[97],[98]],((DL ps l_).map Prod.snd)⟩ a_ th_ le_ se_ tx_ at_ lo_ (some ob_) ar_ nb_ _ (by simp only[ai.wt,ii,fW,List.map_append,List.map_cons,List.map_nil,gR,aW,aa.wt,aa.wts,ac.wt,ac.wts,List.length_cons,List.length_nil,List.sum_cons,List.sum_nil];omega) ha_ ho_ (aV.rowA (A:=[(bm,_),(bt,_),(b0,_),(bp,_),(nmb,_)]) (b:=nb_) (R:=[(ob_,_)]) (rows':=(ts++[_]).map ai.enc) rp (by simp) (cy (f:=ai.enc) (.cons (.refl _) (.cons (.refl _) (.cons (Fz.sls (l:=[[97],[98]]) (f:=az) (size:=1) (b:=lb) mm (by rfl) (by decide) (by rfl)) (.cons ((hg.pl l_).go mm (ig _ _).symm (ij _ _).symm) .nil))))) rfl) (aV.rowA (A:=[(b0,_)]) (b:=bp) (R:=[]) (rows':=[[.lst (aP.map av.enc),.lst ((ts++[_]).map ai.enc)]]) rp (by rfl) (co (.cons (.refl _) (.cons (dD (b:=nb_) mm (by rfl) (by rfl) (.cons (.refl _) (.cons (.refl _) (.cons (Fz.sls (l:=[[97],[98]]) (f:=az) (size:=1) (b:=lb) mm (by rfl) (by decide) (by rfl)) (.cons ((hg.pl l_).go mm (ig _ _).symm (ij _ _).symm) .nil))))) .nil))) rfl)
  | exact hn ⟨nm,0,[[97],[98]],((DL ps l_++[(wR 13 [116,49],gR 13 [116,49])]).map Prod.snd)⟩ a_ th_ le_ se_ tx_ at_ lo_ (some ob_) ar_ nb_ _ (by simp only[ai.wt,ii,fW,List.map_append,List.map_cons,List.map_nil,gR,aW,aa.wt,aa.wts,ac.wt,ac.wts,List.length_cons,List.length_nil,List.sum_cons,List.sum_nil];omega) ha_ ho_ (aV.rowA (A:=[(bm,_),(bt,_),(b0,_),(bp,_),(nmb,_)]) (b:=nb_) (R:=[(ob_,_)]) (rows':=(ts++[_]).map ai.enc) rp (by simp) (cy (f:=ai.enc) (.cons (.refl _) (.cons (.refl _) (.cons (Fz.sls (l:=[[97],[98]]) (f:=az) (size:=1) (b:=lb) mm (by rfl) (by decide) (by rfl)) (.cons (((hg.pl l_).raw 13 [116,49]).go mm (by rw[List.map_append,ig];rfl) (by rw[List.length_append,ij];rfl)) .nil))))) rfl) (aV.rowA (A:=[(b0,_)]) (b:=bp) (R:=[]) (rows':=[[.lst (aP.map av.enc),.lst ((ts++[_]).map ai.enc)]]) rp (by rfl) (co (.cons (.refl _) (.cons (dD (b:=nb_) mm (by rfl) (by rfl) (.cons (.refl _) (.cons (.refl _) (.cons (Fz.sls (l:=[[97],[98]]) (f:=az) (size:=1) (b:=lb) mm (by rfl) (by decide) (by rfl)) (.cons (((hg.pl l_).raw 13 [116,49]).go mm (by rw[List.map_append,ig];rfl) (by rw[List.length_append,ij];rfl)) .nil))))) .nil))) rfl)
  | exact hn ⟨nm,0,[[97],[98]],[]⟩ a_ th_ le_ se_ tx_ at_ lo_ (some ob_) ar_ nb_ _ (by simp only[ai.wt,ii,fW,List.map_append,List.map_cons,List.map_nil,gR,aW,aa.wt,aa.wts,ac.wt,ac.wts,List.length_cons,List.length_nil,List.sum_cons,List.sum_nil];omega) ha_ ho_ (aV.rowA (A:=[(bm,_),(bt,_),(b0,_),(bp,_),(nmb,_)]) (b:=nb_) (R:=[(ob_,_)]) (rows':=(ts++[_]).map ai.enc) rp (by simp) (cy (f:=ai.enc) (.cons (.refl _) (.cons (.refl _) (.cons (Fz.sls (l:=[[97],[98]]) (f:=az) (size:=1) (b:=lb) mm (by rfl) (by decide) (by rfl)) (.cons .emp .nil))))) rfl) (aV.rowA (A:=[(b0,_)]) (b:=bp) (R:=[]) (rows':=[[.lst (aP.map av.enc),.lst ((ts++[_]).map ai.enc)]]) rp (by rfl) (co (.cons (.refl _) (.cons (dD (b:=nb_) mm (by rfl) (by rfl) (.cons (.refl _) (.cons (.refl _) (.cons (Fz.sls (l:=[[97],[98]]) (f:=az) (size:=1) (b:=lb) mm (by rfl) (by decide) (by rfl)) (.cons .emp .nil))))) .nil))) rfl)
  | exact hn ⟨nm,0,[[97],[98]],[gR 13 [116,49]]⟩ a_ th_ le_ se_ tx_ at_ lo_ (some ob_) ar_ nb_ _ (by simp only[ai.wt,ii,fW,List.map_append,List.map_cons,List.map_nil,gR,aW,aa.wt,aa.wts,ac.wt,ac.wts,List.length_cons,List.length_nil,List.sum_cons,List.sum_nil];omega) ha_ ho_ (aV.rowA (A:=[(bm,_),(bt,_),(b0,_),(bp,_),(nmb,_)]) (b:=nb_) (R:=[(ob_,_)]) (rows':=(ts++[_]).map ai.enc) rp (by simp) (cy (f:=ai.enc) (.cons (.refl _) (.cons (.refl _) (.cons (Fz.sls (l:=[[97],[98]]) (f:=az) (size:=1) (b:=lb) mm (by rfl) (by decide) (by rfl)) (.cons (((ew.mk nofun nofun:ew []).raw 13 [116,49]).go mm (by rfl) (by rfl)) .nil))))) rfl) (aV.rowA (A:=[(b0,_)]) (b:=bp) (R:=[]) (rows':=[[.lst (aP.map av.enc),.lst ((ts++[_]).map ai.enc)]]) rp (by rfl) (co (.cons (.refl _) (.cons (dD (b:=nb_) mm (by rfl) (by rfl) (.cons (.refl _) (.cons (.refl _) (.cons (Fz.sls (l:=[[97],[98]]) (f:=az) (size:=1) (b:=lb) mm (by rfl) (by decide) (by rfl)) (.cons (((ew.mk nofun nofun:ew []).raw 13 [116,49]).go mm (by rfl) (by rfl)) .nil))))) .nil))) rfl)
end Go.Proofs.Ytljkdffikfkcgaa.Am
end
