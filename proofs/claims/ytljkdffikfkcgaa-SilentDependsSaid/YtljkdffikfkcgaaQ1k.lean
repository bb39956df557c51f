/- A part of the proof; the statement is proved in the last part. -/
import Derived.Test.YtljkdffikfkcgaaQ1j
set_option linter.unusedSimpArgs false
set_option linter.unusedVariables false
section
namespace Go.Proofs.Ytljkdffikfkcgaa.Am
set_option maxRecDepth 100000
set_option linter.unusedVariables false
section
variable {bm bt:Nat} {t:List UInt8} {a d n:Nat} {th le:Int} {se tx at_ lo:Bool} {o:Option Nat} {ar:List aL} {k:Nat} {L L1 L2 L3:SH}
theorem DH(bm bt:Nat)(th le:Int)(se tx at_ lo:Bool)(o:Option Nat)(ar:List aL)(k:Nat)(s:aL)(h0:o=none→ar=[])(hk:k≤ar.length)(h9:k≤900):
  am Try.prog 55 [.ptr bm 0 0,.str s] ((bm,cL bt th le se tx at_ lo o k)::ao o 1 (ar.map az)) fun u K=>∃r:Bool,u=.bool r∧K=(bm,cL bt th le se tx at_ lo o k)::ao o 1 (ar.map az):=by
 have ha:=am.within (L:=(bm,cL bt th le se tx at_ lo o k)::ao o 1 (ar.map az)) (R:=[]) (GZ o ar k _ s h0 hk (by omega)) ((cW.there _ .last:cW o 1 (ar.map az) ((bm,cL bt th le se tx at_ lo o k)::ao o 1 (ar.map az)) _).perm.trans (.of_eq (List.append_nil _).symm))
 refine ls _ _ _ _ ?_
 unfold gx
 unfold cL iY at ha ⊢
 repeat' (first | refine st ?_ | ((with_reducible refine aq 45 ?_);(refine cf ha ?_;rintro _ _ ⟨r_,rfl,rfl⟩)) | refine sb (fun nb_ hnb_=>?_) | refine s2 (fun h=>?_) (fun h=>?_) | fail)
 exact⟨_,rfl,rfl⟩
theorem sI{s:aL}{KL:R}(h1:dG bm (cL bt th le se tx at_ lo o k) L L1)(h2:cW o 1 (ar.map az) L1 L2)(h0:o=none→ar=[])(hk:k≤ar.length)(h9:k≤900)(hq:∀r:Bool,KL (.bool r) L):W.callM Try.prog 55 [.ptr bm 0 0,.str s] L KL:=by
 refine A7 ((am.within (R:=L2) (DH bm bt th le se tx at_ lo o ar k s h0 hk h9) ?_).mono ?_)
 ·exact h1.perm.trans (h2.perm.cons _)
 ·rintro _ _ ⟨r,rfl,rfl⟩;exact hq r
theorem kZ{P:Program}{g:FuncId}{args:List AV}{K M L:SH}{R1:AV→SH→Prop}{KL:R}(h:am P g args K R1)(hL:L.Perm (K++M))(hq:∀v K',R1 v K'→∃L'',(K'++M).Perm L''∧KL v L''):W.callM P g args L KL:=⟨am.permR (h.frame hL hq)⟩
theorem Bq{f:FuncId}{args:List AV}{good:AV→Prop}{KL:R}(h:HD f args d good)(h1:dG bm (cL bt th le se tx at_ lo o k) L L1)(h2:dG bt (aM t a) L1 L2)(h3:cW o 1 (ar.map az) L2 L3)(ht:t.length<2^40)(ha:a≤t.length)(ho:o=none→ar=[])(hk:k≤ar.length)(hd:k+d≤900)
  (hq:∀(v:AV) (a':Nat) (th' le':Int) (se' tx' at' lo':Bool) (o':Option Nat) (ar':List aL),good v→a'≤t.length→(o'=none→ar'=[])→k≤ar'.length→KL v ((bm,cL bt th' le' se' tx' at' lo' o' k)::(bt,aM t a')::(L3++ao o' 1 (ar'.map az)))):W.callM Try.prog f (.ptr bm 0 0::args) L KL:=by
 refine kZ (h bm bt t a th le se tx at_ lo o ar k ht ha ho hk hd) (iZ h1 h2 h3) ?_
 rintro _ _ ⟨v,a',th',le',se',tx',at',lo',o',ar',rfl,q1,q2,q3,q4,rfl⟩
 exact⟨_,.cons _ (.cons _ List.perm_append_comm),hq _ a' th' le' se' tx' at' lo' o' ar' q1 q2 q3 q4⟩
theorem E4{nn:Int}{dd:Int}{KL:R}(h:cM d)(hdd:dd=(d:Int))(hnn:nn=(n:Int))(hn:n≤10)(h1:dG bm (cL bt th le se tx at_ lo o k) L L1)(h2:dG bt (aM t a) L1 L2)(h3:cW o 1 (ar.map az) L2 L3)(ht:t.length<2^40)(ha:a≤t.length)(ho:o=none→ar=[])(hk:k≤ar.length)(hd:k+d≤900)
  (hq:∀(a':Nat) (th' le':Int) (se' tx' at' lo':Bool) (o':Option Nat) (ar':List aL) (l:List aa) (ol:Option Nat),(ol=none→l=[])→aa.wts l≤n*bL d→a'≤t.length→(o'=none→ar'=[])→k≤ar'.length→KL (au ol l.length) ((bm,cL bt th' le' se' tx' at' lo' o' k)::(bt,aM t a')::(L3++(ao ol 11 (l.map aa.enc)++ao o' 1 (ar'.map az))))):W.callM Try.prog 19 [.ptr bm 0 0,.int .i64 dd,.int .i64 nn] L KL:=by
 subst hdd hnn
 refine kZ (h n hn bm bt t a th le se tx at_ lo o ar k ht ha ho hk hd) (iZ h1 h2 h3) ?_
 rintro _ _ ⟨a',th',le',se',tx',at',lo',o',ar',l,ol,rfl,q1,q2,q3,q4,q5,rfl⟩
 exact⟨_,.cons _ (.cons _ ((List.perm_append_comm.append_right _).trans List.perm_append_comm)),hq a' th' le' se' tx' at' lo' o' ar' l ol q1 q2 q3 q4 q5⟩
theorem yb{nn:Int}{dd:Int}{KL:R}(h:cM d)(hdd:dd=(d:Int))(hnn:nn=(n:Int))(hn:n≤10)(h1:dG bm (cL bt th le se tx at_ lo o k) L L1)(h2:dG bt (aM t a) L1 L2)(h3:cW o 1 (ar.map az) L2 L3)(ht:t.length<2^40)(ha:a≤t.length)(ho:o=none→ar=[])(hk:k≤ar.length)(hd:k+d≤900)
  (hq:∀(a':Nat) (th' le':Int) (se' tx' at' lo':Bool) (o':Option Nat) (ar':List aL) (l:List aa),aa.wts l≤n*bL d→a'≤t.length→(o'=none→ar'=[])→k≤ar'.length→KL (.lst (l.map aa.enc)) ((bm,cL bt th' le' se' tx' at' lo' o' k)::(bt,aM t a')::(L3++ao o' 1 (ar'.map az)))):W.callM Try.prog 19 [.ptr bm 0 0,.int .i64 dd,.int .i64 nn] L KL:=by
 subst hdd hnn
 refine Bq (ya d h n hn) h1 h2 h3 ht ha ho hk hd ?_
 rintro _ a' th' le' se' tx' at' lo' o' ar' ⟨l,rfl,q1⟩ q2 q3 q4
 exact hq a' th' le' se' tx' at' lo' o' ar' l q1 q2 q3 q4
theorem ul{s:aL}{dd:Int}{KL:R}(h:cM d)(hdd:dd=(d:Int))(h1:dG bm (cL bt th le se tx at_ lo o k) L L1)(h2:dG bt (aM t a) L1 L2)(h3:cW o 1 (ar.map az) L2 L3)(ht:t.length<2^40)(ha:a≤t.length)(ho:o=none→ar=[])(hk:k≤ar.length)(hd:k+(d+1)≤900)
  (hq:∀(a':Nat) (th' le':Int) (se' tx' at' lo':Bool) (o':Option Nat) (ar':List aL) (l:List aa),aa.wts l≤2*bL d→a'≤t.length→(o'=none→ar'=[])→k≤ar'.length→KL (.lst (l.map aa.enc)) ((bm,cL bt th' le' se' tx' at' lo' o' k)::(bt,aM t a')::(L3++ao o' 1 (ar'.map az)))):W.callM Try.prog 56 [.ptr bm 0 0,.str s,.int .i64 dd] L KL:=by
 subst hdd
 refine Bq (E3 d (ya d h) s) h1 h2 h3 ht ha ho hk hd ?_
 rintro _ a' th' le' se' tx' at' lo' o' ar' ⟨l,rfl,q1⟩ q2 q3 q4
 exact hq a' th' le' se' tx' at' lo' o' ar' l q1 q2 q3 q4
end
theorem zB{l:List aL}(h:∀x∈l,x.length≤1)(r:Nat):(l.getD r []).length≤1:=by
 rw[List.getD]
 cases hx:l[r]? with
 | none=>simp
 | some x=>exact h x (List.mem_of_getElem? hx)
def dB(Q:R)(L:SH)(t0 t1:AV)(r:Int)(x0 x54:AV):Prop:=
 wk (.bool (decide (r<4))) (gB Q L t0 (.int .i64 r) x0) (wb .eql 3 (.int .i64 r) (.int .i64 4) fun x74=>wk x74 (gC Q L t0 x0) (fO Q L t0 t1 (.int .i64 r) x0 x54))
def dC:List AV:=[.int .i64 0,.int .i64 0,.str [],.str [],.nils,.int .i64 0,.int .i64 0,.str [],.nils,.nils,.nils]
def QS(Q:R)(bm bt k:Nat)(t:List UInt8)(w:Nat):Prop:=∀(x:aa) (v:AV) (a':Nat) (th' le':Int) (se' tx' at' lo':Bool) (o':Option Nat) (ar':List aL) (L L1 L2 L3:SH),dG bm (cL bt th' le' se' tx' at' lo' o' k) L L1→dG bt (aM t a') L1 L2→cW o' 1 (ar'.map az) L2 L3→Fz L3 v (.agg x.row)→x.wt≤w→a'≤t.length→(o'=none→ar'=[])→k≤ar'.length→Q v L
def wR(op:Int)(nm:aL):List AV:=[.int .i64 op,.int .i64 0,.str nm,.str [],.nils,.int .i64 0,.int .i64 0,.str [],.nils,.nils,.nils]
def gR(op:Int)(nm:aL):aa:=.mk op 0 nm [] [] aW [] []
theorem Au{K:SH}{op:Int}{nm:aL}(q:Nat)(a a2:AV)(h1:(wR op nm)[q]? =some a)(h2:(gR op nm).row[q]? =some a2):Fz K a a2:=by
 rcases q with _ | _ | _ | _ | _ | _ | _ | _ | _ | _ | _ | q
 all_goals first
  | (cases h1;cases h2;exact .refl _)
  | (cases h1;cases h2;exact .nils)
  | cases h1
theorem vN{K:SH}{b n:Nat}{rows:List (List AV)}(l:List (List AV×aa))(hm:(b,⟨11,rows⟩)∈K)(hr:rows=l.map Prod.fst)(hn:n=l.length)(hl:∀y∈l,y.1.length=11)
  (hc:∀y∈l,∀(q:Nat) (a a2:AV),y.1[q]? =some a→y.2.row[q]? =some a2→Fz K a a2):Fz K (.sl b 0 n) (.lst ((l.map Prod.snd).map aa.enc)):=by
 rw[List.map_map]
 exact Fz.slm (f:=Prod.fst) (g:=aa.enc∘Prod.snd) hm hr (by decide) hn (fun y hy=>by rw[hl y hy,Function.comp,aa.enc_row];rfl) fun y hy q a a2 h1 h2=>hc y hy q a a2 h1 (by rw[Function.comp,aa.enc_row]at h2;exact h2)
theorem FX{Q:R}{bm bt nb k r a w d:Nat}{t:List UInt8}{th le:Int}{se tx at_ lo:Bool}{o:Option Nat}{ar:List aL}{ns:Bool}(hq:QS Q bm bt k t w)(ht:t.length<2^40)(ha:a≤t.length)(ho:o=none→ar=[])(hk:k≤ar.length)(hr:r<4)(hw:100≤w){t1:AV}:dB Q ((bt,aM t a)::(nb,⟨11,[dC]⟩)::(bm,cL bt th le se tx at_ lo o k)::ao o 1 (ar.map az)) (.ptr bm 0 0) t1 (r:Int) (.ptr nb 0 0) (.bool ns):=by
 have hE0:=bI 0 (by decide)
 have hE1:=bI 1 (by decide)
 have d4:decide ((r:Int)<4)=true:=by simp;omega
 have hn:=zB (l:=[[120],[121],[120],[118]]) (by decide) r
 unfold dB cL iY QS dC at *
 repeat' (first | refine st ?_ | ((with_reducible refine aq 18 ?_);(refine eg ht (by assumption) rp (fun r_ a_ hr_ ha_=>?_))) | ((with_reducible refine aq 20 ?_);refine aj (aN _ _) ?_) | ((with_reducible refine al 20 ?_);refine ab (aN _ _) ?_) | refine dv (l:=[[120],[121],[120],[118]]) ?_ mm rfl (by simp;omega) | refine cR ?_ (by omega) | ((with_reducible refine al 52 ?_);refine xY hE1 (by rfl) ht (by assumption) rp rp (fun x_ a_ hx_ ha_=>?_)) | refine sb (fun nb_ hnb_=>?_) | refine s2 (fun h=>?_) (fun h=>?_) | fail)
 exact hq (aE _ _) _ _ _ _ _ _ _ _ _ _ _ _ _ _ rp rp rp (.refl _) (by simp only[aa.wt,aa.wts,ac.wt,ac.wts,aE,bP,cS,dS,aW,List.length_cons,List.length_nil];omega) (by assumption) (by assumption) (by assumption)
theorem FY{Q:R}{bm bt nb k r a w d:Nat}{t:List UInt8}{th le:Int}{se tx at_ lo:Bool}{o:Option Nat}{ar:List aL}{ns:Bool}(hq:QS Q bm bt k t w)(ht:t.length<2^40)(ha:a≤t.length)(ho:o=none→ar=[])(hk:k≤ar.length)(hw:100≤w){t1:AV}:dB Q ((bt,aM t a)::(nb,⟨11,[dC]⟩)::(bm,cL bt th le se tx at_ lo o k)::ao o 1 (ar.map az)) (.ptr bm 0 0) t1 4 (.ptr nb 0 0) (.bool ns):=by
 have hE0:=bI 0 (by decide)
 have hE1:=bI 1 (by decide)
 unfold dB cL iY QS dC at *
 repeat' (first | refine st ?_ | ((with_reducible refine aq 18 ?_);(refine eg ht (by assumption) rp (fun r_ a_ hr_ ha_=>?_))) | ((with_reducible refine aq 20 ?_);refine aj (aN _ _) ?_) | ((with_reducible refine al 20 ?_);refine ab (aN _ _) ?_) | ((with_reducible refine al 18 ?_);refine uk ht (by assumption) rp (fun r_ a_ hr_ ha_=>?_)) | refine dv (l:=[[97],[98]]) ?_ mm rfl (by simp;omega) | refine cR ?_ (by omega) | ((with_reducible refine al 52 ?_);refine xY hE1 (by rfl) ht (by assumption) rp rp (fun x_ a_ hx_ ha_=>?_)) | refine sb (fun nb_ hnb_=>?_) | refine s2 (fun h=>?_) (fun h=>?_) | fail)
 have hn:=zB (l:=[[97],[98]]) (by decide) r_
 exact hq (aE _ _) _ _ _ _ _ _ _ _ _ _ _ _ _ _ rp rp rp (.refl _) (by simp only[aa.wt,aa.wts,ac.wt,ac.wts,aE,bP,cS,dS,aW,List.length_cons,List.length_nil];omega) (by assumption) (by assumption) (by assumption)
theorem FZ{Q:R}{bm bt nb k r a w d:Nat}{t:List UInt8}{th le:Int}{se tx at_ lo:Bool}{o:Option Nat}{ar:List aL}{ns:Bool}(hq:QS Q bm bt k t w)(ht:t.length<2^40)(ha:a≤t.length)(ho:o=none→ar=[])(hk:k≤ar.length)(hw:100≤w){t1:AV}:dB Q ((bt,aM t a)::(nb,⟨11,[dC]⟩)::(bm,cL bt th le se tx at_ lo o k)::ao o 1 (ar.map az)) (.ptr bm 0 0) t1 5 (.ptr nb 0 0) (.bool ns):=by
 have hE0:=bI 0 (by decide)
 have hE1:=bI 1 (by decide)
 unfold dB cL iY QS dC at *
 repeat' (first | refine st ?_ | ((with_reducible refine aq 52 ?_);(first | (refine bW hE1 (by rfl) ht (by assumption) rp rp (fun x_ a_ hx_ ha_=>?_)) | (refine bW hE0 (by rfl) ht (by assumption) rp rp (fun x_ a_ hx_ ha_=>?_)))) | refine sb (fun nb_ hnb_=>?_) | refine s2 (fun h=>?_) (fun h=>?_) | fail)
 rename_i x0 a0 hx0 ha0
 exact hq (.mk 1 0 [113] [] [x0] x_ [] []) _ _ _ _ _ _ _ _ _ _ _ _ _ _ rp rp rp (Fz.aggs (.cons (.refl _) (.cons (.refl _) (.cons (.refl _) (.cons (.refl _) (.cons (Fz.sls (l:=[x0]) (f:=ac.enc) (size:=4) mm (by simp[ac.enc_row]) (by decide) rfl) (.cons (.refl _) (.cons (.refl _) (.cons (.refl _) (.cons (.refl _) (.cons .nils (.cons .nils .nil)))))))))))) (by simp only[aa.wt,aa.wts,ac.wt,ac.wts,aE,bP,cS,dS,aW,List.length_cons,List.length_nil];omega) (by assumption) (by assumption) (by assumption)
theorem II{Q:R}{bm bt nb k r a w d:Nat}{t:List UInt8}{th le:Int}{se tx at_ lo:Bool}{o:Option Nat}{ar:List aL}{ns:Bool}(hq:QS Q bm bt k t w)(ht:t.length<2^40)(ha:a≤t.length)(ho:o=none→ar=[])(hk:k≤ar.length)(hU:cM d)(hd:k+(d+1)≤900)(hb1:100≤bL d)(hb2:bL d≤2^30)(hw:10*bL d≤w)(e1:IntKind.i64.wrap (((d+1:Nat):Int)-1)=(d:Int))(dp:decide ((0:Int)<((d+1:Nat):Int))=true):dB Q ((bt,aM t a)::(nb,⟨11,[dC]⟩)::(bm,cL bt th le se tx at_ lo o k)::ao o 1 (ar.map az)) (.ptr bm 0 0) (.int .i64 ((d+1:Nat):Int)) 6 (.ptr nb 0 0) (.bool ns):=by
 have hE0:=bI 0 (by decide)
 have hE1:=bI 1 (by decide)
 unfold dB cL iY QS dC at *
 repeat' (first | refine dm (ge ?_ e1) | refine st ?_ | ((with_reducible refine aq 52 ?_);(first | (refine bW hE1 (by rfl) ht (by assumption) rp rp (fun x_ a_ hx_ ha_=>?_)) | (refine bW hE0 (by rfl) ht (by assumption) rp rp (fun x_ a_ hx_ ha_=>?_)))) | ((with_reducible refine aq 19 ?_);(refine yb (n:=1) hU (by first | rfl | assumption) (by rfl) (by omega) rp rp rp ht (by assumption) (by assumption) (by assumption) (by omega) ?_;rintro a_ th_ le_ se_ tx_ at_ lo_ o_ ar_ l_ hl_ ha_ ho_ hk_;dsimp only[List.cons_append,List.nil_append])) | ((with_reducible refine aq 18 ?_);(refine eg ht (by assumption) rp (fun r_ a_ hr_ ha_=>?_))) | refine sb (fun nb_ hnb_=>?_) | refine s2 (fun h=>?_) (fun h=>?_) | fail)
 ·rename_i a0 th0 le0 se0 tx0 at0 lo0 o0 ar0 l0 h0 h1 h2 h3 a1 h4
  exact hq (.mk 2 0 [] [] [] x_ l0 l_) _ _ _ _ _ _ _ _ _ _ _ _ _ _ rp rp rp (Fz.aggs (.cons (.refl _) (.cons (.refl _) (.cons (.refl _) (.cons (.refl _) (.cons .nils (.cons (.refl _) (.cons (.refl _) (.cons (.refl _) (.cons (.refl _) (.cons (.refl _) (.cons (.refl _) .nil)))))))))))) (by simp only[aa.wt,aa.wts,ac.wt,ac.wts,aE,bP,cS,dS,aW,List.length_cons,List.length_nil];omega) (by assumption) (by assumption) (by assumption)
 ·exact hq (.mk 2 0 [] [] [] x_ l_ []) _ _ _ _ _ _ _ _ _ _ _ _ _ _ rp rp rp (Fz.aggs (.cons (.refl _) (.cons (.refl _) (.cons (.refl _) (.cons (.refl _) (.cons .nils (.cons (.refl _) (.cons (.refl _) (.cons (.refl _) (.cons (.refl _) (.cons (.refl _) (.cons .nils .nil)))))))))))) (by simp only[aa.wt,aa.wts,ac.wt,ac.wts,aE,bP,cS,dS,aW,List.length_cons,List.length_nil];omega) (by assumption) (by assumption) (by assumption)
theorem IJ{Q:R}{bm bt nb k r a w d:Nat}{t:List UInt8}{th le:Int}{se tx at_ lo:Bool}{o:Option Nat}{ar:List aL}{ns:Bool}(hq:QS Q bm bt k t w)(ht:t.length<2^40)(ha:a≤t.length)(ho:o=none→ar=[])(hk:k≤ar.length)(hU:cM d)(hd:k+(d+1)≤900)(hb1:100≤bL d)(hb2:bL d≤2^30)(hw:10*bL d≤w)(e1:IntKind.i64.wrap (((d+1:Nat):Int)-1)=(d:Int))(dp:decide ((0:Int)<((d+1:Nat):Int))=true):dB Q ((bt,aM t a)::(nb,⟨11,[dC]⟩)::(bm,cL bt th le se tx at_ lo o k)::ao o 1 (ar.map az)) (.ptr bm 0 0) (.int .i64 ((d+1:Nat):Int)) 7 (.ptr nb 0 0) (.bool ns):=by
 have hE0:=bI 0 (by decide)
 have hE1:=bI 1 (by decide)
 unfold dB cL iY QS dC at *
 repeat' (first | refine dm (ge ?_ e1) | refine st ?_ | ((with_reducible refine aq 21 ?_);refine aj (kL _) ?_) | ((with_reducible refine al 21 ?_);refine ab (kL _) ?_) | ((with_reducible refine aq 54 ?_);refine aj (ie _) ?_) | ((with_reducible refine al 54 ?_);refine ab (ie _) ?_) | ((with_reducible refine aq 53 ?_);refine aj (jx _ _ _) ?_) | ((with_reducible refine al 53 ?_);refine ab (jx _ _ _) ?_) | ((with_reducible refine aq 20 ?_);refine aj (aN _ _) ?_) | ((with_reducible refine al 20 ?_);refine ab (aN _ _) ?_) | ((with_reducible refine aq 19 ?_);(refine E4 (n:=1) hU (by first | rfl | assumption) (by rfl) (by omega) rp rp rp ht (by assumption) (by assumption) (by assumption) (by omega) ?_;rintro a_ th_ le_ se_ tx_ at_ lo_ o_ ar_ l_ ol_ ho2_ hl_ ha_ ho_ hk_;have hl9_:=aa.wts_len l_;dsimp only[List.cons_append,List.nil_append])) | refine cI rp rp (by simp) (fun e=>by first | simp[ho2_ e]) (by rfl) (by simp) (by simp;omega) (by simp;omega) (by rfl) (fun nb_ hnb_=>?_) | refine sb (fun nb_ hnb_=>?_) | refine s2 (fun h=>?_) (fun h=>?_) | fail)
 exact hq (.mk 3 0 [] [] [] (dS 13 (bP [98]) (cS 2)) (l_++[aE [98] (dS 6 (bP [98]) (cS 1))]) []) _ _ _ _ _ _ _ _ _ _ _ _ _ _ rp rp rp (Fz.aggs (.cons (.refl _) (.cons (.refl _) (.cons (.refl _) (.cons (.refl _) (.cons .nils (.cons (.refl _) (.cons (.refl _) (.cons (.refl _) (.cons (.refl _) (.cons (Fz.sls (l:=l_++[aE [98] (dS 6 (bP [98]) (cS 1))]) (f:=aa.enc) (size:=11) mm (by rw[List.map_append,List.map_cons,List.map_nil,aa.enc_row];rfl) (by decide) (by rw[List.length_append];rfl)) (.cons .nils .nil)))))))))))) (by simp only[vM,aa.wt,aa.wts,ac.wt,ac.wts,aE,bP,cS,dS,aW,List.length_cons,List.length_nil];omega) (by assumption) (by assumption) (by assumption)
theorem IK{Q:R}{bm bt nb k r a w d:Nat}{t:List UInt8}{th le:Int}{se tx at_ lo:Bool}{o:Option Nat}{ar:List aL}{ns:Bool}(hq:QS Q bm bt k t w)(ht:t.length<2^40)(ha:a≤t.length)(ho:o=none→ar=[])(hk:k≤ar.length)(hU:cM d)(hd:k+(d+1)≤900)(hb1:100≤bL d)(hb2:bL d≤2^30)(hw:10*bL d≤w)(e1:IntKind.i64.wrap (((d+1:Nat):Int)-1)=(d:Int))(dp:decide ((0:Int)<((d+1:Nat):Int))=true):dB Q ((bt,aM t a)::(nb,⟨11,[dC]⟩)::(bm,cL bt th le se tx at_ lo o k)::ao o 1 (ar.map az)) (.ptr bm 0 0) (.int .i64 ((d+1:Nat):Int)) 8 (.ptr nb 0 0) (.bool ns):=by
 have hE0:=bI 0 (by decide)
 have hE1:=bI 1 (by decide)
 unfold dB cL iY QS dC at *
 cases ns
 all_goals repeat' (first | refine dm (ge ?_ e1) | refine dm (ge (c:=((0:Nat):Int)) ?_ rfl) | refine st ?_ | ((with_reducible refine aq 55 ?_);(refine sI rp rp (by assumption) (by assumption) (by omega) (fun b_=>?_))) | ((with_reducible refine aq 56 ?_);(refine ul hU (by first | rfl | assumption) rp rp rp ht (by assumption) (by assumption) (by assumption) (by omega) ?_;rintro a_ th_ le_ se_ tx_ at_ lo_ o_ ar_ l_ hl_ ha_ ho_ hk_;dsimp only[List.cons_append,List.nil_append])) | ((with_reducible refine aq 52 ?_);(first | (refine bW hE1 (by rfl) ht (by assumption) rp rp (fun x_ a_ hx_ ha_=>?_)) | (refine bW hE0 (by rfl) ht (by assumption) rp rp (fun x_ a_ hx_ ha_=>?_)))) | ((with_reducible refine aq 20 ?_);refine aj (aN _ _) ?_) | ((with_reducible refine al 20 ?_);refine ab (aN _ _) ?_) | refine dv (l:=[[109],[110]]) ?_ mm rfl (by simp) | refine cR ?_ (by omega) | refine sb (fun nb_ hnb_=>?_) | refine s2 (fun h=>?_) (fun h=>?_) | fail)
 all_goals first
  | exact hq (aE _ _) _ _ _ _ _ _ _ _ _ _ _ _ _ _ rp rp rp (.refl _) (by simp only[aa.wt,aa.wts,ac.wt,ac.wts,aE,bP,cS,dS,aW,List.length_cons,List.length_nil];omega) (by assumption) (by assumption) (by assumption)
  | exact hq (.mk 4 0 [109] [] [] aW l_ []) _ _ _ _ _ _ _ _ _ _ _ _ _ _ rp rp rp (Fz.aggs (.cons (.refl _) (.cons (.refl _) (.cons (.refl _) (.cons (.refl _) (.cons .nils (.cons (.refl _) (.cons (.refl _) (.cons (.refl _) (.cons .nils (.cons (.refl _) (.cons .nils .nil)))))))))))) (by simp only[aa.wt,aa.wts,ac.wt,ac.wts,aE,bP,cS,dS,aW,List.length_cons,List.length_nil];omega) (by assumption) (by assumption) (by assumption)
theorem IL{Q:R}{bm bt nb k r a w d:Nat}{t:List UInt8}{th le:Int}{se tx at_ lo:Bool}{o:Option Nat}{ar:List aL}{ns:Bool}(hq:QS Q bm bt k t w)(ht:t.length<2^40)(ha:a≤t.length)(ho:o=none→ar=[])(hk:k≤ar.length)(hU:cM d)(hd:k+(d+1)≤900)(hb1:100≤bL d)(hb2:bL d≤2^30)(hw:10*bL d≤w)(e1:IntKind.i64.wrap (((d+1:Nat):Int)-1)=(d:Int))(dp:decide ((0:Int)<((d+1:Nat):Int))=true):dB Q ((bt,aM t a)::(nb,⟨11,[dC]⟩)::(bm,cL bt th le se tx at_ lo o k)::ao o 1 (ar.map az)) (.ptr bm 0 0) (.int .i64 ((d+1:Nat):Int)) 9 (.ptr nb 0 0) (.bool ns):=by
 have hE0:=bI 0 (by decide)
 have hE1:=bI 1 (by decide)
 unfold dB cL iY QS dC at *
 cases ns
 all_goals repeat' (first | refine dm (ge ?_ e1) | refine dm (ge (c:=((1:Nat):Int)) ?_ rfl) | refine st ?_ | ((with_reducible refine aq 55 ?_);(refine sI rp rp (by assumption) (by assumption) (by omega) (fun b_=>?_))) | ((with_reducible refine aq 56 ?_);(refine ul hU (by first | rfl | assumption) rp rp rp ht (by assumption) (by assumption) (by assumption) (by omega) ?_;rintro a_ th_ le_ se_ tx_ at_ lo_ o_ ar_ l_ hl_ ha_ ho_ hk_;dsimp only[List.cons_append,List.nil_append])) | ((with_reducible refine aq 52 ?_);(first | (refine bW hE1 (by rfl) ht (by assumption) rp rp (fun x_ a_ hx_ ha_=>?_)) | (refine bW hE0 (by rfl) ht (by assumption) rp rp (fun x_ a_ hx_ ha_=>?_)))) | ((with_reducible refine aq 20 ?_);refine aj (aN _ _) ?_) | ((with_reducible refine al 20 ?_);refine ab (aN _ _) ?_) | refine dv (l:=[[109],[110]]) ?_ mm rfl (by simp) | refine cR ?_ (by omega) | refine sb (fun nb_ hnb_=>?_) | refine s2 (fun h=>?_) (fun h=>?_) | fail)
 all_goals first
  | exact hq (aE _ _) _ _ _ _ _ _ _ _ _ _ _ _ _ _ rp rp rp (.refl _) (by simp only[aa.wt,aa.wts,ac.wt,ac.wts,aE,bP,cS,dS,aW,List.length_cons,List.length_nil];omega) (by assumption) (by assumption) (by assumption)
  | exact hq (.mk 4 0 [110] [] [] aW l_ []) _ _ _ _ _ _ _ _ _ _ _ _ _ _ rp rp rp (Fz.aggs (.cons (.refl _) (.cons (.refl _) (.cons (.refl _) (.cons (.refl _) (.cons .nils (.cons (.refl _) (.cons (.refl _) (.cons (.refl _) (.cons .nils (.cons (.refl _) (.cons .nils .nil)))))))))))) (by simp only[aa.wt,aa.wts,ac.wt,ac.wts,aE,bP,cS,dS,aW,List.length_cons,List.length_nil];omega) (by assumption) (by assumption) (by assumption)
theorem G1{Q:R}{bm bt nb k r a w d:Nat}{t:List UInt8}{th le:Int}{se tx at_ lo:Bool}{o:Option Nat}{ar:List aL}{ns:Bool}(hq:QS Q bm bt k t w)(ht:t.length<2^40)(ha:a≤t.length)(ho:o=none→ar=[])(hk:k≤ar.length)(hU:cM d)(hd:k+(d+1)≤900)(hb1:100≤bL d)(hb2:bL d≤2^30)(hw:10*bL d≤w)(e1:IntKind.i64.wrap (((d+1:Nat):Int)-1)=(d:Int))(dp:decide ((0:Int)<((d+1:Nat):Int))=true):dB Q ((bt,aM t a)::(nb,⟨11,[dC]⟩)::(bm,cL bt th le se tx at_ lo o k)::ao o 1 (ar.map az)) (.ptr bm 0 0) (.int .i64 ((d+1:Nat):Int)) 10 (.ptr nb 0 0) (.bool ns):=by
 have hE0:=bI 0 (by decide)
 have hE1:=bI 1 (by decide)
 unfold dB cL iY QS dC at *
 cases ns
 all_goals repeat' (first | refine dm (ge ?_ e1) | refine st ?_ | ((with_reducible refine aq 55 ?_);(refine sI rp rp (by assumption) (by assumption) (by omega) (fun b_=>?_))) | ((with_reducible refine aq 56 ?_);(refine ul hU (by first | rfl | assumption) rp rp rp ht (by assumption) (by assumption) (by assumption) (by omega) ?_;rintro a_ th_ le_ se_ tx_ at_ lo_ o_ ar_ l_ hl_ ha_ ho_ hk_;dsimp only[List.cons_append,List.nil_append])) | ((with_reducible refine aq 52 ?_);(first | (refine bW hE1 (by rfl) ht (by assumption) rp rp (fun x_ a_ hx_ ha_=>?_)) | (refine bW hE0 (by rfl) ht (by assumption) rp rp (fun x_ a_ hx_ ha_=>?_)))) | ((with_reducible refine aq 20 ?_);refine aj (aN _ _) ?_) | ((with_reducible refine al 20 ?_);refine ab (aN _ _) ?_) | refine dv (l:=[[109],[110]]) ?_ mm rfl (by simp) | refine cR ?_ (by omega) | refine sb (fun nb_ hnb_=>?_) | refine s2 (fun h=>?_) (fun h=>?_) | fail)
 all_goals first
  | exact hq (aE _ _) _ _ _ _ _ _ _ _ _ _ _ _ _ _ rp rp rp (.refl _) (by simp only[aa.wt,aa.wts,ac.wt,ac.wts,aE,bP,cS,dS,aW,List.length_cons,List.length_nil];omega) (by assumption) (by assumption) (by assumption)
  | exact hq (.mk 5 0 [114] [] [] aW l_ []) _ _ _ _ _ _ _ _ _ _ _ _ _ _ rp rp rp (Fz.aggs (.cons (.refl _) (.cons (.refl _) (.cons (.refl _) (.cons (.refl _) (.cons .nils (.cons (.refl _) (.cons (.refl _) (.cons (.refl _) (.cons .nils (.cons (.refl _) (.cons .nils .nil)))))))))))) (by simp only[aa.wt,aa.wts,ac.wt,ac.wts,aE,bP,cS,dS,aW,List.length_cons,List.length_nil];omega) (by assumption) (by assumption) (by assumption)
theorem G2{Q:R}{bm bt nb k r a w d:Nat}{t:List UInt8}{th le:Int}{se tx at_ lo:Bool}{o:Option Nat}{ar:List aL}{ns:Bool}(hq:QS Q bm bt k t w)(ht:t.length<2^40)(ha:a≤t.length)(ho:o=none→ar=[])(hk:k≤ar.length)(hU:cM d)(hd:k+(d+1)≤900)(hb1:100≤bL d)(hb2:bL d≤2^30)(hw:10*bL d≤w)(e1:IntKind.i64.wrap (((d+1:Nat):Int)-1)=(d:Int))(dp:decide ((0:Int)<((d+1:Nat):Int))=true):dB Q ((bt,aM t a)::(nb,⟨11,[dC]⟩)::(bm,cL bt th le se tx at_ lo o k)::ao o 1 (ar.map az)) (.ptr bm 0 0) (.int .i64 ((d+1:Nat):Int)) 11 (.ptr nb 0 0) (.bool ns):=by
 have hE0:=bI 0 (by decide)
 have hE1:=bI 1 (by decide)
 unfold dB cL iY QS dC at *
 cases ns
 all_goals repeat' (first | refine dm (ge ?_ e1) | refine st ?_ | ((with_reducible refine aq 55 ?_);(refine sI rp rp (by assumption) (by assumption) (by omega) (fun b_=>?_))) | ((with_reducible refine aq 56 ?_);(refine ul hU (by first | rfl | assumption) rp rp rp ht (by assumption) (by assumption) (by assumption) (by omega) ?_;rintro a_ th_ le_ se_ tx_ at_ lo_ o_ ar_ l_ hl_ ha_ ho_ hk_;dsimp only[List.cons_append,List.nil_append])) | ((with_reducible refine aq 52 ?_);(first | (refine bW hE1 (by rfl) ht (by assumption) rp rp (fun x_ a_ hx_ ha_=>?_)) | (refine bW hE0 (by rfl) ht (by assumption) rp rp (fun x_ a_ hx_ ha_=>?_)))) | ((with_reducible refine aq 20 ?_);refine aj (aN _ _) ?_) | ((with_reducible refine al 20 ?_);refine ab (aN _ _) ?_) | refine dv (l:=[[109],[110]]) ?_ mm rfl (by simp) | refine cR ?_ (by omega) | refine sb (fun nb_ hnb_=>?_) | refine s2 (fun h=>?_) (fun h=>?_) | fail)
 all_goals first
  | exact hq (aE _ _) _ _ _ _ _ _ _ _ _ _ _ _ _ _ rp rp rp (.refl _) (by simp only[aa.wt,aa.wts,ac.wt,ac.wts,aE,bP,cS,dS,aW,List.length_cons,List.length_nil];omega) (by assumption) (by assumption) (by assumption)
  | exact hq (.mk 6 0 [114] [] [] aW l_ []) _ _ _ _ _ _ _ _ _ _ _ _ _ _ rp rp rp (Fz.aggs (.cons (.refl _) (.cons (.refl _) (.cons (.refl _) (.cons (.refl _) (.cons .nils (.cons (.refl _) (.cons (.refl _) (.cons (.refl _) (.cons .nils (.cons (.refl _) (.cons .nils .nil)))))))))))) (by simp only[aa.wt,aa.wts,ac.wt,ac.wts,aE,bP,cS,dS,aW,List.length_cons,List.length_nil];omega) (by assumption) (by assumption) (by assumption)
theorem G3{Q:R}{bm bt nb k r a w d:Nat}{t:List UInt8}{th le:Int}{se tx at_ lo:Bool}{o:Option Nat}{ar:List aL}{ns:Bool}(hq:QS Q bm bt k t w)(ht:t.length<2^40)(ha:a≤t.length)(ho:o=none→ar=[])(hk:k≤ar.length)(hU:cM d)(hd:k+(d+1)≤900)(hb1:100≤bL d)(hb2:bL d≤2^30)(hw:10*bL d≤w)(e1:IntKind.i64.wrap (((d+1:Nat):Int)-1)=(d:Int))(dp:decide ((0:Int)<((d+1:Nat):Int))=true)(hU0:cM 0)(hb0:bL 0=100):dB Q ((bt,aM t a)::(nb,⟨11,[dC]⟩)::(bm,cL bt th le se tx at_ lo o k)::ao o 1 (ar.map az)) (.ptr bm 0 0) (.int .i64 ((d+1:Nat):Int)) 12 (.ptr nb 0 0) (.bool ns):=by
 have hE0:=bI 0 (by decide)
 have hE1:=bI 1 (by decide)
 unfold dB cL iY QS dC at *
 cases ns
 all_goals repeat' (first | refine dm (b9 ?_ (E2 (by omega))) | refine st ?_ | ((with_reducible refine aq 18 ?_);(refine eg ht (by assumption) rp (fun r_ a_ hr_ ha_=>?_))) | ((with_reducible refine aq 19 ?_);(refine yb (n:=1+r_) hU0 (by first | rfl | assumption) (by rfl) (by omega) rp rp rp ht (by assumption) (by assumption) (by assumption) (by omega) ?_;rintro a_ th_ le_ se_ tx_ at_ lo_ o_ ar_ l_ hl_ ha_ ho_ hk_;dsimp only[List.cons_append,List.nil_append])) | ((with_reducible refine aq 52 ?_);(first | (refine bW hE1 (by rfl) ht (by assumption) rp rp (fun x_ a_ hx_ ha_=>?_)) | (refine bW hE0 (by rfl) ht (by assumption) rp rp (fun x_ a_ hx_ ha_=>?_)))) | ((with_reducible refine aq 20 ?_);refine aj (aN _ _) ?_) | ((with_reducible refine al 20 ?_);refine ab (aN _ _) ?_) | refine sb (fun nb_ hnb_=>?_) | refine s2 (fun h=>?_) (fun h=>?_) | fail)
 all_goals first
  | exact hq (aE _ _) _ _ _ _ _ _ _ _ _ _ _ _ _ _ rp rp rp (.refl _) (by simp only[aa.wt,aa.wts,ac.wt,ac.wts,aE,bP,cS,dS,aW,List.length_cons,List.length_nil];omega) (by assumption) (by assumption) (by assumption)
  | exact hq (.mk 7 0 [] [] [] aW l_ []) _ _ _ _ _ _ _ _ _ _ _ _ _ _ rp rp rp (Fz.aggs (.cons (.refl _) (.cons (.refl _) (.cons (.refl _) (.cons (.refl _) (.cons .nils (.cons (.refl _) (.cons (.refl _) (.cons (.refl _) (.cons .nils (.cons (.refl _) (.cons .nils .nil)))))))))))) (by simp only[aa.wt,aa.wts,ac.wt,ac.wts,aE,bP,cS,dS,aW,List.length_cons,List.length_nil];have:=Nat.mul_le_mul_right (bL 0) (show 1+r_≤2 by omega);omega) (by assumption) (by assumption) (by assumption)
theorem G4{Q:R}{bm bt nb k r a w d:Nat}{t:List UInt8}{th le:Int}{se tx at_ lo:Bool}{o:Option Nat}{ar:List aL}{ns:Bool}(hq:QS Q bm bt k t w)(ht:t.length<2^40)(ha:a≤t.length)(ho:o=none→ar=[])(hk:k≤ar.length)(hU:cM d)(hd:k+(d+1)≤900)(hb1:100≤bL d)(hb2:bL d≤2^30)(hw:10*bL d≤w)(e1:IntKind.i64.wrap (((d+1:Nat):Int)-1)=(d:Int))(dp:decide ((0:Int)<((d+1:Nat):Int))=true):dB Q ((bt,aM t a)::(nb,⟨11,[dC]⟩)::(bm,cL bt th le se tx at_ lo o k)::ao o 1 (ar.map az)) (.ptr bm 0 0) (.int .i64 ((d+1:Nat):Int)) 13 (.ptr nb 0 0) (.bool ns):=by
 have hE0:=bI 0 (by decide)
 have hE1:=bI 1 (by decide)
 unfold dB cL iY QS dC at *
 cases ns
 all_goals repeat' (first | refine dm (ge ?_ e1) | refine st ?_ | ((with_reducible refine aq 19 ?_);(refine yb (n:=2) hU (by first | rfl | assumption) (by rfl) (by omega) rp rp rp ht (by assumption) (by assumption) (by assumption) (by omega) ?_;rintro a_ th_ le_ se_ tx_ at_ lo_ o_ ar_ l_ hl_ ha_ ho_ hk_;dsimp only[List.cons_append,List.nil_append])) | ((with_reducible refine aq 52 ?_);(first | (refine bW hE1 (by rfl) ht (by assumption) rp rp (fun x_ a_ hx_ ha_=>?_)) | (refine bW hE0 (by rfl) ht (by assumption) rp rp (fun x_ a_ hx_ ha_=>?_)))) | ((with_reducible refine aq 20 ?_);refine aj (aN _ _) ?_) | ((with_reducible refine al 20 ?_);refine ab (aN _ _) ?_) | refine sb (fun nb_ hnb_=>?_) | refine s2 (fun h=>?_) (fun h=>?_) | fail)
 all_goals first
  | exact hq (aE _ _) _ _ _ _ _ _ _ _ _ _ _ _ _ _ rp rp rp (.refl _) (by simp only[aa.wt,aa.wts,ac.wt,ac.wts,aE,bP,cS,dS,aW,List.length_cons,List.length_nil];omega) (by assumption) (by assumption) (by assumption)
  | exact hq (.mk 8 0 [] [] [] aW l_ []) _ _ _ _ _ _ _ _ _ _ _ _ _ _ rp rp rp (Fz.aggs (.cons (.refl _) (.cons (.refl _) (.cons (.refl _) (.cons (.refl _) (.cons .nils (.cons (.refl _) (.cons (.refl _) (.cons (.refl _) (.cons .nils (.cons (.refl _) (.cons .nils .nil)))))))))))) (by simp only[aa.wt,aa.wts,ac.wt,ac.wts,aE,bP,cS,dS,aW,List.length_cons,List.length_nil];omega) (by assumption) (by assumption) (by assumption)
theorem G5{Q:R}{bm bt nb k r a w d:Nat}{t:List UInt8}{th le:Int}{se tx at_ lo:Bool}{o:Option Nat}{ar:List aL}{ns:Bool}(hq:QS Q bm bt k t w)(ht:t.length<2^40)(ha:a≤t.length)(ho:o=none→ar=[])(hk:k≤ar.length)(hU:cM d)(hd:k+(d+1)≤900)(hb1:100≤bL d)(hb2:bL d≤2^30)(hw:10*bL d≤w)(e1:IntKind.i64.wrap (((d+1:Nat):Int)-1)=(d:Int))(dp:decide ((0:Int)<((d+1:Nat):Int))=true):dB Q ((bt,aM t a)::(nb,⟨11,[dC]⟩)::(bm,cL bt th le se tx at_ lo o k)::ao o 1 (ar.map az)) (.ptr bm 0 0) (.int .i64 ((d+1:Nat):Int)) 14 (.ptr nb 0 0) (.bool ns):=by
 have hE0:=bI 0 (by decide)
 have hE1:=bI 1 (by decide)
 unfold dB cL iY QS dC at *
 cases ns
 all_goals repeat' (first | refine st ?_ | ((with_reducible refine aq 55 ?_);(refine sI rp rp (by assumption) (by assumption) (by omega) (fun b_=>?_))) | ((with_reducible refine aq 54 ?_);refine aj (ie _) ?_) | ((with_reducible refine al 54 ?_);refine ab (ie _) ?_) | ((with_reducible refine aq 52 ?_);(first | (refine bW hE1 (by rfl) ht (by assumption) rp rp (fun x_ a_ hx_ ha_=>?_)) | (refine bW hE0 (by rfl) ht (by assumption) rp rp (fun x_ a_ hx_ ha_=>?_)))) | ((with_reducible refine aq 20 ?_);refine aj (aN _ _) ?_) | ((with_reducible refine al 20 ?_);refine ab (aN _ _) ?_) | refine sb (fun nb_ hnb_=>?_) | refine s2 (fun h=>?_) (fun h=>?_) | fail)
 all_goals first
  | exact hq (aE _ _) _ _ _ _ _ _ _ _ _ _ _ _ _ _ rp rp rp (.refl _) (by simp only[aa.wt,aa.wts,ac.wt,ac.wts,aE,bP,cS,dS,aW,List.length_cons,List.length_nil];omega) (by assumption) (by assumption) (by assumption)
  | exact hq (.mk 4 0 [109] [] [] aW [gR 9 [99],aE [97] (bP [120])] []) _ _ _ _ _ _ _ _ _ _ _ _ _ _ rp rp rp (Fz.aggs (.cons (.refl _) (.cons (.refl _) (.cons (.refl _) (.cons (.refl _) (.cons .nils (.cons (.refl _) (.cons (.refl _) (.cons (.refl _) (.cons .nils (.cons (vN [(wR 9 [99],gR 9 [99]),((aE [97] (bP [120])).row,aE [97] (bP [120]))] (.head _) (by rfl) (by rfl) (by simp[wR,aa.row]) (List.forall_mem_cons.2 ⟨Au,List.forall_mem_cons.2 ⟨fun q a a2 h1 h2=>by rw[h1]at h2;cases h2;exact .refl _,nofun⟩⟩)) (.cons .nils .nil)))))))))))) (by simp only[aa.wt,aa.wts,ac.wt,ac.wts,aE,bP,cS,dS,aW,gR,List.length_cons,List.length_nil];omega) (by assumption) (by assumption) (by assumption)
theorem G6{Q:R}{bm bt nb k r a w d:Nat}{t:List UInt8}{th le:Int}{se tx at_ lo:Bool}{o:Option Nat}{ar:List aL}{ns:Bool}(hq:QS Q bm bt k t w)(ht:t.length<2^40)(ha:a≤t.length)(ho:o=none→ar=[])(hk:k≤ar.length)(hU:cM d)(hd:k+(d+1)≤900)(hb1:100≤bL d)(hb2:bL d≤2^30)(hw:10*bL d≤w)(e1:IntKind.i64.wrap (((d+1:Nat):Int)-1)=(d:Int))(dp:decide ((0:Int)<((d+1:Nat):Int))=true):dB Q ((bt,aM t a)::(nb,⟨11,[dC]⟩)::(bm,cL bt th le se tx at_ lo o k)::ao o 1 (ar.map az)) (.ptr bm 0 0) (.int .i64 ((d+1:Nat):Int)) 15 (.ptr nb 0 0) (.bool ns):=by
 have hE0:=bI 0 (by decide)
 have hE1:=bI 1 (by decide)
 unfold dB cL iY QS dC at *
 cases ns
 all_goals repeat' (first | refine st ?_ | ((with_reducible refine aq 55 ?_);(refine sI rp rp (by assumption) (by assumption) (by omega) (fun b_=>?_))) | ((with_reducible refine aq 18 ?_);(refine eg ht (by assumption) rp (fun r_ a_ hr_ ha_=>?_))) | ((with_reducible refine aq 52 ?_);(first | (refine bW hE1 (by rfl) ht (by assumption) rp rp (fun x_ a_ hx_ ha_=>?_)) | (refine bW hE0 (by rfl) ht (by assumption) rp rp (fun x_ a_ hx_ ha_=>?_)))) | ((with_reducible refine aq 20 ?_);refine aj (aN _ _) ?_) | ((with_reducible refine al 20 ?_);refine ab (aN _ _) ?_) | refine sb (fun nb_ hnb_=>?_) | refine s2 (fun h=>?_) (fun h=>?_) | fail)
 all_goals first
  | exact hq (aE _ _) _ _ _ _ _ _ _ _ _ _ _ _ _ _ rp rp rp (.refl _) (by simp only[aa.wt,aa.wts,ac.wt,ac.wts,aE,bP,cS,dS,aW,List.length_cons,List.length_nil];omega) (by assumption) (by assumption) (by assumption)
  | exact hq (.mk 4 0 [109] [] [] aW [gR (IntKind.i64.wrap (10+(r_:Int))) [99]] []) _ _ _ _ _ _ _ _ _ _ _ _ _ _ rp rp rp (Fz.aggs (.cons (.refl _) (.cons (.refl _) (.cons (.refl _) (.cons (.refl _) (.cons .nils (.cons (.refl _) (.cons (.refl _) (.cons (.refl _) (.cons .nils (.cons (vN [(wR (IntKind.i64.wrap (10+(r_:Int))) [99],gR (IntKind.i64.wrap (10+(r_:Int))) [99])] (.head _) (by rfl) (by rfl) (by simp[wR]) (List.forall_mem_cons.2 ⟨Au,nofun⟩)) (.cons .nils .nil)))))))))))) (by simp only[aa.wt,aa.wts,ac.wt,ac.wts,aE,bP,cS,dS,aW,gR,List.length_cons,List.length_nil];omega) (by assumption) (by assumption) (by assumption)
theorem DI{Q:R}{bm bt nb k r a w d:Nat}{t:List UInt8}{th le:Int}{se tx at_ lo:Bool}{o:Option Nat}{ar:List aL}{ns:Bool}(hq:QS Q bm bt k t w)(ht:t.length<2^40)(ha:a≤t.length)(ho:o=none→ar=[])(hk:k≤ar.length)(hw:100≤w){t1:AV}:dB Q ((bt,aM t a)::(nb,⟨11,[dC]⟩)::(bm,cL bt th le se tx at_ lo o k)::ao o 1 (ar.map az)) (.ptr bm 0 0) t1 16 (.ptr nb 0 0) (.bool ns):=by
 have hE0:=bI 0 (by decide)
 have hE1:=bI 1 (by decide)
 unfold dB cL iY QS dC at *
 repeat' (first | refine st ?_ | ((with_reducible refine aq 18 ?_);(refine eg ht (by assumption) rp (fun r_ a_ hr_ ha_=>?_))) | ((with_reducible refine aq 52 ?_);(first | (refine bW hE1 (by rfl) ht (by assumption) rp rp (fun x_ a_ hx_ ha_=>?_)) | (refine bW hE0 (by rfl) ht (by assumption) rp rp (fun x_ a_ hx_ ha_=>?_)))) | ((with_reducible refine aq 20 ?_);refine aj (aN _ _) ?_) | ((with_reducible refine al 20 ?_);refine ab (aN _ _) ?_) | refine sb (fun nb_ hnb_=>?_) | refine s2 (fun h=>?_) (fun h=>?_) | fail)
 all_goals first
  | exact hq (aE _ _) _ _ _ _ _ _ _ _ _ _ _ _ _ _ rp rp rp (.refl _) (by simp only[aa.wt,aa.wts,ac.wt,ac.wts,aE,bP,cS,dS,aW,List.length_cons,List.length_nil];omega) (by assumption) (by assumption) (by assumption)
  | exact hq (.mk 14 0 [102] [] [] x_ [] []) _ _ _ _ _ _ _ _ _ _ _ _ _ _ rp rp rp (Fz.aggs (.cons (.refl _) (.cons (.refl _) (.cons (.refl _) (.cons (.refl _) (.cons .nils (.cons (.refl _) (.cons (.refl _) (.cons (.refl _) (.cons (.refl _) (.cons .nils (.cons .nils .nil)))))))))))) (by simp only[aa.wt,aa.wts,ac.wt,ac.wts,aE,bP,cS,dS,aW,List.length_cons,List.length_nil];omega) (by assumption) (by assumption) (by assumption)
theorem DJ{Q:R}{bm bt nb k r a w d:Nat}{t:List UInt8}{th le:Int}{se tx at_ lo:Bool}{o:Option Nat}{ar:List aL}{ns:Bool}(hq:QS Q bm bt k t w)(ht:t.length<2^40)(ha:a≤t.length)(ho:o=none→ar=[])(hk:k≤ar.length)(hw:100≤w){t1:AV}:dB Q ((bt,aM t a)::(nb,⟨11,[dC]⟩)::(bm,cL bt th le se tx at_ lo o k)::ao o 1 (ar.map az)) (.ptr bm 0 0) t1 17 (.ptr nb 0 0) (.bool ns):=by
 have hE0:=bI 0 (by decide)
 have hE1:=bI 1 (by decide)
 unfold dB cL iY QS dC at *
 repeat' (first | refine st ?_ | ((with_reducible refine aq 18 ?_);(refine eg ht (by assumption) rp (fun r_ a_ hr_ ha_=>?_))) | ((with_reducible refine aq 52 ?_);(first | (refine bW hE1 (by rfl) ht (by assumption) rp rp (fun x_ a_ hx_ ha_=>?_)) | (refine bW hE0 (by rfl) ht (by assumption) rp rp (fun x_ a_ hx_ ha_=>?_)))) | ((with_reducible refine aq 20 ?_);refine aj (aN _ _) ?_) | ((with_reducible refine al 20 ?_);refine ab (aN _ _) ?_) | refine sb (fun nb_ hnb_=>?_) | refine s2 (fun h=>?_) (fun h=>?_) | fail)
 all_goals first
  | exact hq (aE _ _) _ _ _ _ _ _ _ _ _ _ _ _ _ _ rp rp rp (.refl _) (by simp only[aa.wt,aa.wts,ac.wt,ac.wts,aE,bP,cS,dS,aW,List.length_cons,List.length_nil];omega) (by assumption) (by assumption) (by assumption)
  | exact hq (.mk 15 0 [97] [102] [] aW [] []) _ _ _ _ _ _ _ _ _ _ _ _ _ _ rp rp rp (Fz.aggs (.cons (.refl _) (.cons (.refl _) (.cons (.refl _) (.cons (.refl _) (.cons .nils (.cons (.refl _) (.cons (.refl _) (.cons (.refl _) (.cons .nils (.cons .nils (.cons .nils .nil)))))))))))) (by simp only[aa.wt,aa.wts,ac.wt,ac.wts,aE,bP,cS,dS,aW,List.length_cons,List.length_nil];omega) (by assumption) (by assumption) (by assumption)
end Go.Proofs.Ytljkdffikfkcgaa.Am
end
section
namespace Go.Proofs.Ytljkdffikfkcgaa.Am
set_option maxRecDepth 100000
set_option linter.unusedVariables false
theorem DK(d:Nat)(hU:cM d)(hU0:cM 0)(hd9:d≤5):DF (d+1):=by
 intro bm bt t a th le se tx at_ lo o ar k ht ha ho hk hd
 refine am.fz (gD _ _ _ _ ?_)
 unfold eU
 generalize hQ:(fun(v:AV) (L:SH)=>∃v2 L2,aV [v] L [v2] L2∧∃(v:AV) (a':Nat) (th' le':Int) (se' tx' at' lo':Bool) (o':Option Nat) (ar':List aL),v2=v∧DE (d+1) v∧a'≤t.length∧(o'=none→ar'=[])∧k≤ar'.length∧L2=(bm,cL bt th' le' se' tx' at' lo' o' k)::(bt,aM t a')::ao o' 1 (ar'.map az))=Q
 have hb:bL (d+1)=10*bL d:=by simp only[bL,Nat.pow_succ];omega
 have hb1:100≤bL d:=by unfold bL;have:1≤10^d:=Nat.one_le_pow _ _ (by decide);omega
 have hb2:bL d≤2^30:=by unfold bL;have:10^d≤10^5:=Nat.pow_le_pow_right (by decide) hd9;omega
 have hb0:bL 0=100:=by decide
 have hq:QS Q bm bt k t (10*bL d):=fun x v a' th' le' se' tx' at' lo' o' ar' L L1 L2 L3 h1 h2 h3 h4 h5 h6 h7 h8=>by
  subst hQ;exact⟨_,_,vK h1 h2 h3 h4,_,a',th',le',se',tx',at',lo',o',ar',rfl,⟨x,rfl,by omega⟩,h6,h7,h8,rfl⟩
 clear hQ hb
 have e1:IntKind.i64.wrap (((d+1:Nat):Int)-1)=(d:Int):=by rw[IntWalk.i64_in _ (by omega)];omega
 have dp:decide ((0:Int)<((d+1:Nat):Int))=true:=by simp
 have hw:10*bL d≤10*bL d:=Nat.le_refl _
 have hw1:100≤10*bL d:=by omega
 unfold cL iY
 repeat' (first | refine st ?_ | ((with_reducible refine aq 18 ?_);(refine eg ht (by assumption) rp (fun r_ a_ hr_ ha_=>?_))) | refine sb (fun nb_ hnb_=>?_) | fail)
 have hr:r_<18:=by omega
 generalize hLL:IntKind.i64.wrap (le-1)=le2
 have key:∀ns:Bool,dB Q ((bt,aM t a_)::(nb_,⟨11,[dC]⟩)::(bm,cL bt th le2 se tx at_ lo o k)::ao o 1 (ar.map az)) (.ptr bm 0 0) (.int .i64 ((d+1:Nat):Int)) (r_:Int) (.ptr nb_ 0 0) (.bool ns):=by
  intro ns
  have hcases:r_<4∨r_=4∨r_=5∨r_=6∨r_=7∨r_=8∨r_=9∨r_=10∨r_=11∨r_=12∨r_=13∨r_=14∨r_=15∨r_=16∨r_=17:=by omega
  rcases hcases with h4 | rfl | rfl | rfl | rfl | rfl | rfl | rfl | rfl | rfl | rfl | rfl | rfl | rfl | rfl
  ·exact FX (d:=0) (r:=r_) hq ht ha_ ho hk h4 hw1
  ·exact FY (d:=0) (r:=0) hq ht ha_ ho hk hw1
  ·exact FZ (d:=0) (r:=0) hq ht ha_ ho hk hw1
  ·exact II (r:=0) hq ht ha_ ho hk hU hd hb1 hb2 hw e1 dp
  ·exact IJ (r:=0) hq ht ha_ ho hk hU hd hb1 hb2 hw e1 dp
  ·exact IK (r:=0) hq ht ha_ ho hk hU hd hb1 hb2 hw e1 dp
  ·exact IL (r:=0) hq ht ha_ ho hk hU hd hb1 hb2 hw e1 dp
  ·exact G1 (r:=0) hq ht ha_ ho hk hU hd hb1 hb2 hw e1 dp
  ·exact G2 (r:=0) hq ht ha_ ho hk hU hd hb1 hb2 hw e1 dp
  ·exact G3 (r:=0) hq ht ha_ ho hk hU hd hb1 hb2 hw e1 dp hU0 hb0
  ·exact G4 (r:=0) hq ht ha_ ho hk hU hd hb1 hb2 hw e1 dp
  ·exact G5 (r:=0) hq ht ha_ ho hk hU hd hb1 hb2 hw e1 dp
  ·exact G6 (r:=0) hq ht ha_ ho hk hU hd hb1 hb2 hw e1 dp
  ·exact DI (d:=0) (r:=0) hq ht ha_ ho hk hw1
  ·exact DJ (d:=0) (r:=0) hq ht ha_ ho hk hw1
 cases tx<;>rcases Bool.eq_false_or_eq_true (decide (0<le2))with h0 | h0
 all_goals
  rw[h0]
  repeat' (first | refine st ?_ | refine sb (fun nb_ hnb_=>?_) | fail)
  exact key _
theorem IM{Q:R}{bm bt nb k r a w d:Nat}{t:List UInt8}{th le:Int}{se tx at_ lo:Bool}{o:Option Nat}{ar:List aL}{ns:Bool}(hq:QS Q bm bt k t w)(ht:t.length<2^40)(ha:a≤t.length)(ho:o=none→ar=[])(hk:k≤ar.length)(h6:6≤r)(h15:r≤15)(hns:ns=false)(hw:100≤w):dB Q ((bt,aM t a)::(nb,⟨11,[dC]⟩)::(bm,cL bt th le se tx at_ lo o k)::ao o 1 (ar.map az)) (.ptr bm 0 0) (.int .i64 ((0:Nat):Int)) r (.ptr nb 0 0) (.bool ns):=by
 have hE0:=bI 0 (by decide)
 have hE1:=bI 1 (by decide)
 unfold dB cL iY QS dC at *
 subst hns
 have hcases:r=6∨r=7∨r=8∨r=9∨r=10∨r=11∨r=12∨r=13∨r=14∨r=15:=by omega
 rcases hcases with rfl | rfl | rfl | rfl | rfl | rfl | rfl | rfl | rfl | rfl
 all_goals
  repeat' (first | refine st ?_ | ((with_reducible refine aq 52 ?_);(first | (refine bW hE1 (by rfl) ht (by assumption) rp rp (fun x_ a_ hx_ ha_=>?_)) | (refine bW hE0 (by rfl) ht (by assumption) rp rp (fun x_ a_ hx_ ha_=>?_)))) | ((with_reducible refine aq 20 ?_);refine aj (aN _ _) ?_) | ((with_reducible refine al 20 ?_);refine ab (aN _ _) ?_) | refine sb (fun nb_ hnb_=>?_) | fail)
  exact hq (aE _ _) _ _ _ _ _ _ _ _ _ _ _ _ _ _ rp rp rp (.refl _) (by simp only[aa.wt,aa.wts,ac.wt,ac.wts,aE,bP,cS,dS,aW,List.length_cons,List.length_nil];omega) (by assumption) (by assumption) (by assumption)
theorem G7:DF 0:=by
 intro bm bt t a th le se tx at_ lo o ar k ht ha ho hk hd
 refine am.fz (gD _ _ _ _ ?_)
 unfold eU
 generalize hQ:(fun(v:AV) (L:SH)=>∃v2 L2,aV [v] L [v2] L2∧∃(v:AV) (a':Nat) (th' le':Int) (se' tx' at' lo':Bool) (o':Option Nat) (ar':List aL),v2=v∧DE 0 v∧a'≤t.length∧(o'=none→ar'=[])∧k≤ar'.length∧L2=(bm,cL bt th' le' se' tx' at' lo' o' k)::(bt,aM t a')::ao o' 1 (ar'.map az))=Q
 have hb0:bL 0=100:=by decide
 have hq:QS Q bm bt k t (100):=fun x v a' th' le' se' tx' at' lo' o' ar' L L1 L2 L3 h1 h2 h3 h4 h5 h6 h7 h8=>by
  subst hQ;exact⟨_,_,vK h1 h2 h3 h4,_,a',th',le',se',tx',at',lo',o',ar',rfl,⟨x,rfl,by omega⟩,h6,h7,h8,rfl⟩
 clear hQ
 have hw1:100≤100:=Nat.le_refl _
 unfold cL iY
 repeat' (first | refine st ?_ | ((with_reducible refine aq 18 ?_);(refine eg ht (by assumption) rp (fun r_ a_ hr_ ha_=>?_))) | refine sb (fun nb_ hnb_=>?_) | fail)
 have hr:r_<18:=by omega
 generalize hLL:IntKind.i64.wrap (le-1)=le2
 have key:dB Q ((bt,aM t a_)::(nb_,⟨11,[dC]⟩)::(bm,cL bt th le2 se tx at_ lo o k)::ao o 1 (ar.map az)) (.ptr bm 0 0) (.int .i64 ((0:Nat):Int)) (r_:Int) (.ptr nb_ 0 0) (.bool false):=by
  have hcases:r_<4∨r_=4∨r_=5∨(6≤r_∧r_≤15)∨r_=16∨r_=17:=by omega
  rcases hcases with h4 | rfl | rfl | h4 | rfl | rfl
  ·exact FX (d:=0) (r:=r_) hq ht ha_ ho hk h4 hw1
  ·exact FY (d:=0) (r:=0) hq ht ha_ ho hk hw1
  ·exact FZ (d:=0) (r:=0) hq ht ha_ ho hk hw1
  ·exact IM (d:=0) hq ht ha_ ho hk h4.1 h4.2 rfl hw1
  ·exact DI (d:=0) (r:=0) hq ht ha_ ho hk hw1
  ·exact DJ (d:=0) (r:=0) hq ht ha_ ho hk hw1
 exact key
theorem Av:cM 0:=xZ 0 G7
theorem G8:cM 1:=xZ 1 (DK 0 Av Av (by decide))
theorem G9:cM 2:=xZ 2 (DK 1 G8 Av (by decide))
end Go.Proofs.Ytljkdffikfkcgaa.Am
end
section
namespace Go.Proofs.Ytljkdffikfkcgaa.Am
set_option maxRecDepth 100000
set_option maxHeartbeats 4000000
set_option linter.unusedVariables false
def l8:List aL:=[[109,97,105,110],[116,49],[116,50],[116,51]]
def PH(bm bt b0 bp nmb:Nat)(t:List UInt8)(a:Nat)(th le:Int)(se tx at_ lo:Bool)(o:Option Nat)(ar:List aL)(oT:Option Nat)(m:Nat)(ts:List ai):SH:=
 (bm,cL bt th le se tx at_ lo o 0)::(bt,aM t a)::(b0,⟨2,[[.nils,.nils]]⟩)::(bp,⟨2,[[.lst (aP.map av.enc),au oT m]]⟩)::(nmb,⟨1,l8.map az⟩)::(ao oT 4 (ts.map ai.enc)++ao o 1 (ar.map az))
theorem um{n:Nat}{rows:List (List AV)}:ao none n rows=[]:=rfl
theorem uo{b n:Nat}{rows:List (List AV)}:ao (some b) n rows=[(b,⟨n,rows⟩)]:=rfl
theorem zC{bh bm bt i j:Nat}{x y:Blk}{o:Option Nat}{rows:List (List AV)}(f1:bh≠bm)(f2:bh≠bt)(f3:∀b,o=some b→bh≠b):∀z∈[rm j ⟨af (.ptr bh 0 (0+3)),[],[],[]⟩],W.free z ⟨i,[],SH.names ((bm,x)::(bt,y)::ao o 1 rows),[],true,[]⟩:=by
 intro z hz
 simp only[List.mem_singleton]at hz
 subst hz
 cases o with
 | none=>simp[rm,W.free,ao,SH.names,af,dw,f1,f2,f1.symm,f2.symm]
 | some b=>have:=f3 b rfl;simp[rm,W.free,ao,SH.names,af,dw,f1,f2,f1.symm,f2.symm,this,this.symm]
def PZ(b0 bp:Nat)(ts:List ai):SH:=[(b0,⟨2,[[.nils,.nils]]⟩),(bp,⟨2,[[.lst (aP.map av.enc),.lst (ts.map ai.enc)]]⟩)]
theorem co{K:SH}{x y:List AV}(h:pV K x y)(j:Nat)(r r':List AV)(h1:[x][j]? =some r)(h2:[y][j]? =some r'):pV K r r':=by
 match j with
 | 0=>cases h1;cases h2;exact h
 | j+1=>simp at h1
theorem dD{K:SH}{b n:Nat}{ts:List ai}{x:ai}{raw:List AV}{rows:List (List AV)}(hm:(b,⟨4,rows⟩)∈K)(hr:rows=ts.map ai.enc++[raw])(hn:n=ts.length+1)(h:pV K raw x.enc):Fz K (.sl b 0 n) (.lst ((ts++[x]).map ai.enc)):=by
 have e:(ts++[x]).map ai.enc=(ts.map (fun t:ai=>(t.enc,t))++[(raw,x)]).map (fun y:List AV×ai=>y.2.enc):=by
  rw[List.map_append,List.map_append,List.map_map];rfl
 rw[e]
 refine Fz.slm (f:=Prod.fst) (g:=fun y:List AV×ai=>y.2.enc) hm (by rw[hr,List.map_append,List.map_map];rfl) (by decide) (by rw[hn,List.length_append,List.length_map];rfl) (fun y hy=>?_) fun y hy q a a2 h1 h2=>?_
 ·rcases List.mem_append.1 hy with hy | hy
  ·obtain⟨s,_,rfl⟩:=List.mem_map.1 hy;rfl
  ·rw[List.mem_singleton.1 hy];exact h.at_.1
 ·rcases List.mem_append.1 hy with hy | hy
  ·obtain⟨s,_,rfl⟩:=List.mem_map.1 hy
   replace h1:s.enc[q]? =some a:=h1
   replace h2:s.enc[q]? =some a2:=h2
   rw[h1]at h2;cases h2;exact .refl _
  ·rw[List.mem_singleton.1 hy]at h1 h2;exact h.at_.2 q a a2 h1 h2
theorem zD{bm bt:Nat}{t:List UInt8}{a r:Nat}{th le:Int}{se tx at_ lo:Bool}{o:Option Nat}{ar:List aL}{L L1 L2 L3:SH}{i:Nat}{nn:Int}{us:List W.WR}{KN:AV→SH→List Nat→Prop}(hnn:nn=((1+r:Nat):Int))(hr:r<3)(h1:dG bm (cL bt th le se tx at_ lo o 0) L L1)(h2:dG bt (aM t a) L1 L2)(h3:cW o 1 (ar.map az) L2 L3)(ht:t.length<2^40)(ha:a≤t.length)(ho:o=none→ar=[])
  (hf:∀y∈us,W.free y ⟨i,[],SH.names ((bm,cL bt th le se tx at_ lo o 0)::(bt,aM t a)::ao o 1 (ar.map az)),[],true,[]⟩)
  (hq:∀(l:List aa) (a':Nat) (th' le':Int) (se' tx' at' lo':Bool) (o':Option Nat) (ar':List aL) (ks:List Nat),aa.wts l≤30000→a'≤t.length→(o'=none→ar'=[])→KN (.lst (l.map aa.enc)) ((bm,cL bt th' le' se' tx' at' lo' o' 0)::(bt,aM t a')::(ao o' 1 (ar'.map az)++L3)) ks):W.dcallM Try.prog us i 19 [.ptr bm 0 0,.int .i64 2,.int .i64 nn] L KN:=by
 subst hnn
 refine DD (ya 2 G9 (1+r) (by omega)) h1 h2 h3 ht ha ho (Nat.zero_le _) (by decide) hf ?_
 rintro _ a' th' le' se' tx' at' lo' o' ar' ks ⟨l,rfl,hl⟩ q2 q3 q4
 refine hq l a' th' le' se' tx' at' lo' o' ar' ks (Nat.le_trans hl ?_) q2 q3
 have:bL 2=10000:=by decide
 rw[this];omega
theorem cy{α:Type}{f:α→List AV}{K:SH}{ts:List α}{x:α}{raw:List AV}(h:pV K raw (f x))(j:Nat)(r r':List AV)(h1:(ts.map f++[raw])[j]? =some r)(h2:((ts++[x]).map f)[j]? =some r'):pV K r r':=by
 rw[List.map_append]at h2
 rcases Nat.lt_or_ge j (ts.map f).length with g | g
 ·rw[List.getElem?_append_left g]at h1 h2
  rw[h1]at h2;cases h2;exact .refl _ _
 ·rw[List.getElem?_append_right g]at h1 h2
  generalize j-(ts.map f).length=k at h1 h2
  match k with
  | 0=>cases h1;cases h2;exact h
  | k+1=>simp at h1
theorem fW(l m:List aa):aa.wts (l++m)=aa.wts l+aa.wts m:=by
 induction l with
 | nil=>simp[aa.wts]
 | cons x l ih=>simp only[List.cons_append,aa.wts,ih];omega
def DL(ps:List (List AV×aa))(l:List aa):List (List AV×aa):=ps++l.map fun s=>(s.enc,s)
structure ew(ps:List (List AV×aa)):Prop where
 len:∀y∈ps,y.1.length=11
 fz:∀(K:SH),∀y∈ps,∀(q:Nat) (a a2:AV),y.1[q]? =some a→y.2.row[q]? =some a2→Fz K a a2
theorem ew.pl{ps:List (List AV×aa)}(h:ew ps)(l:List aa):ew (DL ps l):=by
 constructor
 ·intro y hy
  rcases List.mem_append.1 hy with hy | hy
  ·exact h.len y hy
  ·obtain⟨s,_,rfl⟩:=List.mem_map.1 hy
   show s.enc.length=11
   rw[aa.enc_row];rfl
 ·intro K y hy q a a2 h1 h2
  rcases List.mem_append.1 hy with hy | hy
  ·exact h.fz K y hy q a a2 h1 h2
  ·obtain⟨s,_,rfl⟩:=List.mem_map.1 hy
   rw[←aa.enc_row]at h2
   replace h1:s.enc[q]? =some a:=h1
   replace h2:s.enc[q]? =some a2:=h2
   rw[h1]at h2;cases h2;exact .refl _
theorem ew.raw{ps:List (List AV×aa)}(h:ew ps)(op:Int)(nm:aL):ew (ps++[(wR op nm,gR op nm)]):=by
 constructor
 ·intro y hy
  rcases List.mem_append.1 hy with hy | hy
  ·exact h.len y hy
  ·rw[List.mem_singleton.1 hy];rfl
 ·intro K y hy q a a2 h1 h2
  rcases List.mem_append.1 hy with hy | hy
  ·exact h.fz K y hy q a a2 h1 h2
  ·rw[List.mem_singleton.1 hy]at h1 h2;exact Au q a a2 h1 h2
theorem ew.go{ps:List (List AV×aa)}(h:ew ps){K:SH}{b n:Nat}{rows:List (List AV)}(hm:(b,⟨11,rows⟩)∈K)(hr:rows=ps.map Prod.fst)(hn:n=ps.length):Fz K (.sl b 0 n) (.lst ((ps.map Prod.snd).map aa.enc)):=vN ps hm hr hn h.len (h.fz K)
theorem ig(ps:List (List AV×aa))(l:List aa):(DL ps l).map Prod.fst=ps.map Prod.fst++l.map aa.enc:=by simp[DL,Function.comp]
theorem ii(ps:List (List AV×aa))(l:List aa):(DL ps l).map Prod.snd=ps.map Prod.snd++l:=by rw[DL,List.map_append,List.map_map,show(Prod.snd∘fun s:aa=>(s.enc,s))=id from rfl,List.map_id]
theorem ij(ps:List (List AV×aa))(l:List aa):(DL ps l).length=ps.length+l.length:=by simp[DL]
theorem Ha{n23:Kn}{bm bt b0 bp nmb bh lb a n i:Nat}{t:List UInt8}{th le:Int}{se tx at_ lo:Bool}{o oT oB:Option Nat}{ar:List aL}{ts:List ai}{ps:List (List AV×aa)}{nm:aL}
  (ht:t.length<2^40) (ha:a≤t.length) (ho:o=none→ar=[]) (hoT:oT=none→ts=[]) (hoB:oB=none→ps=[]) (hts:ts.length≤4) (hps:ps.length≤4)
  (f1:bh≠bm) (f2:bh≠bt) (f3:∀b,o=some b→bh≠b) (hg:ew ps) (hnm:nm.length≤4) (hpw:aa.wts (ps.map Prod.snd)≤100)
  (hn:∀(x:ai) (a':Nat) (th' le':Int) (se' tx' at' lo':Bool) (o':Option Nat) (ar':List aL) (nbT:Nat) (L':SH),ai.wt x≤40000→a'≤t.length→(o'=none→ar'=[])→aV [.ptr b0 0 0,.ptr bm 0 0,.ptr bp 0 0,.int .i64 n,.sl nmb 0 4,.int .i64 (IntKind.i64.wrap ((i:Int)+1))] L' [.ptr b0 0 0,.ptr bm 0 0,.ptr bp 0 0,.int .i64 n,.sl nmb 0 4,.int .i64 (IntKind.i64.wrap ((i:Int)+1))] (PH bm bt b0 bp nmb t a' th' le' se' tx' at' lo' o' ar' (some nbT) (ts.length+1) (ts++[x]))→aV [.ptr b0 0 0,.ptr bm 0 0,.ptr bp 0 0,.int .i64 n,.sl nmb 0 4,.int .i64 (IntKind.i64.wrap ((i:Int)+1))] L' [.ptr b0 0 0,.ptr bm 0 0,.ptr bp 0 0,.int .i64 n,.sl nmb 0 4,.int .i64 (IntKind.i64.wrap ((i:Int)+1))] (PZ b0 bp (ts++[x]))→n23 [.ptr b0 0 0,.ptr bm 0 0,.ptr bp 0 0,.int .i64 n,.sl nmb 0 4,.int .i64 (IntKind.i64.wrap ((i:Int)+1))] L')
  : bJ n23 [.ptr b0 0 0,.ptr bm 0 0,.ptr bp 0 0,.int .i64 n,.sl nmb 0 4,.int .i64 i,.ptr bh 0 0] ((bh,⟨4,[[.str nm,.int .i64 0,.sl lb 0 2,au oB ps.length]]⟩)::(lb,⟨1,[[.str [97]],[.str [98]]]⟩)::(bm,cL bt th le se tx at_ lo o 0)::(bt,aM t a)::(b0,⟨2,[[.nils,.nils]]⟩)::(bp,⟨2,[[.lst (aP.map av.enc),au oT ts.length]]⟩)::(nmb,⟨1,l8.map az⟩)::(ao oB 11 (ps.map Prod.fst)++(ao oT 4 (ts.map ai.enc)++ao o 1 (ar.map az)))):=by
 unfold bJ cL iY
 repeat' (first | refine dm (b9 ?_ (E2 (by omega))) | refine st ?_ | ((with_reducible refine aq 18 ?_);(refine eg ht (by assumption) rp (fun r_ a_ hr_ ha_=>?_))) | ((with_reducible refine al 18 ?_);refine uk ht (by assumption) rp (fun r_ a_ hr_ ha_=>?_)) | ((with_reducible refine al 19 ?_);refine zD rfl (by omega) rp rp rp ht (by assumption) (by assumption) (zC f1 f2 f3) ?_;rintro l_ a_ th_ le_ se_ tx_ at_ lo_ o_ ar_ ks_ hl_ ha_ ho_;have hl9_:=aa.wts_len l_;rcases o_ with _ | ob_;all_goals dsimp only[um,uo,List.nil_append,List.cons_append]) | (refine C8 rp (fun x=>by rw[aa.enc_row];rfl) (by simp) (fun e=>by simp[hoB e]) (by omega) (by omega) (fun x=>by rw[aa.enc_row];rfl) (fun o2_ ho2_=>?_);rcases o2_ with _ | ob2_;(have e_:=ho2_ rfl;simp only[List.append_eq_nil_iff,List.map_eq_nil_iff]at e_;obtain⟨rfl,rfl⟩:=e_);all_goals dsimp only[um,uo,List.nil_append,List.cons_append]) | refine cI (rows:=[]) (o:=none) rp (.here _) (by rfl) (fun _=>rfl) (by rfl) (by simp) (by simp) (by simp) (by rfl) (fun nb_ hnb_=>?_) | refine cI rp rp (by simp) (fun e=>by first | simp[ho2_ e] | simp[hoT e] | simp[hoB e]) (by rfl) (by simp) (by simp;omega) (by simp;omega) (by rfl) (fun nb_ hnb_=>?_) | refine sb (fun nb_ hnb_=>?_) | refine s2 (fun h=>?_) (fun h=>?_) | fail)
 all_goals first
  | exact hn ⟨nm,0,[[97],[98]],((DL ps l_).map Prod.snd)⟩ a_ th_ le_ se_ tx_ at_ lo_ none ar_ nb_ _ (by simp only[ai.wt,ii,fW,List.map_append,List.map_cons,List.map_nil,gR,aW,aa.wt,aa.wts,ac.wt,ac.wts,List.length_cons,List.length_nil,List.sum_cons,List.sum_nil];omega) ha_ ho_ (aV.rowA (A:=[(bm,_),(bt,_),(b0,_),(bp,_),(nmb,_)]) (b:=nb_) (R:=[]) (rows':=(ts++[_]).map ai.enc) rp (by simp) (cy (f:=ai.enc) (.cons (.refl _) (.cons (.refl _) (.cons (Fz.sls (l:=[[97],[98]]) (f:=az) (size:=1) (b:=lb) mm (by rfl) (by decide) (by rfl)) (.cons ((hg.pl l_).go mm (ig _ _).symm (ij _ _).symm) .nil))))) rfl) (aV.rowA (A:=[(b0,_)]) (b:=bp) (R:=[]) (rows':=[[.lst (aP.map av.enc),.lst ((ts++[_]).map ai.enc)]]) rp (by rfl) (co (.cons (.refl _) (.cons (dD (b:=nb_) mm (by rfl) (by rfl) (.cons (.refl _) (.cons (.refl _) (.cons (Fz.sls (l:=[[97],[98]]) (f:=az) (size:=1) (b:=lb) mm (by rfl) (by decide) (by rfl)) (.cons ((hg.pl l_).go mm (ig _ _).symm (ij _ _).symm) .nil))))) .nil))) rfl)
  | exact hn ⟨nm,0,[[97],[98]],((DL ps l_++[(wR 13 [116,49],gR 13 [116,49])]).map Prod.snd)⟩ a_ th_ le_ se_ tx_ at_ lo_ none ar_ nb_ _ (by simp only[ai.wt,ii,fW,List.map_append,List.map_cons,List.map_nil,gR,aW,aa.wt,aa.wts,ac.wt,ac.wts,List.length_cons,List.length_nil,List.sum_cons,List.sum_nil];omega) ha_ ho_ (aV.rowA (A:=[(bm,_),(bt,_),(b0,_),(bp,_),(nmb,_)]) (b:=nb_) (R:=[]) (rows':=(ts++[_]).map ai.enc) rp (by simp) (cy (f:=ai.enc) (.cons (.refl _) (.cons (.refl _) (.cons (Fz.sls (l:=[[97],[98]]) (f:=az) (size:=1) (b:=lb) mm (by rfl) (by decide) (by rfl)) (.cons (((hg.pl l_).raw 13 [116,49]).go mm (by rw[List.map_append,ig];rfl) (by rw[List.length_append,ij];rfl)) .nil))))) rfl) (aV.rowA (A:=[(b0,_)]) (b:=bp) (R:=[]) (rows':=[[.lst (aP.map av.enc),.lst ((ts++[_]).map ai.enc)]]) rp (by rfl) (co (.cons (.refl _) (.cons (dD (b:=nb_) mm (by rfl) (by rfl) (.cons (.refl _) (.cons (.refl _) (.cons (Fz.sls (l:=[[97],[98]]) (f:=az) (size:=1) (b:=lb) mm (by rfl) (by decide) (by rfl)) (.cons (((hg.pl l_).raw 13 [116,49]).go mm (by rw[List.map_append,ig];rfl) (by rw[List.length_append,ij];rfl)) .nil))))) .nil))) rfl)
  | exact hn ⟨nm,0,[[97],[98]],[]⟩ a_ th_ le_ se_ tx_ at_ lo_ none ar_ nb_ _ (by simp only[ai.wt,ii,fW,List.map_append,List.map_cons,List.map_nil,gR,aW,aa.wt,aa.wts,ac.wt,ac.wts,List.length_cons,List.length_nil,List.sum_cons,List.sum_nil];omega) ha_ ho_ (aV.rowA (A:=[(bm,_),(bt,_),(b0,_),(bp,_),(nmb,_)]) (b:=nb_) (R:=[]) (rows':=(ts++[_]).map ai.enc) rp (by simp) (cy (f:=ai.enc) (.cons (.refl _) (.cons (.refl _) (.cons (Fz.sls (l:=[[97],[98]]) (f:=az) (size:=1) (b:=lb) mm (by rfl) (by decide) (by rfl)) (.cons .emp .nil))))) rfl) (aV.rowA (A:=[(b0,_)]) (b:=bp) (R:=[]) (rows':=[[.lst (aP.map av.enc),.lst ((ts++[_]).map ai.enc)]]) rp (by rfl) (co (.cons (.refl _) (.cons (dD (b:=nb_) mm (by rfl) (by rfl) (.cons (.refl _) (.cons (.refl _) (.cons (Fz.sls (l:=[[97],[98]]) (f:=az) (size:=1) (b:=lb) mm (by rfl) (by decide) (by rfl)) (.cons .emp .nil))))) .nil))) rfl)
  | exact hn ⟨nm,0,[[97],[98]],[gR 13 [116,49]]⟩ a_ th_ le_ se_ tx_ at_ lo_ none ar_ nb_ _ (by simp only[ai.wt,ii,fW,List.map_append,List.map_cons,List.map_nil,gR,aW,aa.wt,aa.wts,ac.wt,ac.wts,List.length_cons,List.length_nil,List.sum_cons,List.sum_nil];omega) ha_ ho_ (aV.rowA (A:=[(bm,_),(bt,_),(b0,_),(bp,_),(nmb,_)]) (b:=nb_) (R:=[]) (rows':=(ts++[_]).map ai.enc) rp (by simp) (cy (f:=ai.enc) (.cons (.refl _) (.cons (.refl _) (.cons (Fz.sls (l:=[[97],[98]]) (f:=az) (size:=1) (b:=lb) mm (by rfl) (by decide) (by rfl)) (.cons (((ew.mk nofun nofun:ew []).raw 13 [116,49]).go mm (by rfl) (by rfl)) .nil))))) rfl) (aV.rowA (A:=[(b0,_)]) (b:=bp) (R:=[]) (rows':=[[.lst (aP.map av.enc),.lst ((ts++[_]).map ai.enc)]]) rp (by rfl) (co (.cons (.refl _) (.cons (dD (b:=nb_) mm (by rfl) (by rfl) (.cons (.refl _) (.cons (.refl _) (.cons (Fz.sls (l:=[[97],[98]]) (f:=az) (size:=1) (b:=lb) mm (by rfl) (by decide) (by rfl)) (.cons (((ew.mk nofun nofun:ew []).raw 13 [116,49]).go mm (by rfl) (by rfl)) .nil))))) .nil))) rfl)
  | exact hn ⟨nm,0,[[97],[98]],((DL ps l_).map Prod.snd)⟩ a_ th_ le_ se_ tx_ at_ lo_ (some ob_) ar_ nb_ _ (by simp only[ai.wt,ii,fW,List.map_append,List.map_cons,List.map_nil,gR,aW,aa.wt,aa.wts,ac.wt,ac.wts,List.length_cons,List.length_nil,List.sum_cons,List.sum_nil];omega) ha_ ho_ (aV.rowA (A:=[(bm,_),(bt,_),(b0,_),(bp,_),(nmb,_)]) (b:=nb_) (R:=[(ob_,_)]) (rows':=(ts++[_]).map ai.enc) rp (by simp) (cy (f:=ai.enc) (.cons (.refl _) (.cons (.refl _) (.cons (Fz.sls (l:=[[97],[98]]) (f:=az) (size:=1) (b:=lb) mm (by rfl) (by decide) (by rfl)) (.cons ((hg.pl l_).go mm (ig _ _).symm (ij _ _).symm) .nil))))) rfl) (aV.rowA (A:=[(b0,_)]) (b:=bp) (R:=[]) (rows':=[[.lst (aP.map av.enc),.lst ((ts++[_]).map ai.enc)]]) rp (by rfl) (co (.cons (.refl _) (.cons (dD (b:=nb_) mm (by rfl) (by rfl) (.cons (.refl _) (.cons (.refl _) (.cons (Fz.sls (l:=[[97],[98]]) (f:=az) (size:=1) (b:=lb) mm (by rfl) (by decide) (by rfl)) (.cons ((hg.pl l_).go mm (ig _ _).symm (ij _ _).symm) .nil))))) .nil))) rfl)
  | exact hn ⟨nm,0,[[97],[98]],((DL ps l_++[(wR 13 [116,49],gR 13 [116,49])]).map Prod.snd)⟩ a_ th_ le_ se_ tx_ at_ lo_ (some ob_) ar_ nb_ _ (by simp only[ai.wt,ii,fW,List.map_append,List.map_cons,List.map_nil,gR,aW,aa.wt,aa.wts,ac.wt,ac.wts,List.length_cons,List.length_nil,List.sum_cons,List.sum_nil];omega) ha_ ho_ (aV.rowA (A:=[(bm,_),(bt,_),(b0,_),(bp,_),(nmb,_)]) (b:=nb_) (R:=[(ob_,_)]) (rows':=(ts++[_]).map ai.enc) rp (by simp) (cy (f:=ai.enc) (.cons (.refl _) (.cons (.refl _) (.cons (Fz.sls (l:=[[97],[98]]) (f:=az) (size:=1) (b:=lb) mm (by rfl) (by decide) (by rfl)) (.cons (((hg.pl l_).raw 13 [116,49]).go mm (by rw[List.map_append,ig];rfl) (by rw[List.length_append,ij];rfl)) .nil))))) rfl) (aV.rowA (A:=[(b0,_)]) (b:=bp) (R:=[]) (rows':=[[.lst (aP.map av.enc),.lst ((ts++[_]).map ai.enc)]]) rp (by rfl) (co (.cons (.refl _) (.cons (dD (b:=nb_) mm (by rfl) (by rfl) (.cons (.refl _) (.cons (.refl _) (.cons (Fz.sls (l:=[[97],[98]]) (f:=az) (size:=1) (b:=lb) mm (by rfl) (by decide) (by rfl)) (.cons (((hg.pl l_).raw 13 [116,49]).go mm (by rw[List.map_append,ig];rfl) (by rw[List.length_append,ij];rfl)) .nil))))) .nil))) rfl)
  | exact hn ⟨nm,0,[[97],[98]],[]⟩ a_ th_ le_ se_ tx_ at_ lo_ (some ob_) ar_ nb_ _ (by simp only[ai.wt,ii,fW,List.map_append,List.map_cons,List.map_nil,gR,aW,aa.wt,aa.wts,ac.wt,ac.wts,List.length_cons,List.length_nil,List.sum_cons,List.sum_nil];omega) ha_ ho_ (aV.rowA (A:=[(bm,_),(bt,_),(b0,_),(bp,_),(nmb,_)]) (b:=nb_) (R:=[(ob_,_)]) (rows':=(ts++[_]).map ai.enc) rp (by simp) (cy (f:=ai.enc) (.cons (.refl _) (.cons (.refl _) (.cons (Fz.sls (l:=[[97],[98]]) (f:=az) (size:=1) (b:=lb) mm (by rfl) (by decide) (by rfl)) (.cons .emp .nil))))) rfl) (aV.rowA (A:=[(b0,_)]) (b:=bp) (R:=[]) (rows':=[[.lst (aP.map av.enc),.lst ((ts++[_]).map ai.enc)]]) rp (by rfl) (co (.cons (.refl _) (.cons (dD (b:=nb_) mm (by rfl) (by rfl) (.cons (.refl _) (.cons (.refl _) (.cons (Fz.sls (l:=[[97],[98]]) (f:=az) (size:=1) (b:=lb) mm (by rfl) (by decide) (by rfl)) (.cons .emp .nil))))) .nil))) rfl)
  | exact hn ⟨nm,0,[[97],[98]],[gR 13 [116,49]]⟩ a_ th_ le_ se_ tx_ at_ lo_ (some ob_) ar_ nb_ _ (by simp only[ai.wt,ii,fW,List.map_append,List.map_cons,List.map_nil,gR,aW,aa.wt,aa.wts,ac.wt,ac.wts,List.length_cons,List.length_nil,List.sum_cons,List.sum_nil];omega) ha_ ho_ (aV.rowA (A:=[(bm,_),(bt,_),(b0,_),(bp,_),(nmb,_)]) (b:=nb_) (R:=[(ob_,_)]) (rows':=(ts++[_]).map ai.enc) rp (by simp) (cy (f:=ai.enc) (.cons (.refl _) (.cons (.refl _) (.cons (Fz.sls (l:=[[97],[98]]) (f:=az) (size:=1) (b:=lb) mm (by rfl) (by decide) (by rfl)) (.cons (((ew.mk nofun nofun:ew []).raw 13 [116,49]).go mm (by rfl) (by rfl)) .nil))))) rfl) (aV.rowA (A:=[(b0,_)]) (b:=bp) (R:=[]) (rows':=[[.lst (aP.map av.enc),.lst ((ts++[_]).map ai.enc)]]) rp (by rfl) (co (.cons (.refl _) (.cons (dD (b:=nb_) mm (by rfl) (by rfl) (.cons (.refl _) (.cons (.refl _) (.cons (Fz.sls (l:=[[97],[98]]) (f:=az) (size:=1) (b:=lb) mm (by rfl) (by decide) (by rfl)) (.cons (((ew.mk nofun nofun:ew []).raw 13 [116,49]).go mm (by rfl) (by rfl)) .nil))))) .nil))) rfl)
end Go.Proofs.Ytljkdffikfkcgaa.Am
end
section
namespace Go.Proofs.Ytljkdffikfkcgaa.Am
set_option maxRecDepth 100000
set_option maxHeartbeats 4000000
set_option linter.unusedVariables false
theorem DM{α:Type}{f:α→List AV}{l:List α}{n by_:Nat}{L:SH}{KL:AV→SH→Prop}(hn:∀x,(f x).length=n)(h2:2*l.length*by_≤2^48)(h3:2*l.length≤2^62)(h4:∀x,(f x).all AV.one=true)
  (h:l=[]→KL .nils L) (h':∀b,KL (.sl b 0 l.length) ((b,⟨n,l.map f⟩)::L)):W.append n by_ .nils (.lst (l.map f)) L KL:=by
 have h4':((l.map f).all fun r=>r.all AV.one)=true:=by
  rw[List.all_eq_true]
  intro r hr
  obtain⟨x,_,rfl⟩:=List.mem_map.1 hr
  exact h4 x
 refine⟨[],l.map f,rfl,ud hn,by simpa using h2,by simpa using h3,h4',fun e=>?_,fun e b hb=>?_⟩
 ·exact h (by simpa using e)
 ·have:=h' b
  simpa using this
theorem Hb{n23:Kn}{bm bt b0 bp nmb bh lb a n i:Nat}{t:List UInt8}{th le:Int}{se tx at_ lo:Bool}{o oT:Option Nat}{ar:List aL}{ts:List ai}{nm:aL}
  (ht:t.length<2^40) (ha:a≤t.length) (ho:o=none→ar=[]) (hoT:oT=none→ts=[]) (hts:ts.length≤4)
  (f1:bh≠bm) (f2:bh≠bt) (f3:∀b,o=some b→bh≠b) (hnm:nm.length≤4)
  (hz:decide ((i:Int)=0)=false) (hn:∀(x:ai) (a':Nat) (th' le':Int) (se' tx' at' lo':Bool) (o':Option Nat) (ar':List aL) (nbT:Nat) (L':SH),ai.wt x≤40000→a'≤t.length→(o'=none→ar'=[])→aV [.ptr b0 0 0,.ptr bm 0 0,.ptr bp 0 0,.int .i64 n,.sl nmb 0 4,.int .i64 (IntKind.i64.wrap ((i:Int)+1))] L' [.ptr b0 0 0,.ptr bm 0 0,.ptr bp 0 0,.int .i64 n,.sl nmb 0 4,.int .i64 (IntKind.i64.wrap ((i:Int)+1))] (PH bm bt b0 bp nmb t a' th' le' se' tx' at' lo' o' ar' (some nbT) (ts.length+1) (ts++[x]))→aV [.ptr b0 0 0,.ptr bm 0 0,.ptr bp 0 0,.int .i64 n,.sl nmb 0 4,.int .i64 (IntKind.i64.wrap ((i:Int)+1))] L' [.ptr b0 0 0,.ptr bm 0 0,.ptr bp 0 0,.int .i64 n,.sl nmb 0 4,.int .i64 (IntKind.i64.wrap ((i:Int)+1))] (PZ b0 bp (ts++[x]))→n23 [.ptr b0 0 0,.ptr bm 0 0,.ptr bp 0 0,.int .i64 n,.sl nmb 0 4,.int .i64 (IntKind.i64.wrap ((i:Int)+1))] L')
  : bJ n23 [.ptr b0 0 0,.ptr bm 0 0,.ptr bp 0 0,.int .i64 n,.sl nmb 0 4,.int .i64 (i:Int),.ptr bh 0 0] ((bh,⟨4,[[.str nm,.int .i64 0,.sl lb 0 2,AV.nils]]⟩)::(lb,⟨1,[[.str [97]],[.str [98]]]⟩)::(bm,cL bt th le se tx at_ lo o 0)::(bt,aM t a)::(b0,⟨2,[[.nils,.nils]]⟩)::(bp,⟨2,[[.lst (aP.map av.enc),au oT ts.length]]⟩)::(nmb,⟨1,l8.map az⟩)::(ao oT 4 (ts.map ai.enc)++ao o 1 (ar.map az))):=by
 unfold bJ cL iY
 repeat' (first | refine dm (b9 ?_ (E2 (by omega))) | refine st ?_ | ((with_reducible refine aq 18 ?_);(refine eg ht (by assumption) rp (fun r_ a_ hr_ ha_=>?_))) | ((with_reducible refine al 18 ?_);refine uk ht (by assumption) rp (fun r_ a_ hr_ ha_=>?_)) | ((with_reducible refine al 19 ?_);refine zD rfl (by omega) rp rp rp ht (by assumption) (by assumption) (zC f1 f2 f3) ?_;rintro l_ a_ th_ le_ se_ tx_ at_ lo_ o_ ar_ ks_ hl_ ha_ ho_;have hl9_:=aa.wts_len l_;rcases o_ with _ | ob_;all_goals dsimp only[um,uo,List.nil_append,List.cons_append]) | (refine DM (fun x=>by rw[aa.enc_row];rfl) (by omega) (by omega) (fun x=>by rw[aa.enc_row];rfl) ?_ ?_;all_goals first | (intro e_;subst e_) | intro ob2_) | refine cI rp rp (by simp) (fun e=>by first | simp[hoT e]) (by rfl) (by simp) (by simp;omega) (by simp;omega) (by rfl) (fun nb_ hnb_=>?_) | refine sb (fun nb_ hnb_=>?_) | refine s2 (fun h=>?_) (fun h=>?_) | fail)
 all_goals first
  | exact hn ⟨nm,0,[[97],[98]],l_⟩ a_ th_ le_ se_ tx_ at_ lo_ none ar_ nb_ _ (by simp only[ai.wt,aa.wts,List.map_cons,List.map_nil,List.length_cons,List.length_nil,List.sum_cons,List.sum_nil];omega) ha_ ho_ (aV.rowA (A:=[(bm,_),(bt,_),(b0,_),(bp,_),(nmb,_)]) (b:=nb_) (R:=[]) (rows':=(ts++[_]).map ai.enc) rp (by simp) (cy (f:=ai.enc) (.cons (.refl _) (.cons (.refl _) (.cons (Fz.sls (l:=[[97],[98]]) (f:=az) (size:=1) (b:=lb) mm (by rfl) (by decide) (by rfl)) (.cons (Fz.sls (l:=l_) (f:=aa.enc) (size:=11) (b:=ob2_) mm (by rfl) (by decide) (by rfl)) .nil))))) rfl) (aV.rowA (A:=[(b0,_)]) (b:=bp) (R:=[]) (rows':=[[.lst (aP.map av.enc),.lst ((ts++[_]).map ai.enc)]]) rp (by rfl) (co (.cons (.refl _) (.cons (dD (b:=nb_) mm (by rfl) (by rfl) (.cons (.refl _) (.cons (.refl _) (.cons (Fz.sls (l:=[[97],[98]]) (f:=az) (size:=1) (b:=lb) mm (by rfl) (by decide) (by rfl)) (.cons (Fz.sls (l:=l_) (f:=aa.enc) (size:=11) (b:=ob2_) mm (by rfl) (by decide) (by rfl)) .nil))))) .nil))) rfl)
  | exact hn ⟨nm,0,[[97],[98]],[]⟩ a_ th_ le_ se_ tx_ at_ lo_ none ar_ nb_ _ (by simp only[ai.wt,aa.wts,List.map_cons,List.map_nil,List.length_cons,List.length_nil,List.sum_cons,List.sum_nil];omega) ha_ ho_ (aV.rowA (A:=[(bm,_),(bt,_),(b0,_),(bp,_),(nmb,_)]) (b:=nb_) (R:=[]) (rows':=(ts++[_]).map ai.enc) rp (by simp) (cy (f:=ai.enc) (.cons (.refl _) (.cons (.refl _) (.cons (Fz.sls (l:=[[97],[98]]) (f:=az) (size:=1) (b:=lb) mm (by rfl) (by decide) (by rfl)) (.cons .nils .nil))))) rfl) (aV.rowA (A:=[(b0,_)]) (b:=bp) (R:=[]) (rows':=[[.lst (aP.map av.enc),.lst ((ts++[_]).map ai.enc)]]) rp (by rfl) (co (.cons (.refl _) (.cons (dD (b:=nb_) mm (by rfl) (by rfl) (.cons (.refl _) (.cons (.refl _) (.cons (Fz.sls (l:=[[97],[98]]) (f:=az) (size:=1) (b:=lb) mm (by rfl) (by decide) (by rfl)) (.cons .nils .nil))))) .nil))) rfl)
  | exact hn ⟨nm,0,[[97],[98]],l_⟩ a_ th_ le_ se_ tx_ at_ lo_ (some ob_) ar_ nb_ _ (by simp only[ai.wt,aa.wts,List.map_cons,List.map_nil,List.length_cons,List.length_nil,List.sum_cons,List.sum_nil];omega) ha_ ho_ (aV.rowA (A:=[(bm,_),(bt,_),(b0,_),(bp,_),(nmb,_)]) (b:=nb_) (R:=[(ob_,_)]) (rows':=(ts++[_]).map ai.enc) rp (by simp) (cy (f:=ai.enc) (.cons (.refl _) (.cons (.refl _) (.cons (Fz.sls (l:=[[97],[98]]) (f:=az) (size:=1) (b:=lb) mm (by rfl) (by decide) (by rfl)) (.cons (Fz.sls (l:=l_) (f:=aa.enc) (size:=11) (b:=ob2_) mm (by rfl) (by decide) (by rfl)) .nil))))) rfl) (aV.rowA (A:=[(b0,_)]) (b:=bp) (R:=[]) (rows':=[[.lst (aP.map av.enc),.lst ((ts++[_]).map ai.enc)]]) rp (by rfl) (co (.cons (.refl _) (.cons (dD (b:=nb_) mm (by rfl) (by rfl) (.cons (.refl _) (.cons (.refl _) (.cons (Fz.sls (l:=[[97],[98]]) (f:=az) (size:=1) (b:=lb) mm (by rfl) (by decide) (by rfl)) (.cons (Fz.sls (l:=l_) (f:=aa.enc) (size:=11) (b:=ob2_) mm (by rfl) (by decide) (by rfl)) .nil))))) .nil))) rfl)
  | exact hn ⟨nm,0,[[97],[98]],[]⟩ a_ th_ le_ se_ tx_ at_ lo_ (some ob_) ar_ nb_ _ (by simp only[ai.wt,aa.wts,List.map_cons,List.map_nil,List.length_cons,List.length_nil,List.sum_cons,List.sum_nil];omega) ha_ ho_ (aV.rowA (A:=[(bm,_),(bt,_),(b0,_),(bp,_),(nmb,_)]) (b:=nb_) (R:=[(ob_,_)]) (rows':=(ts++[_]).map ai.enc) rp (by simp) (cy (f:=ai.enc) (.cons (.refl _) (.cons (.refl _) (.cons (Fz.sls (l:=[[97],[98]]) (f:=az) (size:=1) (b:=lb) mm (by rfl) (by decide) (by rfl)) (.cons .nils .nil))))) rfl) (aV.rowA (A:=[(b0,_)]) (b:=bp) (R:=[]) (rows':=[[.lst (aP.map av.enc),.lst ((ts++[_]).map ai.enc)]]) rp (by rfl) (co (.cons (.refl _) (.cons (dD (b:=nb_) mm (by rfl) (by rfl) (.cons (.refl _) (.cons (.refl _) (.cons (Fz.sls (l:=[[97],[98]]) (f:=az) (size:=1) (b:=lb) mm (by rfl) (by decide) (by rfl)) (.cons .nils .nil))))) .nil))) rfl)
end Go.Proofs.Ytljkdffikfkcgaa.Am
end
section
namespace Go.Proofs.Ytljkdffikfkcgaa.Am
set_option linter.unusedVariables false
theorem Jl:Fit Try.prog (fun _=>none):=⟨fun t ts h=>(by cases h),fit.names,fit.order⟩
end Go.Proofs.Ytljkdffikfkcgaa.Am
end
section
namespace Go.Proofs.Ytljkdffikfkcgaa.Am
set_option maxRecDepth 100000
set_option linter.unusedVariables false
theorem am.pure{P:Program}{f:FuncId}{args:List AV}{Q:AV→SH→Prop}(h:am P f args [] Q)(ha:∀a∈args,bB a)(hv:∀u K,Q u K→bB u):∃v K,Q v K∧aO P f args v:=by
 obtain⟨v,H',L',h1,h2,h3⟩:=h.2 ah.empty (fun b _=>dx b) ⟨List.nodup_nil,nofun⟩
 have hV:Cp P f args v:=fun w σ vs hW hvs=>(h1 w σ vs hW hvs).mono fun e w' ⟨v',σ',he,k1,k2,k3,k4⟩=>⟨v',σ',H',he,k1,k3⟩
 exact⟨v,L',h3,h.1,fun H hb hs=>⟨v,H,[],HI (hv _ _ h3) (fun i a hi=>ha a (List.mem_of_getElem? hi)) hV H,.refl hb hs,rfl,rfl⟩⟩
theorem bB.lsts{rows:List (List AV)}(h:∀r∈rows,∀a∈r,bB a):bB (.lst rows):=.lst rows fun i r j a h1 h2=>h r (List.mem_of_getElem? h1) a (List.mem_of_getElem? h2)
theorem bB.lmap{α:Type}{f:α→List AV}{l:List α}(h:∀x∈l,∀a∈f x,bB a):bB (.lst (l.map f)):=.lsts fun r hr=>by
 obtain⟨x,hx,rfl⟩:=List.mem_map.1 hr
 exact h x hx
theorem bB.aggs{cs:List AV}(h:∀a∈cs,bB a):bB (.agg cs):=.agg cs fun i a hi=>h a (List.mem_of_getElem? hi)
theorem bB.tups{cs:List AV}(h:∀a∈cs,bB a):bB (.tup cs):=.tup cs fun i a hi=>h a (List.mem_of_getElem? hi)
theorem B2(s:aL):∀a∈az s,bB a:=fun a h=>by rw[List.mem_singleton.1 h];exact .str _
mutual
theorem ac.pure:∀x:ac,∀a∈x.enc,bB a
 | .mk op n name l=>by
  have:=ac.pures l
  simp only[ac.enc,List.forall_mem_cons,List.not_mem_nil,false_implies,implies_true,and_true]
  exact⟨.int _ _,.int _ _,.str _,.lsts this⟩
theorem ac.pures:∀l:List ac,∀r∈ac.encs l,∀a∈r,bB a
 | []=>nofun
 | x::l=>by
  simp only[ac.encs,List.forall_mem_cons]
  exact⟨ac.pure x,ac.pures l⟩
end
mutual
theorem aa.pure:∀x:aa,∀a∈x.enc,bB a
 | .mk op line name arg index e body els=>by
  have h1:=aa.pures body;have h2:=aa.pures els
  simp only[aa.enc,List.forall_mem_cons,List.not_mem_nil,false_implies,implies_true,and_true]
  exact⟨.int _ _,.int _ _,.str _,.str _,.lmap fun x _=>x.pure,.int _ _,.int _ _,.str _,.lmap fun x _=>x.pure,.lsts h1,.lsts h2⟩
theorem aa.pures:∀l:List aa,∀r∈aa.encs l,∀a∈r,bB a
 | []=>nofun
 | x::l=>by
  simp only[aa.encs,List.forall_mem_cons]
  exact⟨aa.pure x,aa.pures l⟩
end
theorem av.pure(d:av):∀a∈d.enc,bB a:=by
 simp only[av.enc,List.forall_mem_cons,List.not_mem_nil,false_implies,implies_true,and_true]
 exact⟨.int _ _,.int _ _,.str _,.int _ _,.int _ _,.str _⟩
theorem ai.pure(d:ai):∀a∈d.enc,bB a:=by
 simp only[ai.enc,List.forall_mem_cons,List.not_mem_nil,false_implies,implies_true,and_true]
 exact⟨.str _,.int _ _,.lmap fun x _=>B2 x,.lmap fun x _=>x.pure⟩
theorem aK.pure(p:aK):bB (.agg p.enc):=.aggs (by
 simp only[aK.enc,List.forall_mem_cons,List.not_mem_nil,false_implies,implies_true,and_true]
 exact⟨.lmap fun x _=>x.pure,.lmap fun x _=>x.pure⟩)
theorem zE(e ln:Int):bB (.tup [.int .i64 e,.int .i64 ln]):=.tups (by
 simp only[List.forall_mem_cons,List.not_mem_nil,false_implies,implies_true,and_true]
 exact⟨.int _ _,.int _ _⟩)
theorem DN(p:aK)(hw:p.wt<2^40):∃e ln:Int,(e=0→fD p)∧aO Try.prog 12 [.agg p.enc] (.tup [.int .i64 e,.int .i64 ln]):=by
 obtain⟨v,K,⟨e,ln,rfl,rfl,hg⟩,hp⟩:=(DA p hw).pure (by simp only[List.forall_mem_cons,List.not_mem_nil,false_implies,implies_true,and_true];exact p.pure) (fun u K ⟨e,ln,h1,_,_⟩=>by rw[h1];exact zE e ln)
 exact⟨e,ln,hg,hp⟩
def sJ(p:aK):Prop:=∃ln:Int,aO Try.prog 12 [.agg p.enc] (.tup [.int .i64 0,.int .i64 ln])
def F0:Option (AV×ah)→Bool
 | some (.tup [.int .i64 0,.int .i64 _],_)=>true
 | _=>false
theorem B3{f:FuncId}{args:List AV}{n:Nat}(ha:∀a∈args,bB a)(hrun:F0 (jd Try.prog (eV Try.prog (fun _=>none) n) f args ah.empty)=true):∃ln:Int,aO Try.prog f args (.tup [.int .i64 0,.int .i64 ln]):=by
 have hd:=(Fw uQ).2
 have hs:=pN (P:=Try.prog) hd (fun c τ H e τ' H' dr hx=>Ab Jl hd n c τ H e τ' H' dr hx)
 cases hc:jd Try.prog (eV Try.prog (fun _=>none) n) f args ah.empty with
 | none=>rw[hc]at hrun;cases hrun
 | some r=>
  obtain⟨v,H'⟩:=r
  rw[hc]at hrun
  have hv:∃ln:Int,v=.tup [.int .i64 0,.int .i64 ln]:=by
   unfold F0 at hrun
   split at hrun
   ·rename_i heq;cases heq;exact⟨_,rfl⟩
   ·cases hrun
  obtain⟨ln,rfl⟩:=hv
  have hV:Cp Try.prog f args (.tup [.int .i64 0,.int .i64 ln]):=fun w σ vs hW hvs=>(hs.ok _ _ _ _ _ hc w σ vs hW hvs).mono fun e w' ⟨v',σ',he,k1,k2,k3,k4⟩=>⟨v',σ',H',he,k1,k3⟩
  exact⟨ln,hs.body _ _ _ _ _ hc,fun H hb hS=>⟨_,H,[],HI (zE 0 ln) (fun i a h=>ha a (List.mem_of_getElem? h)) hV H,.refl hb hS,rfl,rfl⟩⟩
end Go.Proofs.Ytljkdffikfkcgaa.Am
end
section
namespace Go.Proofs.Ytljkdffikfkcgaa.Am
def tg:aK:=⟨aP,[⟨[109,97,105,110],0,[[97],[98]],[aE [120] (cS 1)]⟩]⟩
set_option maxRecDepth 1000000 in
theorem B4:sJ tg:=B3 (n:=2000) (by simp only[List.forall_mem_cons,List.not_mem_nil,false_implies,implies_true,and_true];exact tg.pure) (by kernel_rfl)
end Go.Proofs.Ytljkdffikfkcgaa.Am
end
section
namespace Go.Proofs.Ytljkdffikfkcgaa.Am
set_option maxRecDepth 100000
set_option maxHeartbeats 4000000
set_option linter.unusedVariables false
@[irreducible] def JJ (n23:Kn) (v:List AV) (L:SH):Prop:=bJ n23 v L
theorem F1{n23:Kn}{v:List AV}{L:SH}(h:JJ n23 v L):bJ n23 v L:=by unfold JJ at h;exact h
theorem F2{n23:Kn}{v:List AV}{L:SH}(h:bJ n23 v L):JJ n23 v L:=by unfold JJ;exact h
theorem Br(r:Nat):(l8.getD r []).length≤4:=by
 rcases r with _ | _ | _ | _ | r
 all_goals simp[l8]
theorem Hd{n23:Kn}{bm bt b0 bp nmb bh lb a n:Nat}{t:List UInt8}{th le:Int}{se tx at_ lo:Bool}{o oT:Option Nat}{ar:List aL}{ts:List ai}{nm:aL}{m:Nat}(hn4:n≤4)(h1:1≤n)
  (hj:∀(oB:Option Nat) (ps:List (List AV×aa)),(oB=none→ps=[])→ps.length≤4→ew ps→aa.wts (ps.map Prod.snd)≤100→JJ n23 [.ptr b0 0 0,.ptr bm 0 0,.ptr bp 0 0,.int .i64 n,.sl nmb 0 4,.int .i64 ((0:Nat):Int),.ptr bh 0 0] ((bh,⟨4,[[.str nm,.int .i64 0,.sl lb 0 2,au oB ps.length]]⟩)::(lb,⟨1,[[.str [97]],[.str [98]]]⟩)::(bm,cL bt th le se tx at_ lo o 0)::(bt,aM t a)::(b0,⟨2,[[.nils,.nils]]⟩)::(bp,⟨2,[[.lst (aP.map av.enc),au oT m]]⟩)::(nmb,⟨1,l8.map az⟩)::(ao oB 11 (ps.map Prod.fst)++(ao oT 4 (ts.map ai.enc)++ao o 1 (ar.map az))))) :
  W.loop (fE (bJ n23)) [.ptr b0 0 0,.ptr bm 0 0,.ptr bp 0 0,.int .i64 n,.sl nmb 0 4,.int .i64 ((0:Nat):Int),.ptr bh 0 0,.int .i64 1] ((bh,⟨4,[[.str nm,.int .i64 0,.sl lb 0 2,.nils]]⟩)::(lb,⟨1,[[.str [97]],[.str [98]]]⟩)::(bm,cL bt th le se tx at_ lo o 0)::(bt,aM t a)::(b0,⟨2,[[.nils,.nils]]⟩)::(bp,⟨2,[[.lst (aP.map av.enc),au oT m]]⟩)::(nmb,⟨1,l8.map az⟩)::(ao oT 4 (ts.map ai.enc)++ao o 1 (ar.map az))):=by
 refine cH (β:=Option Nat×List (List AV×aa)) (n-1) (fun j ⟨oB,ps⟩=>([.ptr b0 0 0,.ptr bm 0 0,.ptr bp 0 0,.int .i64 n,.sl nmb 0 4,.int .i64 ((0:Nat):Int),.ptr bh 0 0,.int .i64 ((j+1:Nat):Int)],(bh,⟨4,[[.str nm,.int .i64 0,.sl lb 0 2,au oB j]]⟩)::(lb,⟨1,[[.str [97]],[.str [98]]]⟩)::(bm,cL bt th le se tx at_ lo o 0)::(bt,aM t a)::(b0,⟨2,[[.nils,.nils]]⟩)::(bp,⟨2,[[.lst (aP.map av.enc),au oT m]]⟩)::(nmb,⟨1,l8.map az⟩)::(ao oB 11 (ps.map Prod.fst)++(ao oT 4 (ts.map ai.enc)++ao o 1 (ar.map az)))))
  (fun j ⟨oB,ps⟩=>(oB=none→ps=[])∧ps.length=j∧ew ps∧aa.wts (ps.map Prod.snd)≤10*j) (none,[]) ⟨fun _=>rfl,rfl,ew.mk nofun nofun,Nat.zero_le _⟩ ?_ ?_
 ·refine aV.row (R:=_) (K:=[]) (rows:=[[.str nm,.int .i64 0,.sl lb 0 2,.nils]]) (rows':=[[.str nm,.int .i64 0,.sl lb 0 2,au none 0]]) (.refl _) (by rfl) (fun j r r' q1 q2=>?_)
  match j with
   | 0=>cases q1;cases q2;exact .cons (.refl _) (.cons (.refl _) (.cons (.refl _) (.cons .nile .nil)))
   | j+1=>simp at q1
 rintro j ⟨oB,ps⟩ hjn ⟨hoB,hl,hg,hw⟩
 dsimp only at hoB hl hg hw ⊢
 unfold fE
 generalize hnx:(fun(vs':List AV) (L':SH)=>_)=nx
 subst hl
 rcases Nat.lt_or_ge (ps.length+1) n with g | g
 ·have hd1:=ct g
  have hi1:=bH g (by omega)
  unfold cL iY
  repeat' (first | refine st ?_ | refine dv (l:=l8) ?_ mm rfl (by simp[l8];omega) | refine cR ?_ (by omega) | refine cI rp rp (by simp) (fun e=>by first | simp[hoB e]) (by rfl) (by simp) (by simp;omega) (by simp;omega) (by rfl) (fun nb_ hnb_=>?_) | refine sb (fun nb_ hnb_=>?_) | refine s2 (fun h=>?_) (fun h=>?_) | fail)
  subst hnx
  have hnl:=Br (ps.length+1)
  generalize l8.getD (ps.length+1) []=w at hnl ⊢
  refine⟨ps.length+1,(some nb_,ps++[(wR 12 w,gR 12 w)]),by omega,by omega,⟨nofun,by simp,hg.raw 12 w,?_⟩,aV.pickE (R:=(bh,_)::(lb,_)::(bm,_)::(bt,_)::(b0,_)::(bp,_)::(nmb,_)::(nb_,⟨11,ps.map Prod.fst++[wR 12 w]⟩)::(ao oT 4 (ts.map ai.enc)++ao o 1 (ar.map az))) (.one (.there _ (.there _ (.here _))) (.one (.there _ (.there _ (.here _))) (.one (.there _ (.there _ (.here _))) (.one (.there _ (.there _ (.here _))) (.one (.there _ (.there _ (.here _))) (.one (.there _ (.there _ (.here _))) (.one (.there _ (.there _ (.here _))) (.one (.here _) (.slot (.there _ (.here _)) (.slotl (.there _ .last))))))))))) rfl ?_⟩
  ·rw[List.map_append,fW]
   simp only[List.map_cons,List.map_nil,gR,aW,aa.wt,aa.wts,ac.wt,ac.wts,List.length_nil]
   omega
  ·dsimp only
   rw[List.map_append];rfl
 ·have hd1:=ee g
  clear hnx
  unfold cL iY at *
  repeat' (first | (with_reducible refine F1 ?_) | refine st ?_ | refine sb (fun nb_ hnb_=>?_) | refine s2 (fun h=>?_) (fun h=>?_) | fail)
  exact hj oB ps hoB (by omega) hg (by omega)
theorem i0{b c:Nat}{L:SH}{y:Blk}(h:¬b∈SH.names L)(hm:(c,y)∈L):b≠c:=fun e=>h (by subst e;exact List.mem_map.2 ⟨_,hm,rfl⟩)
theorem zF{o:Option Nat}{b n:Nat}{rows:List (List AV)}(h:o=some b):(b,(⟨n,rows⟩:Blk))∈ao o n rows:=by subst h;exact .head _
theorem B5{Q:R}{n23:Kn}{bm bt b0 bp nmb a n i:Nat}{t:List UInt8}{th le:Int}{se tx at_ lo:Bool}{o oT:Option Nat}{ar:List aL}{ts:List ai}
  (ht:t.length<2^40) (ha:a≤t.length) (ho:o=none→ar=[]) (hoT:oT=none→ts=[]) (hts:ts.length=i) (hi:i<n) (hn4:n≤4)
  (hn:∀(x:ai) (a':Nat) (th' le':Int) (se' tx' at' lo':Bool) (o':Option Nat) (ar':List aL) (nbT:Nat) (L':SH),ai.wt x≤40000→a'≤t.length→(o'=none→ar'=[])→aV [.ptr b0 0 0,.ptr bm 0 0,.ptr bp 0 0,.int .i64 n,.sl nmb 0 4,.int .i64 (IntKind.i64.wrap ((i:Int)+1))] L' [.ptr b0 0 0,.ptr bm 0 0,.ptr bp 0 0,.int .i64 n,.sl nmb 0 4,.int .i64 (IntKind.i64.wrap ((i:Int)+1))] (PH bm bt b0 bp nmb t a' th' le' se' tx' at' lo' o' ar' (some nbT) (ts.length+1) (ts++[x]))→aV [.ptr b0 0 0,.ptr bm 0 0,.ptr bp 0 0,.int .i64 n,.sl nmb 0 4,.int .i64 (IntKind.i64.wrap ((i:Int)+1))] L' [.ptr b0 0 0,.ptr bm 0 0,.ptr bp 0 0,.int .i64 n,.sl nmb 0 4,.int .i64 (IntKind.i64.wrap ((i:Int)+1))] (PZ b0 bp (ts++[x]))→n23 [.ptr b0 0 0,.ptr bm 0 0,.ptr bp 0 0,.int .i64 n,.sl nmb 0 4,.int .i64 (IntKind.i64.wrap ((i:Int)+1))] L') :
  dW Q [.ptr b0 0 0,.ptr bm 0 0,.ptr bp 0 0,.int .i64 n,.sl nmb 0 4,.int .i64 (i:Int)] (PH bm bt b0 bp nmb t a th le se tx at_ lo o ar oT ts.length ts) n23:=by
 have hd1:=ct hi
 unfold dW PH cL iY
 rcases i with _ | i
 ·repeat' (first | refine st ?_ | refine dv (l:=l8) ?_ mm rfl (by simp[l8]) | refine cR ?_ (by omega) | refine sb (fun nb_ hnb_=>?_) | refine s2 (fun h=>?_) (fun h=>?_) | fail)
  have f1:nb_≠bm:=i0 hnb_ (.tail _ (.head _))
  have f2:nb_≠bt:=i0 hnb_ (.tail _ (.tail _ (.head _)))
  have f3:∀b,o=some b→nb_≠b:=fun b e=>i0 hnb_ (.tail _ (.tail _ (.tail _ (.tail _ (.tail _ (.tail _ (List.mem_append_right _ (zF e))))))))
  exact Hd hn4 (by omega) fun oB ps hoB hps hg hw=>F2 (Ha ht ha ho hoT hoB (by omega) hps f1 f2 f3 hg (by decide) hw hn)
 ·have hz:decide (((i+1:Nat):Int)=0)=false:=by simp;omega
  repeat' (first | (with_reducible refine F1 ?_) | refine st ?_ | refine dv (l:=l8) ?_ mm rfl (by simp[l8];omega) | refine cR ?_ (by omega) | refine sb (fun nb_ hnb_=>?_) | refine s2 (fun h=>?_) (fun h=>?_) | fail)
  have f1:nb_≠bm:=i0 hnb_ (.tail _ (.head _))
  have f2:nb_≠bt:=i0 hnb_ (.tail _ (.tail _ (.head _)))
  have f3:∀b,o=some b→nb_≠b:=fun b e=>i0 hnb_ (.tail _ (.tail _ (.tail _ (.tail _ (.tail _ (.tail _ (List.mem_append_right _ (zF e))))))))
  exact F2 (Hb ht ha ho hoT (by omega) f1 f2 f3 (Br (i+1)) hz hn)
theorem Jm{r:Nat}(h:r<100):IntKind.i64.wrap (2+(r:Int))=((2+r:Nat):Int):=by rw[IntWalk.i64_in _ (by omega)];omega
inductive B6 (K:SH):SH→SH→Prop where
 | nil:B6 K [] []
 | same (p:Nat×Blk) {R R2:SH}:B6 K R R2→B6 K (p::R) (p::R2)
 | box {b n:Nat} {r r':List AV} {R R2:SH}:pV K r r'→B6 K R R2→B6 K ((b,⟨n,[r]⟩)::R) ((b,⟨n,[r']⟩)::R2)
theorem aV.blks{vs vs2:List AV}{L K R R2:SH}(hL:L.Perm (K++R))(h:B6 K R R2)(hv:vs=vs2):aV vs L vs2 R2:=by
 subst hv
 refine⟨K,R,hL,⟨rfl,fun i a a2 h1 h2=>by rw[h1]at h2;cases h2;exact .refl _⟩,?_,?_⟩
 ·clear hL
  induction h with
  | nil=>rfl
  | same p h ih=>simp[ih]
  | box h1 h ih=>simp[ih]
 ·clear hL
  induction h with
  | nil=>intro i p q h1;simp at h1
  | same p h ih=>
   intro i x y h1 h2
   match i with
   | 0=>cases h1;cases h2;exact⟨rfl,rfl,rfl,fun j r r2 h3 h4=>by rw[h3]at h4;cases h4;exact⟨rfl,fun k a a2 h5 h6=>by rw[h5]at h6;cases h6;exact .refl _⟩⟩
   | i+1=>exact ih i x y (by simpa using h1) (by simpa using h2)
  | box hr h ih=>
   intro i x y h1 h2
   match i with
   | 0=>cases h1;cases h2;exact⟨rfl,rfl,rfl,fun j r r2 h3 h4=>(co hr j r r2 h3 h4).at_⟩
   | i+1=>exact ih i x y (by simpa using h1) (by simpa using h2)
theorem B7{L R K:SH}(h:xN L R K)(hK:K=[]:=by rfl):L.Perm ([]++R):=by subst hK;exact h.perm
theorem Aw:qZ aP:=by
 intro i h
 have h9:i<9:=h
 rcases i with _ | _ | _ | _ | _ | _ | _ | _ | _ | i
 ·exact(⟨by decide,by decide,by decide,by decide,by decide,by decide,fun e=>absurd e (by decide)⟩:fC aP 0 (by decide))
 ·exact(⟨by decide,by decide,by decide,by decide,by decide,by decide,fun e=>absurd e (by decide)⟩:fC aP 1 (by decide))
 ·exact(⟨by decide,by decide,by decide,by decide,by decide,by decide,fun e=>absurd e (by decide)⟩:fC aP 2 (by decide))
 ·exact(⟨by decide,by decide,by decide,by decide,by decide,by decide,fun e=>absurd e (by decide)⟩:fC aP 3 (by decide))
 ·exact(⟨by decide,by decide,by decide,by decide,by decide,by decide,fun e=>absurd e (by decide)⟩:fC aP 4 (by decide))
 ·exact(⟨by decide,by decide,by decide,by decide,by decide,by decide,fun e=>absurd e (by decide)⟩:fC aP 5 (by decide))
 ·exact(⟨by decide,by decide,by decide,by decide,by decide,by decide,fun e=>absurd e (by decide)⟩:fC aP 6 (by decide))
 ·exact(⟨by decide,by decide,by decide,by decide,by decide,by decide,fun e=>⟨_,rfl,rfl⟩⟩:fC aP 7 (by decide))
 ·exact(⟨by decide,by decide,by decide,by decide,by decide,by decide,fun e=>absurd e (by decide)⟩:fC aP 8 (by decide))
 ·exfalso;omega
theorem E5:fD tg:=by
 refine⟨by decide,Aw,by decide,⟨?_,?_⟩,by decide,?_⟩
 ·intro i h
  have h1:i<1:=h
  rcases i with _ | i
  ·exact(⟨by decide,by decide⟩:kJ tg 0 (by decide))
  ·exfalso;omega
 ·intro i h
  have h1:i<1:=h
  rcases i with _ | i
  ·have key:q6 tg ⟨[109,97,105,110],0,[[97],[98]],[aE [120] (cS 1)]⟩:=by
    refine⟨by decide,by decide,by decide,?_⟩
    intro j hj
    have h2:j<2:=hj
    rcases j with _ | _ | j
    ·show fJ [] [97]<0
     decide
    ·show fJ [[97]] [98]<0
     decide
    ·exfalso;omega
   exact key
  ·exfalso;omega
 ·intro i h
  have h1:i<1:=h
  rcases i with _ | i
  ·show StsOk tg [[97],[98]] [aE [120] (cS 1)]
   refine(iW _).2 fun x hx=>?_
   rw[List.mem_singleton.1 hx,Bm]
   refine⟨?_,?_,?_⟩
   ·show dt (aD tg [[97],[98]] [120]) 8 1=0∧gv tg [[97],[98]] (cS 1)=0
    decide
   ·exact(iW _).2 nofun
   ·exact(iW _).2 nofun
  ·exfalso;omega
theorem E6(t:List UInt8)(ht:t.length<2^40):am Try.prog 9 [.lst (t.map mM)] [] fun v K=>∃p:aK,v=.agg p.enc∧K=[]∧p.wt≤200000∧fD p∧p.decls=aP∧sJ p:=by
 refine am.fz (t6 _ _ _ ?_)
 unfold kK
 generalize hQ:(fun(v:AV) (L:SH)=>∃v2 L2,aV [v] L [v2] L2∧∃p:aK,v2=.agg p.enc∧L2=[]∧p.wt≤200000∧fD p∧p.decls=aP∧sJ p)=Q
 have hq:∀(p:aK) (v:AV) (L:SH),Fz L v (.agg p.enc)→p.wt≤200000→fD p→p.decls=aP→sJ p→Q v L:=fun p v L h1 h2 h3 h4 h5=>by
  subst hQ;exact⟨_,_,aV.all h1,p,rfl,rfl,h2,h3,h4,h5⟩
 clear hQ
 repeat' (first | refine dm (b9 (c:=((2+_:Nat):Int)) ?_ (Jm (by omega))) | refine st ?_ | ((with_reducible refine aq 17 ?_);refine aj (fV) ?_) | ((with_reducible refine al 17 ?_);refine ab (fV) ?_) | ((with_reducible refine aq 18 ?_);(refine eg (t:=t) (a:=0) ht (Nat.zero_le _) rp (fun r_ a_ hr_ ha_=>?_))) | refine sb (fun nb_ hnb_=>?_) | refine s2 (fun h=>?_) (fun h=>?_) | fail)
 rename_i b0 hb0 bt hbt bm hbm bp hbp
 refine cH (β:=Nat×Int×Int×Bool×Bool×Bool×Bool×Option Nat×List aL×Option Nat×List ai) (2+r_) (fun i ⟨a,th,le,se,tx,at_,lo,o,ar,oT,ts⟩=>([.ptr b0 0 0,.ptr bm 0 0,.ptr bp 0 0,.int .i64 ((2+r_:Nat):Int),.sl nb_ 0 4,.int .i64 (i:Int)],if i=2+r_ then PZ b0 bp ts else PH bm bt b0 bp nb_ t a th le se tx at_ lo o ar oT ts.length ts))
  (fun i ⟨a,th,le,se,tx,at_,lo,o,ar,oT,ts⟩=>a≤t.length∧(o=none→ar=[])∧(oT=none→ts=[])∧ts.length=i∧∀x∈ts,ai.wt x≤40000) (a_,0,20,false,false,false,false,none,[],none,[]) ⟨ha_,fun _=>rfl,fun _=>rfl,rfl,nofun⟩ ?_ ?_
 ·show aV _ _ _ (if 0=2+r_ then PZ b0 bp []else _)
  rw[if_neg (by omega)]
  exact aV.blks (K:=[]) (R:=(bm,⟨8,[[.ptr bt 0 0,.int .i64 0,.int .i64 20,.bool false,.bool false,.bool false,.bool false,.nils]]⟩)::(bt,aM t a_)::(b0,⟨2,[[.nils,.nils]]⟩)::(bp,⟨2,[[.lst (aP.map av.enc),.nils]]⟩)::(nb_,⟨1,l8.map az⟩)::[]) (B7 (.one (.there _ (.there _ (.there _ (.here _)))) (.one (.there _ (.here _)) (.one (.there _ (.there _ (.here _))) (.one (.there _ (.here _)) (.one (.here _) (.nil _))))))) (.box (.cons (.refl _) (.cons (.refl _) (.cons (.refl _) (.cons (.refl _) (.cons (.refl _) (.cons (.refl _) (.cons (.refl _) (.cons .nile .nil)))))))) (.same _ (.same _ (.box (.cons (.refl _) (.cons .nile .nil)) (.same _ .nil))))) rfl
 ·rintro i ⟨a,th,le,se,tx,at_,lo,o,ar,oT,ts⟩ hi ⟨ha,ho,hoT,hts,hw⟩
  dsimp only at ha ho hoT hts hw ⊢
  rcases Nat.lt_or_eq_of_le hi with g | g
  ·rw[if_neg (by omega)]
   refine B5 ht ha ho hoT hts g (by omega) ?_
   intro x a' th' le' se' tx' at' lo' o' ar' nbT L' q1 q2 q3 q4 q5
   have e:IntKind.i64.wrap ((i:Int)+1)=((i+1:Nat):Int):=bH g (by omega)
   rw[e]at q4 q5 ⊢
   refine⟨i+1,(a',th',le',se',tx',at',lo',o',ar',some nbT,ts++[x]),by omega,by omega,⟨q2,q3,nofun,by simp[hts],?_⟩,?_⟩
   ·intro y hy
    rcases List.mem_append.1 hy with hy | hy
    ·exact hw y hy
    ·rw[List.mem_singleton.1 hy];exact q1
   ·dsimp only
    by_cases z:i+1=2+r_
    ·rw[if_pos z];exact q5
    ·rw[if_neg z,List.length_append];exact q4
  ·rw[if_pos g]
   subst g
   have hd1:decide (((2+r_:Nat):Int)<((2+r_:Nat):Int))=false:=by simp
   have hpw:aK.wt ⟨aP,ts⟩≤200000:=by
    have h1:(ts.map ai.wt).sum≤ts.length*40000:=by
     clear hts hi hoT
     induction ts with
     | nil=>simp
     | cons y l ih=>
      have:=hw y (.head _)
      have:=ih fun z hz=>hw z (.tail _ hz)
      simp only[List.map_cons,List.sum_cons,List.length_cons];omega
    have h2:(aP.map av.wt).sum=19:=by decide
    show(aP.map av.wt).sum+(ts.map ai.wt).sum≤200000
    rw[h2]
    omega
   obtain⟨e1,ln1,hg1,hc1⟩:=DN ⟨aP,ts⟩ (by omega)
   unfold dW PZ
   repeat' (first | refine st ?_ | ((with_reducible refine aq 12 ?_);refine aj (hc1) ?_) | ((with_reducible refine al 12 ?_);refine ab (hc1) ?_) | ((with_reducible refine aq 17 ?_);refine aj (fV) ?_) | ((with_reducible refine al 17 ?_);refine ab (fV) ?_) | ((with_reducible refine aq 21 ?_);refine aj (kL _) ?_) | ((with_reducible refine al 21 ?_);refine ab (kL _) ?_) | ((with_reducible refine aq 20 ?_);refine aj (aN _ _) ?_) | ((with_reducible refine al 20 ?_);refine ab (aN _ _) ?_) | refine sb (fun nb_ hnb_=>?_) | refine s2 (fun h=>?_) (fun h=>?_) | fail)
   ·exact hq ⟨aP,[⟨[109,97,105,110],0,[[97],[98]],[aE [120] (cS 1)]⟩]⟩ _ _ (Fz.aggs (.cons (.refl _) (.cons (dD (ts:=[]) (b:=nb_) mm (by rfl) (by rfl) (.cons (.refl _) (.cons (.refl _) (.cons (Fz.sls (l:=[[97],[98]]) (f:=az) (size:=1) mm (by rfl) (by decide) (by rfl)) (.cons (Fz.sls (l:=[aE [120] (cS 1)]) (f:=aa.enc) (size:=11) mm (by simp[aa.enc_row]) (by decide) (by rfl)) .nil))))) .nil))) (by decide) E5 rfl B4
   ·exact hq ⟨aP,ts⟩ _ _ (.refl _) hpw (hg1 (by simpa using h)) rfl ⟨ln1,(by have h0:e1=0:=(by simpa using h);rw[h0]at hc1;exact hc1)⟩
end Go.Proofs.Ytljkdffikfkcgaa.Am
end
