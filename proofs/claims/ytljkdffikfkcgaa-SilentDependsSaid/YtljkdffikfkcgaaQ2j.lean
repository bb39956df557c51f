/- A part of the proof; the statement is proved in the last part. -/
import Derived.Test.YtljkdffikfkcgaaQ2i
set_option linter.unusedSimpArgs false
set_option linter.unusedVariables false
section
namespace Go.Proofs.Ytljkdffikfkcgaa.Am
set_option maxRecDepth 100000
set_option linter.unusedVariables false
section
variable {bm bt:Nat} {t:List UInt8} {a d n:Nat} {th le:Int} {se tx at_ lo:Bool} {o:Option Nat} {ar:List aL} {k:Nat} {L L1 L2 L3:SH}
theorem DH(bm bt:Nat)(th le:Int)(se tx at_ lo:Bool)(o:Option Nat)(ar:List aL)(k:Nat)(s:aL)(h0:o=none→ar=[])(hk:k≤ar.length)(h9:k≤900):
  am Try.prog 55 [.ptr bm 0 0,.str s] ((bm,cL bt th le se tx at_ lo o k)::ao o 1 (ar.map az)) fun u K=>∃r:Bool,u=.bool r∧K=(bm,cL bt th le se tx at_ lo o k)::ao o 1 (ar.map az):=by
 have ha:=am.within (L:=(bm,cL bt th le se tx at_ lo o k)::ao o 1 (ar.map az)) (R:=[]) (GZ o ar k _ s h0 hk (by omega)) ((cW.there _ .last:cW o 1 (ar.map az) ((bm,cL bt th le se tx at_ lo o k)::ao o 1 (ar.map az)) _).perm.trans (.of_eq (List.append_nil _).symm))
 refine ls _ _ _ _ ?_
 unfold gx
 unfold cL iY at ha ⊢
 repeat' (first | refine st ?_ | ((with_reducible refine aq 45 ?_);(refine cf ha ?_;rintro _ _ ⟨r_,rfl,rfl⟩)) | refine sb (fun nb_ hnb_=>?_) | refine s2 (fun h=>?_) (fun h=>?_) | fail)
 exact⟨_,rfl,rfl⟩
theorem sI{s:aL}{KL:R}(h1:dG bm (cL bt th le se tx at_ lo o k) L L1)(h2:cW o 1 (ar.map az) L1 L2)(h0:o=none→ar=[])(hk:k≤ar.length)(h9:k≤900)(hq:∀r:Bool,KL (.bool r) L):W.callM Try.prog 55 [.ptr bm 0 0,.str s] L KL:=by
 refine A7 ((am.within (R:=L2) (DH bm bt th le se tx at_ lo o ar k s h0 hk h9) ?_).mono ?_)
 ·exact h1.perm.trans (h2.perm.cons _)
 ·rintro _ _ ⟨r,rfl,rfl⟩;exact hq r
theorem kZ{P:Program}{g:FuncId}{args:List AV}{K M L:SH}{R1:AV→SH→Prop}{KL:R}(h:am P g args K R1)(hL:L.Perm (K++M))(hq:∀v K',R1 v K'→∃L'',(K'++M).Perm L''∧KL v L''):W.callM P g args L KL:=⟨am.permR (h.frame hL hq)⟩
theorem Bq{f:FuncId}{args:List AV}{good:AV→Prop}{KL:R}(h:HD f args d good)(h1:dG bm (cL bt th le se tx at_ lo o k) L L1)(h2:dG bt (aM t a) L1 L2)(h3:cW o 1 (ar.map az) L2 L3)(ht:t.length<2^40)(ha:a≤t.length)(ho:o=none→ar=[])(hk:k≤ar.length)(hd:k+d≤900)
  (hq:∀(v:AV) (a':Nat) (th' le':Int) (se' tx' at' lo':Bool) (o':Option Nat) (ar':List aL),good v→a'≤t.length→(o'=none→ar'=[])→k≤ar'.length→KL v ((bm,cL bt th' le' se' tx' at' lo' o' k)::(bt,aM t a')::(L3++ao o' 1 (ar'.map az)))):W.callM Try.prog f (.ptr bm 0 0::args) L KL:=by
 refine kZ (h bm bt t a th le se tx at_ lo o ar k ht ha ho hk hd) (iZ h1 h2 h3) ?_
 rintro _ _ ⟨v,a',th',le',se',tx',at',lo',o',ar',rfl,q1,q2,q3,q4,rfl⟩
 exact⟨_,.cons _ (.cons _ List.perm_append_comm),hq _ a' th' le' se' tx' at' lo' o' ar' q1 q2 q3 q4⟩
theorem E4{nn:Int}{dd:Int}{KL:R}(h:cM d)(hdd:dd=(d:Int))(hnn:nn=(n:Int))(hn:n≤10)(h1:dG bm (cL bt th le se tx at_ lo o k) L L1)(h2:dG bt (aM t a) L1 L2)(h3:cW o 1 (ar.map az) L2 L3)(ht:t.length<2^40)(ha:a≤t.length)(ho:o=none→ar=[])(hk:k≤ar.length)(hd:k+d≤900)
  (hq:∀(a':Nat) (th' le':Int) (se' tx' at' lo':Bool) (o':Option Nat) (ar':List aL) (l:List aa) (ol:Option Nat),(ol=none→l=[])→aa.wts l≤n*bL d→a'≤t.length→(o'=none→ar'=[])→k≤ar'.length→KL (au ol l.length) ((bm,cL bt th' le' se' tx' at' lo' o' k)::(bt,aM t a')::(L3++(ao ol 11 (l.map aa.enc)++ao o' 1 (ar'.map az))))):W.callM Try.prog 19 [.ptr bm 0 0,.int .i64 dd,.int .i64 nn] L KL:=by
 subst hdd hnn
 refine kZ (h n hn bm bt t a th le se tx at_ lo o ar k ht ha ho hk hd) (iZ h1 h2 h3) ?_
 rintro _ _ ⟨a',th',le',se',tx',at',lo',o',ar',l,ol,rfl,q1,q2,q3,q4,q5,rfl⟩
 exact⟨_,.cons _ (.cons _ ((List.perm_append_comm.append_right _).trans List.perm_append_comm)),hq a' th' le' se' tx' at' lo' o' ar' l ol q1 q2 q3 q4 q5⟩
theorem yb{nn:Int}{dd:Int}{KL:R}(h:cM d)(hdd:dd=(d:Int))(hnn:nn=(n:Int))(hn:n≤10)(h1:dG bm (cL bt th le se tx at_ lo o k) L L1)(h2:dG bt (aM t a) L1 L2)(h3:cW o 1 (ar.map az) L2 L3)(ht:t.length<2^40)(ha:a≤t.length)(ho:o=none→ar=[])(hk:k≤ar.length)(hd:k+d≤900)
  (hq:∀(a':Nat) (th' le':Int) (se' tx' at' lo':Bool) (o':Option Nat) (ar':List aL) (l:List aa),aa.wts l≤n*bL d→a'≤t.length→(o'=none→ar'=[])→k≤ar'.length→KL (.lst (l.map aa.enc)) ((bm,cL bt th' le' se' tx' at' lo' o' k)::(bt,aM t a')::(L3++ao o' 1 (ar'.map az)))):W.callM Try.prog 19 [.ptr bm 0 0,.int .i64 dd,.int .i64 nn] L KL:=by
 subst hdd hnn
 refine Bq (ya d h n hn) h1 h2 h3 ht ha ho hk hd ?_
 rintro _ a' th' le' se' tx' at' lo' o' ar' ⟨l,rfl,q1⟩ q2 q3 q4
 exact hq a' th' le' se' tx' at' lo' o' ar' l q1 q2 q3 q4
theorem ul{s:aL}{dd:Int}{KL:R}(h:cM d)(hdd:dd=(d:Int))(h1:dG bm (cL bt th le se tx at_ lo o k) L L1)(h2:dG bt (aM t a) L1 L2)(h3:cW o 1 (ar.map az) L2 L3)(ht:t.length<2^40)(ha:a≤t.length)(ho:o=none→ar=[])(hk:k≤ar.length)(hd:k+(d+1)≤900)
  (hq:∀(a':Nat) (th' le':Int) (se' tx' at' lo':Bool) (o':Option Nat) (ar':List aL) (l:List aa),aa.wts l≤2*bL d→a'≤t.length→(o'=none→ar'=[])→k≤ar'.length→KL (.lst (l.map aa.enc)) ((bm,cL bt th' le' se' tx' at' lo' o' k)::(bt,aM t a')::(L3++ao o' 1 (ar'.map az)))):W.callM Try.prog 56 [.ptr bm 0 0,.str s,.int .i64 dd] L KL:=by
 subst hdd
 refine Bq (E3 d (ya d h) s) h1 h2 h3 ht ha ho hk hd ?_
 rintro _ a' th' le' se' tx' at' lo' o' ar' ⟨l,rfl,q1⟩ q2 q3 q4
 exact hq a' th' le' se' tx' at' lo' o' ar' l q1 q2 q3 q4
end
theorem zB{l:List aL}(h:∀x∈l,x.length≤1)(r:Nat):(l.getD r []).length≤1:=by
 rw[List.getD]
 cases hx:l[r]? with
 | none=>simp
 | some x=>exact h x (List.mem_of_getElem? hx)
def dB(Q:R)(L:SH)(t0 t1:AV)(r:Int)(x0 x54:AV):Prop:=
 wk (.bool (decide (r<4))) (gB Q L t0 (.int .i64 r) x0) (wb .eql 3 (.int .i64 r) (.int .i64 4) fun x74=>wk x74 (gC Q L t0 x0) (fO Q L t0 t1 (.int .i64 r) x0 x54))
def dC:List AV:=[.int .i64 0,.int .i64 0,.str [],.str [],.nils,.int .i64 0,.int .i64 0,.str [],.nils,.nils,.nils]
def QS(Q:R)(bm bt k:Nat)(t:List UInt8)(w:Nat):Prop:=∀(x:aa) (v:AV) (a':Nat) (th' le':Int) (se' tx' at' lo':Bool) (o':Option Nat) (ar':List aL) (L L1 L2 L3:SH),dG bm (cL bt th' le' se' tx' at' lo' o' k) L L1→dG bt (aM t a') L1 L2→cW o' 1 (ar'.map az) L2 L3→Fz L3 v (.agg x.row)→x.wt≤w→a'≤t.length→(o'=none→ar'=[])→k≤ar'.length→Q v L
def wR(op:Int)(nm:aL):List AV:=[.int .i64 op,.int .i64 0,.str nm,.str [],.nils,.int .i64 0,.int .i64 0,.str [],.nils,.nils,.nils]
def gR(op:Int)(nm:aL):aa:=.mk op 0 nm [] [] aW [] []
theorem Au{K:SH}{op:Int}{nm:aL}(q:Nat)(a a2:AV)(h1:(wR op nm)[q]? =some a)(h2:(gR op nm).row[q]? =some a2):Fz K a a2:=by
 rcases q with _ | _ | _ | _ | _ | _ | _ | _ | _ | _ | _ | q
 all_goals first
  | (cases h1;cases h2;exact .refl _)
  | (cases h1;cases h2;exact .nils)
  | cases h1
theorem vN{K:SH}{b n:Nat}{rows:List (List AV)}(l:List (List AV×aa))(hm:(b,⟨11,rows⟩)∈K)(hr:rows=l.map Prod.fst)(hn:n=l.length)(hl:∀y∈l,y.1.length=11)
  (hc:∀y∈l,∀(q:Nat) (a a2:AV),y.1[q]? =some a→y.2.row[q]? =some a2→Fz K a a2):Fz K (.sl b 0 n) (.lst ((l.map Prod.snd).map aa.enc)):=by
 rw[List.map_map]
 exact Fz.slm (f:=Prod.fst) (g:=aa.enc∘Prod.snd) hm hr (by decide) hn (fun y hy=>by rw[hl y hy,Function.comp,aa.enc_row];rfl) fun y hy q a a2 h1 h2=>hc y hy q a a2 h1 (by rw[Function.comp,aa.enc_row]at h2;exact h2)
theorem FX{Q:R}{bm bt nb k r a w d:Nat}{t:List UInt8}{th le:Int}{se tx at_ lo:Bool}{o:Option Nat}{ar:List aL}{ns:Bool}(hq:QS Q bm bt k t w)(ht:t.length<2^40)(ha:a≤t.length)(ho:o=none→ar=[])(hk:k≤ar.length)(hr:r<4)(hw:100≤w){t1:AV}:dB Q ((bt,aM t a)::(nb,⟨11,[dC]⟩)::(bm,cL bt th le se tx at_ lo o k)::ao o 1 (ar.map az)) (.ptr bm 0 0) t1 (r:Int) (.ptr nb 0 0) (.bool ns):=by
 have hE0:=bI 0 (by decide)
 have hE1:=bI 1 (by decide)
 have d4:decide ((r:Int)<4)=true:=by simp;omega
 have hn:=zB (l:=[[120],[121],[120],[118]]) (by decide) r
 unfold dB cL iY QS dC at *
 repeat' (first | refine st ?_ | ((with_reducible refine aq 18 ?_);(refine eg ht (by assumption) rp (fun r_ a_ hr_ ha_=>?_))) | ((with_reducible refine aq 20 ?_);refine aj (aN _ _) ?_) | ((with_reducible refine al 20 ?_);refine ab (aN _ _) ?_) | refine dv (l:=[[120],[121],[120],[118]]) ?_ mm rfl (by simp;omega) | refine cR ?_ (by omega) | ((with_reducible refine al 52 ?_);refine xY hE1 (by rfl) ht (by assumption) rp rp (fun x_ a_ hx_ ha_=>?_)) | refine sb (fun nb_ hnb_=>?_) | refine s2 (fun h=>?_) (fun h=>?_) | fail)
 exact hq (aE _ _) _ _ _ _ _ _ _ _ _ _ _ _ _ _ rp rp rp (.refl _) (by simp only[aa.wt,aa.wts,ac.wt,ac.wts,aE,bP,cS,dS,aW,List.length_cons,List.length_nil];omega) (by assumption) (by assumption) (by assumption)
theorem FY{Q:R}{bm bt nb k r a w d:Nat}{t:List UInt8}{th le:Int}{se tx at_ lo:Bool}{o:Option Nat}{ar:List aL}{ns:Bool}(hq:QS Q bm bt k t w)(ht:t.length<2^40)(ha:a≤t.length)(ho:o=none→ar=[])(hk:k≤ar.length)(hw:100≤w){t1:AV}:dB Q ((bt,aM t a)::(nb,⟨11,[dC]⟩)::(bm,cL bt th le se tx at_ lo o k)::ao o 1 (ar.map az)) (.ptr bm 0 0) t1 4 (.ptr nb 0 0) (.bool ns):=by
 have hE0:=bI 0 (by decide)
 have hE1:=bI 1 (by decide)
 unfold dB cL iY QS dC at *
 repeat' (first | refine st ?_ | ((with_reducible refine aq 18 ?_);(refine eg ht (by assumption) rp (fun r_ a_ hr_ ha_=>?_))) | ((with_reducible refine aq 20 ?_);refine aj (aN _ _) ?_) | ((with_reducible refine al 20 ?_);refine ab (aN _ _) ?_) | ((with_reducible refine al 18 ?_);refine uk ht (by assumption) rp (fun r_ a_ hr_ ha_=>?_)) | refine dv (l:=[[97],[98]]) ?_ mm rfl (by simp;omega) | refine cR ?_ (by omega) | ((with_reducible refine al 52 ?_);refine xY hE1 (by rfl) ht (by assumption) rp rp (fun x_ a_ hx_ ha_=>?_)) | refine sb (fun nb_ hnb_=>?_) | refine s2 (fun h=>?_) (fun h=>?_) | fail)
 have hn:=zB (l:=[[97],[98]]) (by decide) r_
 exact hq (aE _ _) _ _ _ _ _ _ _ _ _ _ _ _ _ _ rp rp rp (.refl _) (by simp only[aa.wt,aa.wts,ac.wt,ac.wts,aE,bP,cS,dS,aW,List.length_cons,List.length_nil];omega) (by assumption) (by assumption) (by assumption)
theorem FZ{Q:R}{bm bt nb k r a w d:Nat}{t:List UInt8}{th le:Int}{se tx at_ lo:Bool}{o:Option Nat}{ar:List aL}{ns:Bool}(hq:QS Q bm bt k t w)(ht:t.length<2^40)(ha:a≤t.length)(ho:o=none→ar=[])(hk:k≤ar.length)(hw:100≤w){t1:AV}:dB Q ((bt,aM t a)::(nb,⟨11,[dC]⟩)::(bm,cL bt th le se tx at_ lo o k)::ao o 1 (ar.map az)) (.ptr bm 0 0) t1 5 (.ptr nb 0 0) (.bool ns):=by
 have hE0:=bI 0 (by decide)
 have hE1:=bI 1 (by decide)
 unfold dB cL iY QS dC at *
 repeat' (first | refine st ?_ | ((with_reducible refine aq 52 ?_);(first | (refine bW hE1 (by rfl) ht (by assumption) rp rp (fun x_ a_ hx_ ha_=>?_)) | (refine bW hE0 (by rfl) ht (by assumption) rp rp (fun x_ a_ hx_ ha_=>?_)))) | refine sb (fun nb_ hnb_=>?_) | refine s2 (fun h=>?_) (fun h=>?_) | fail)
 rename_i x0 a0 hx0 ha0
 exact hq (.mk 1 0 [113] [] [x0] x_ [] []) _ _ _ _ _ _ _ _ _ _ _ _ _ _ rp rp rp (Fz.aggs (.cons (.refl _) (.cons (.refl _) (.cons (.refl _) (.cons (.refl _) (.cons (Fz.sls (l:=[x0]) (f:=ac.enc) (size:=4) mm (by simp[ac.enc_row]) (by decide) rfl) (.cons (.refl _) (.cons (.refl _) (.cons (.refl _) (.cons (.refl _) (.cons .nils (.cons .nils .nil)))))))))))) (by simp only[aa.wt,aa.wts,ac.wt,ac.wts,aE,bP,cS,dS,aW,List.length_cons,List.length_nil];omega) (by assumption) (by assumption) (by assumption)
theorem II{Q:R}{bm bt nb k r a w d:Nat}{t:List UInt8}{th le:Int}{se tx at_ lo:Bool}{o:Option Nat}{ar:List aL}{ns:Bool}(hq:QS Q bm bt k t w)(ht:t.length<2^40)(ha:a≤t.length)(ho:o=none→ar=[])(hk:k≤ar.length)(hU:cM d)(hd:k+(d+1)≤900)(hb1:100≤bL d)(hb2:bL d≤2^30)(hw:10*bL d≤w)(e1:IntKind.i64.wrap (((d+1:Nat):Int)-1)=(d:Int))(dp:decide ((0:Int)<((d+1:Nat):Int))=true):dB Q ((bt,aM t a)::(nb,⟨11,[dC]⟩)::(bm,cL bt th le se tx at_ lo o k)::ao o 1 (ar.map az)) (.ptr bm 0 0) (.int .i64 ((d+1:Nat):Int)) 6 (.ptr nb 0 0) (.bool ns):=by
 have hE0:=bI 0 (by decide)
 have hE1:=bI 1 (by decide)
 unfold dB cL iY QS dC at *
 repeat' (first | refine dm (ge ?_ e1) | refine st ?_ | ((with_reducible refine aq 52 ?_);(first | (refine bW hE1 (by rfl) ht (by assumption) rp rp (fun x_ a_ hx_ ha_=>?_)) | (refine bW hE0 (by rfl) ht (by assumption) rp rp (fun x_ a_ hx_ ha_=>?_)))) | ((with_reducible refine aq 19 ?_);(refine yb (n:=1) hU (by first | rfl | assumption) (by rfl) (by omega) rp rp rp ht (by assumption) (by assumption) (by assumption) (by omega) ?_;rintro a_ th_ le_ se_ tx_ at_ lo_ o_ ar_ l_ hl_ ha_ ho_ hk_;dsimp only[List.cons_append,List.nil_append])) | ((with_reducible refine aq 18 ?_);(refine eg ht (by assumption) rp (fun r_ a_ hr_ ha_=>?_))) | refine sb (fun nb_ hnb_=>?_) | refine s2 (fun h=>?_) (fun h=>?_) | fail)
 ·rename_i a0 th0 le0 se0 tx0 at0 lo0 o0 ar0 l0 h0 h1 h2 h3 a1 h4
  exact hq (.mk 2 0 [] [] [] x_ l0 l_) _ _ _ _ _ _ _ _ _ _ _ _ _ _ rp rp rp (Fz.aggs (.cons (.refl _) (.cons (.refl _) (.cons (.refl _) (.cons (.refl _) (.cons .nils (.cons (.refl _) (.cons (.refl _) (.cons (.refl _) (.cons (.refl _) (.cons (.refl _) (.cons (.refl _) .nil)))))))))))) (by simp only[aa.wt,aa.wts,ac.wt,ac.wts,aE,bP,cS,dS,aW,List.length_cons,List.length_nil];omega) (by assumption) (by assumption) (by assumption)
 ·exact hq (.mk 2 0 [] [] [] x_ l_ []) _ _ _ _ _ _ _ _ _ _ _ _ _ _ rp rp rp (Fz.aggs (.cons (.refl _) (.cons (.refl _) (.cons (.refl _) (.cons (.refl _) (.cons .nils (.cons (.refl _) (.cons (.refl _) (.cons (.refl _) (.cons (.refl _) (.cons (.refl _) (.cons .nils .nil)))))))))))) (by simp only[aa.wt,aa.wts,ac.wt,ac.wts,aE,bP,cS,dS,aW,List.length_cons,List.length_nil];omega) (by assumption) (by assumption) (by assumption)
theorem IJ{Q:R}{bm bt nb k r a w d:Nat}{t:List UInt8}{th le:Int}{se tx at_ lo:Bool}{o:Option Nat}{ar:List aL}{ns:Bool}(hq:QS Q bm bt k t w)(ht:t.length<2^40)(ha:a≤t.length)(ho:o=none→ar=[])(hk:k≤ar.length)(hU:cM d)(hd:k+(d+1)≤900)(hb1:100≤bL d)(hb2:bL d≤2^30)(hw:10*bL d≤w)(e1:IntKind.i64.wrap (((d+1:Nat):Int)-1)=(d:Int))(dp:decide ((0:Int)<((d+1:Nat):Int))=true):dB Q ((bt,aM t a)::(nb,⟨11,[dC]⟩)::(bm,cL bt th le se tx at_ lo o k)::ao o 1 (ar.map az)) (.ptr bm 0 0) (.int .i64 ((d+1:Nat):Int)) 7 (.ptr nb 0 0) (.bool ns):=by
 have hE0:=bI 0 (by decide)
 have hE1:=bI 1 (by decide)
 unfold dB cL iY QS dC at *
 repeat' (first | refine dm (ge ?_ e1) | refine st ?_ | ((with_reducible refine aq 21 ?_);refine aj (kL _) ?_) | ((with_reducible refine al 21 ?_);refine ab (kL _) ?_) | ((with_reducible refine aq 54 ?_);refine aj (ie _) ?_) | ((with_reducible refine al 54 ?_);refine ab (ie _) ?_) | ((with_reducible refine aq 53 ?_);refine aj (jx _ _ _) ?_) | ((with_reducible refine al 53 ?_);refine ab (jx _ _ _) ?_) | ((with_reducible refine aq 20 ?_);refine aj (aN _ _) ?_) | ((with_reducible refine al 20 ?_);refine ab (aN _ _) ?_) | ((with_reducible refine aq 19 ?_);(refine E4 (n:=1) hU (by first | rfl | assumption) (by rfl) (by omega) rp rp rp ht (by assumption) (by assumption) (by assumption) (by omega) ?_;rintro a_ th_ le_ se_ tx_ at_ lo_ o_ ar_ l_ ol_ ho2_ hl_ ha_ ho_ hk_;have hl9_:=aa.wts_len l_;dsimp only[List.cons_append,List.nil_append])) | refine cI rp rp (by simp) (fun e=>by first | simp[ho2_ e]) (by rfl) (by simp) (by simp;omega) (by simp;omega) (by rfl) (fun nb_ hnb_=>?_) | refine sb (fun nb_ hnb_=>?_) | refine s2 (fun h=>?_) (fun h=>?_) | fail)
 exact hq (.mk 3 0 [] [] [] (dS 13 (bP [98]) (cS 2)) (l_++[aE [98] (dS 6 (bP [98]) (cS 1))]) []) _ _ _ _ _ _ _ _ _ _ _ _ _ _ rp rp rp (Fz.aggs (.cons (.refl _) (.cons (.refl _) (.cons (.refl _) (.cons (.refl _) (.cons .nils (.cons (.refl _) (.cons (.refl _) (.cons (.refl _) (.cons (.refl _) (.cons (Fz.sls (l:=l_++[aE [98] (dS 6 (bP [98]) (cS 1))]) (f:=aa.enc) (size:=11) mm (by rw[List.map_append,List.map_cons,List.map_nil,aa.enc_row];rfl) (by decide) (by rw[List.length_append];rfl)) (.cons .nils .nil)))))))))))) (by simp only[vM,aa.wt,aa.wts,ac.wt,ac.wts,aE,bP,cS,dS,aW,List.length_cons,List.length_nil];omega) (by assumption) (by assumption) (by assumption)
theorem IK{Q:R}{bm bt nb k r a w d:Nat}{t:List UInt8}{th le:Int}{se tx at_ lo:Bool}{o:Option Nat}{ar:List aL}{ns:Bool}(hq:QS Q bm bt k t w)(ht:t.length<2^40)(ha:a≤t.length)(ho:o=none→ar=[])(hk:k≤ar.length)(hU:cM d)(hd:k+(d+1)≤900)(hb1:100≤bL d)(hb2:bL d≤2^30)(hw:10*bL d≤w)(e1:IntKind.i64.wrap (((d+1:Nat):Int)-1)=(d:Int))(dp:decide ((0:Int)<((d+1:Nat):Int))=true):dB Q ((bt,aM t a)::(nb,⟨11,[dC]⟩)::(bm,cL bt th le se tx at_ lo o k)::ao o 1 (ar.map az)) (.ptr bm 0 0) (.int .i64 ((d+1:Nat):Int)) 8 (.ptr nb 0 0) (.bool ns):=by
 have hE0:=bI 0 (by decide)
 have hE1:=bI 1 (by decide)
 unfold dB cL iY QS dC at *
 cases ns
 all_goals repeat' (first | refine dm (ge ?_ e1) | refine dm (ge (c:=((0:Nat):Int)) ?_ rfl) | refine st ?_ | ((with_reducible refine aq 55 ?_);(refine sI rp rp (by assumption) (by assumption) (by omega) (fun b_=>?_))) | ((with_reducible refine aq 56 ?_);(refine ul hU (by first | rfl | assumption) rp rp rp ht (by assumption) (by assumption) (by assumption) (by omega) ?_;rintro a_ th_ le_ se_ tx_ at_ lo_ o_ ar_ l_ hl_ ha_ ho_ hk_;dsimp only[List.cons_append,List.nil_append])) | ((with_reducible refine aq 52 ?_);(first | (refine bW hE1 (by rfl) ht (by assumption) rp rp (fun x_ a_ hx_ ha_=>?_)) | (refine bW hE0 (by rfl) ht (by assumption) rp rp (fun x_ a_ hx_ ha_=>?_)))) | ((with_reducible refine aq 20 ?_);refine aj (aN _ _) ?_) | ((with_reducible refine al 20 ?_);refine ab (aN _ _) ?_) | refine dv (l:=[[109],[110]]) ?_ mm rfl (by simp) | refine cR ?_ (by omega) | refine sb (fun nb_ hnb_=>?_) | refine s2 (fun h=>?_) (fun h=>?_) | fail)
 all_goals first
  | exact hq (aE _ _) _ _ _ _ _ _ _ _ _ _ _ _ _ _ rp rp rp (.refl _) (by simp only[aa.wt,aa.wts,ac.wt,ac.wts,aE,bP,cS,dS,aW,List.length_cons,List.length_nil];omega) (by assumption) (by assumption) (by assumption)
  | exact hq (.mk 4 0 [109] [] [] aW l_ []) _ _ _ _ _ _ _ _ _ _ _ _ _ _ rp rp rp (Fz.aggs (.cons (.refl _) (.cons (.refl _) (.cons (.refl _) (.cons (.refl _) (.cons .nils (.cons (.refl _) (.cons (.refl _) (.cons (.refl _) (.cons .nils (.cons (.refl _) (.cons .nils .nil)))))))))))) (by simp only[aa.wt,aa.wts,ac.wt,ac.wts,aE,bP,cS,dS,aW,List.length_cons,List.length_nil];omega) (by assumption) (by assumption) (by assumption)
theorem IL{Q:R}{bm bt nb k r a w d:Nat}{t:List UInt8}{th le:Int}{se tx at_ lo:Bool}{o:Option Nat}{ar:List aL}{ns:Bool}(hq:QS Q bm bt k t w)(ht:t.length<2^40)(ha:a≤t.length)(ho:o=none→ar=[])(hk:k≤ar.length)(hU:cM d)(hd:k+(d+1)≤900)(hb1:100≤bL d)(hb2:bL d≤2^30)(hw:10*bL d≤w)(e1:IntKind.i64.wrap (((d+1:Nat):Int)-1)=(d:Int))(dp:decide ((0:Int)<((d+1:Nat):Int))=true):dB Q ((bt,aM t a)::(nb,⟨11,[dC]⟩)::(bm,cL bt th le se tx at_ lo o k)::ao o 1 (ar.map az)) (.ptr bm 0 0) (.int .i64 ((d+1:Nat):Int)) 9 (.ptr nb 0 0) (.bool ns):=by
 have hE0:=bI 0 (by decide)
 have hE1:=bI 1 (by decide)
 unfold dB cL iY QS dC at *
 cases ns
 all_goals repeat' (first | refine dm (ge ?_ e1) | refine dm (ge (c:=((1:Nat):Int)) ?_ rfl) | refine st ?_ | ((with_reducible refine aq 55 ?_);(refine sI rp rp (by assumption) (by assumption) (by omega) (fun b_=>?_))) | ((with_reducible refine aq 56 ?_);(refine ul hU (by first | rfl | assumption) rp rp rp ht (by assumption) (by assumption) (by assumption) (by omega) ?_;rintro a_ th_ le_ se_ tx_ at_ lo_ o_ ar_ l_ hl_ ha_ ho_ hk_;dsimp only[List.cons_append,List.nil_append])) | ((with_reducible refine aq 52 ?_);(first | (refine bW hE1 (by rfl) ht (by assumption) rp rp (fun x_ a_ hx_ ha_=>?_)) | (refine bW hE0 (by rfl) ht (by assumption) rp rp (fun x_ a_ hx_ ha_=>?_)))) | ((with_reducible refine aq 20 ?_);refine aj (aN _ _) ?_) | ((with_reducible refine al 20 ?_);refine ab (aN _ _) ?_) | refine dv (l:=[[109],[110]]) ?_ mm rfl (by simp) | refine cR ?_ (by omega) | refine sb (fun nb_ hnb_=>?_) | refine s2 (fun h=>?_) (fun h=>?_) | fail)
 all_goals first
  | exact hq (aE _ _) _ _ _ _ _ _ _ _ _ _ _ _ _ _ rp rp rp (.refl _) (by simp only[aa.wt,aa.wts,ac.wt,ac.wts,aE,bP,cS,dS,aW,List.length_cons,List.length_nil];omega) (by assumption) (by assumption) (by assumption)
  | exact hq (.mk 4 0 [110] [] [] aW l_ []) _ _ _ _ _ _ _ _ _ _ _ _ _ _ rp rp rp (Fz.aggs (.cons (.refl _) (.cons (.refl _) (.cons (.refl _) (.cons (.refl _) (.cons .nils (.cons (.refl _) (.cons (.refl _) (.cons (.refl _) (.cons .nils (.cons (.refl _) (.cons .nils .nil)))))))))))) (by simp only[aa.wt,aa.wts,ac.wt,ac.wts,aE,bP,cS,dS,aW,List.length_cons,List.length_nil];omega) (by assumption) (by assumption) (by assumption)
theorem G1{Q:R}{bm bt nb k r a w d:Nat}{t:List UInt8}{th le:Int}{se tx at_ lo:Bool}{o:Option Nat}{ar:List aL}{ns:Bool}(hq:QS Q bm bt k t w)(ht:t.length<2^40)(ha:a≤t.length)(ho:o=none→ar=[])(hk:k≤ar.length)(hU:cM d)(hd:k+(d+1)≤900)(hb1:100≤bL d)(hb2:bL d≤2^30)(hw:10*bL d≤w)(e1:IntKind.i64.wrap (((d+1:Nat):Int)-1)=(d:Int))(dp:decide ((0:Int)<((d+1:Nat):Int))=true):dB Q ((bt,aM t a)::(nb,⟨11,[dC]⟩)::(bm,cL bt th le se tx at_ lo o k)::ao o 1 (ar.map az)) (.ptr bm 0 0) (.int .i64 ((d+1:Nat):Int)) 10 (.ptr nb 0 0) (.bool ns):=by
 have hE0:=bI 0 (by decide)
 have hE1:=bI 1 (by decide)
 unfold dB cL iY QS dC at *
 cases ns
 all_goals repeat' (first | refine dm (ge ?_ e1) | refine st ?_ | ((with_reducible refine aq 55 ?_);(refine sI rp rp (by assumption) (by assumption) (by omega) (fun b_=>?_))) | ((with_reducible refine aq 56 ?_);(refine ul hU (by first | rfl | assumption) rp rp rp ht (by assumption) (by assumption) (by assumption) (by omega) ?_;rintro a_ th_ le_ se_ tx_ at_ lo_ o_ ar_ l_ hl_ ha_ ho_ hk_;dsimp only[List.cons_append,List.nil_append])) | ((with_reducible refine aq 52 ?_);(first | (refine bW hE1 (by rfl) ht (by assumption) rp rp (fun x_ a_ hx_ ha_=>?_)) | (refine bW hE0 (by rfl) ht (by assumption) rp rp (fun x_ a_ hx_ ha_=>?_)))) | ((with_reducible refine aq 20 ?_);refine aj (aN _ _) ?_) | ((with_reducible refine al 20 ?_);refine ab (aN _ _) ?_) | refine dv (l:=[[109],[110]]) ?_ mm rfl (by simp) | refine cR ?_ (by omega) | refine sb (fun nb_ hnb_=>?_) | refine s2 (fun h=>?_) (fun h=>?_) | fail)
 all_goals first
  | exact hq (aE _ _) _ _ _ _ _ _ _ _ _ _ _ _ _ _ rp rp rp (.refl _) (by simp only[aa.wt,aa.wts,ac.wt,ac.wts,aE,bP,cS,dS,aW,List.length_cons,List.length_nil];omega) (by assumption) (by assumption) (by assumption)
  | exact hq (.mk 5 0 [114] [] [] aW l_ []) _ _ _ _ _ _ _ _ _ _ _ _ _ _ rp rp rp (Fz.aggs (.cons (.refl _) (.cons (.refl _) (.cons (.refl _) (.cons (.refl _) (.cons .nils (.cons (.refl _) (.cons (.refl _) (.cons (.refl _) (.cons .nils (.cons (.refl _) (.cons .nils .nil)))))))))))) (by simp only[aa.wt,aa.wts,ac.wt,ac.wts,aE,bP,cS,dS,aW,List.length_cons,List.length_nil];omega) (by assumption) (by assumption) (by assumption)
theorem G2{Q:R}{bm bt nb k r a w d:Nat}{t:List UInt8}{th le:Int}{se tx at_ lo:Bool}{o:Option Nat}{ar:List aL}{ns:Bool}(hq:QS Q bm bt k t w)(ht:t.length<2^40)(ha:a≤t.length)(ho:o=none→ar=[])(hk:k≤ar.length)(hU:cM d)(hd:k+(d+1)≤900)(hb1:100≤bL d)(hb2:bL d≤2^30)(hw:10*bL d≤w)(e1:IntKind.i64.wrap (((d+1:Nat):Int)-1)=(d:Int))(dp:decide ((0:Int)<((d+1:Nat):Int))=true):dB Q ((bt,aM t a)::(nb,⟨11,[dC]⟩)::(bm,cL bt th le se tx at_ lo o k)::ao o 1 (ar.map az)) (.ptr bm 0 0) (.int .i64 ((d+1:Nat):Int)) 11 (.ptr nb 0 0) (.bool ns):=by
 have hE0:=bI 0 (by decide)
 have hE1:=bI 1 (by decide)
 unfold dB cL iY QS dC at *
 cases ns
 all_goals repeat' (first | refine dm (ge ?_ e1) | refine st ?_ | ((with_reducible refine aq 55 ?_);(refine sI rp rp (by assumption) (by assumption) (by omega) (fun b_=>?_))) | ((with_reducible refine aq 56 ?_);(refine ul hU (by first | rfl | assumption) rp rp rp ht (by assumption) (by assumption) (by assumption) (by omega) ?_;rintro a_ th_ le_ se_ tx_ at_ lo_ o_ ar_ l_ hl_ ha_ ho_ hk_;dsimp only[List.cons_append,List.nil_append])) | ((with_reducible refine aq 52 ?_);(first | (refine bW hE1 (by rfl) ht (by assumption) rp rp (fun x_ a_ hx_ ha_=>?_)) | (refine bW hE0 (by rfl) ht (by assumption) rp rp (fun x_ a_ hx_ ha_=>?_)))) | ((with_reducible refine aq 20 ?_);refine aj (aN _ _) ?_) | ((with_reducible refine al 20 ?_);refine ab (aN _ _) ?_) | refine dv (l:=[[109],[110]]) ?_ mm rfl (by simp) | refine cR ?_ (by omega) | refine sb (fun nb_ hnb_=>?_) | refine s2 (fun h=>?_) (fun h=>?_) | fail)
 all_goals first
  | exact hq (aE _ _) _ _ _ _ _ _ _ _ _ _ _ _ _ _ rp rp rp (.refl _) (by simp only[aa.wt,aa.wts,ac.wt,ac.wts,aE,bP,cS,dS,aW,List.length_cons,List.length_nil];omega) (by assumption) (by assumption) (by assumption)
  | exact hq (.mk 6 0 [114] [] [] aW l_ []) _ _ _ _ _ _ _ _ _ _ _ _ _ _ rp rp rp (Fz.aggs (.cons (.refl _) (.cons (.refl _) (.cons (.refl _) (.cons (.refl _) (.cons .nils (.cons (.refl _) (.cons (.refl _) (.cons (.refl _) (.cons .nils (.cons (.refl _) (.cons .nils .nil)))))))))))) (by simp only[aa.wt,aa.wts,ac.wt,ac.wts,aE,bP,cS,dS,aW,List.length_cons,List.length_nil];omega) (by assumption) (by assumption) (by assumption)
theorem G3{Q:R}{bm bt nb k r a w d:Nat}{t:List UInt8}{th le:Int}{se tx at_ lo:Bool}{o:Option Nat}{ar:List aL}{ns:Bool}(hq:QS Q bm bt k t w)(ht:t.length<2^40)(ha:a≤t.length)(ho:o=none→ar=[])(hk:k≤ar.length)(hU:cM d)(hd:k+(d+1)≤900)(hb1:100≤bL d)(hb2:bL d≤2^30)(hw:10*bL d≤w)(e1:IntKind.i64.wrap (((d+1:Nat):Int)-1)=(d:Int))(dp:decide ((0:Int)<((d+1:Nat):Int))=true)(hU0:cM 0)(hb0:bL 0=100):dB Q ((bt,aM t a)::(nb,⟨11,[dC]⟩)::(bm,cL bt th le se tx at_ lo o k)::ao o 1 (ar.map az)) (.ptr bm 0 0) (.int .i64 ((d+1:Nat):Int)) 12 (.ptr nb 0 0) (.bool ns):=by
 have hE0:=bI 0 (by decide)
 have hE1:=bI 1 (by decide)
 unfold dB cL iY QS dC at *
 cases ns
 all_goals repeat' (first | refine dm (b9 ?_ (E2 (by omega))) | refine st ?_ | ((with_reducible refine aq 18 ?_);(refine eg ht (by assumption) rp (fun r_ a_ hr_ ha_=>?_))) | ((with_reducible refine aq 19 ?_);(refine yb (n:=1+r_) hU0 (by first | rfl | assumption) (by rfl) (by omega) rp rp rp ht (by assumption) (by assumption) (by assumption) (by omega) ?_;rintro a_ th_ le_ se_ tx_ at_ lo_ o_ ar_ l_ hl_ ha_ ho_ hk_;dsimp only[List.cons_append,List.nil_append])) | ((with_reducible refine aq 52 ?_);(first | (refine bW hE1 (by rfl) ht (by assumption) rp rp (fun x_ a_ hx_ ha_=>?_)) | (refine bW hE0 (by rfl) ht (by assumption) rp rp (fun x_ a_ hx_ ha_=>?_)))) | ((with_reducible refine aq 20 ?_);refine aj (aN _ _) ?_) | ((with_reducible refine al 20 ?_);refine ab (aN _ _) ?_) | refine sb (fun nb_ hnb_=>?_) | refine s2 (fun h=>?_) (fun h=>?_) | fail)
 all_goals first
  | exact hq (aE _ _) _ _ _ _ _ _ _ _ _ _ _ _ _ _ rp rp rp (.refl _) (by simp only[aa.wt,aa.wts,ac.wt,ac.wts,aE,bP,cS,dS,aW,List.length_cons,List.length_nil];omega) (by assumption) (by assumption) (by assumption)
  | exact hq (.mk 7 0 [] [] [] aW l_ []) _ _ _ _ _ _ _ _ _ _ _ _ _ _ rp rp rp (Fz.aggs (.cons (.refl _) (.cons (.refl _) (.cons (.refl _) (.cons (.refl _) (.cons .nils (.cons (.refl _) (.cons (.refl _) (.cons (.refl _) (.cons .nils (.cons (.refl _) (.cons .nils .nil)))))))))))) (by simp only[aa.wt,aa.wts,ac.wt,ac.wts,aE,bP,cS,dS,aW,List.length_cons,List.length_nil];have:=Nat.mul_le_mul_right (bL 0) (show 1+r_≤2 by omega);omega) (by assumption) (by assumption) (by assumption)
theorem G4{Q:R}{bm bt nb k r a w d:Nat}{t:List UInt8}{th le:Int}{se tx at_ lo:Bool}{o:Option Nat}{ar:List aL}{ns:Bool}(hq:QS Q bm bt k t w)(ht:t.length<2^40)(ha:a≤t.length)(ho:o=none→ar=[])(hk:k≤ar.length)(hU:cM d)(hd:k+(d+1)≤900)(hb1:100≤bL d)(hb2:bL d≤2^30)(hw:10*bL d≤w)(e1:IntKind.i64.wrap (((d+1:Nat):Int)-1)=(d:Int))(dp:decide ((0:Int)<((d+1:Nat):Int))=true):dB Q ((bt,aM t a)::(nb,⟨11,[dC]⟩)::(bm,cL bt th le se tx at_ lo o k)::ao o 1 (ar.map az)) (.ptr bm 0 0) (.int .i64 ((d+1:Nat):Int)) 13 (.ptr nb 0 0) (.bool ns):=by
 have hE0:=bI 0 (by decide)
 have hE1:=bI 1 (by decide)
 unfold dB cL iY QS dC at *
 cases ns
 all_goals repeat' (first | refine dm (ge ?_ e1) | refine st ?_ | ((with_reducible refine aq 19 ?_);(refine yb (n:=2) hU (by first | rfl | assumption) (by rfl) (by omega) rp rp rp ht (by assumption) (by assumption) (by assumption) (by omega) ?_;rintro a_ th_ le_ se_ tx_ at_ lo_ o_ ar_ l_ hl_ ha_ ho_ hk_;dsimp only[List.cons_append,List.nil_append])) | ((with_reducible refine aq 52 ?_);(first | (refine bW hE1 (by rfl) ht (by assumption) rp rp (fun x_ a_ hx_ ha_=>?_)) | (refine bW hE0 (by rfl) ht (by assumption) rp rp (fun x_ a_ hx_ ha_=>?_)))) | ((with_reducible refine aq 20 ?_);refine aj (aN _ _) ?_) | ((with_reducible refine al 20 ?_);refine ab (aN _ _) ?_) | refine sb (fun nb_ hnb_=>?_) | refine s2 (fun h=>?_) (fun h=>?_) | fail)
 all_goals first
  | exact hq (aE _ _) _ _ _ _ _ _ _ _ _ _ _ _ _ _ rp rp rp (.refl _) (by simp only[aa.wt,aa.wts,ac.wt,ac.wts,aE,bP,cS,dS,aW,List.length_cons,List.length_nil];omega) (by assumption) (by assumption) (by assumption)
  | exact hq (.mk 8 0 [] [] [] aW l_ []) _ _ _ _ _ _ _ _ _ _ _ _ _ _ rp rp rp (Fz.aggs (.cons (.refl _) (.cons (.refl _) (.cons (.refl _) (.cons (.refl _) (.cons .nils (.cons (.refl _) (.cons (.refl _) (.cons (.refl _) (.cons .nils (.cons (.refl _) (.cons .nils .nil)))))))))))) (by simp only[aa.wt,aa.wts,ac.wt,ac.wts,aE,bP,cS,dS,aW,List.length_cons,List.length_nil];omega) (by assumption) (by assumption) (by assumption)
theorem G5{Q:R}{bm bt nb k r a w d:Nat}{t:List UInt8}{th le:Int}{se tx at_ lo:Bool}{o:Option Nat}{ar:List aL}{ns:Bool}(hq:QS Q bm bt k t w)(ht:t.length<2^40)(ha:a≤t.length)(ho:o=none→ar=[])(hk:k≤ar.length)(hU:cM d)(hd:k+(d+1)≤900)(hb1:100≤bL d)(hb2:bL d≤2^30)(hw:10*bL d≤w)(e1:IntKind.i64.wrap (((d+1:Nat):Int)-1)=(d:Int))(dp:decide ((0:Int)<((d+1:Nat):Int))=true):dB Q ((bt,aM t a)::(nb,⟨11,[dC]⟩)::(bm,cL bt th le se tx at_ lo o k)::ao o 1 (ar.map az)) (.ptr bm 0 0) (.int .i64 ((d+1:Nat):Int)) 14 (.ptr nb 0 0) (.bool ns):=by
 have hE0:=bI 0 (by decide)
 have hE1:=bI 1 (by decide)
 unfold dB cL iY QS dC at *
 cases ns
 all_goals repeat' (first | refine st ?_ | ((with_reducible refine aq 55 ?_);(refine sI rp rp (by assumption) (by assumption) (by omega) (fun b_=>?_))) | ((with_reducible refine aq 54 ?_);refine aj (ie _) ?_) | ((with_reducible refine al 54 ?_);refine ab (ie _) ?_) | ((with_reducible refine aq 52 ?_);(first | (refine bW hE1 (by rfl) ht (by assumption) rp rp (fun x_ a_ hx_ ha_=>?_)) | (refine bW hE0 (by rfl) ht (by assumption) rp rp (fun x_ a_ hx_ ha_=>?_)))) | ((with_reducible refine aq 20 ?_);refine aj (aN _ _) ?_) | ((with_reducible refine al 20 ?_);refine ab (aN _ _) ?_) | refine sb (fun nb_ hnb_=>?_) | refine s2 (fun h=>?_) (fun h=>?_) | fail)
 all_goals first
  | exact hq (aE _ _) _ _ _ _ _ _ _ _ _ _ _ _ _ _ rp rp rp (.refl _) (by simp only[aa.wt,aa.wts,ac.wt,ac.wts,aE,bP,cS,dS,aW,List.length_cons,List.length_nil];omega) (by assumption) (by assumption) (by assumption)
  | exact hq (.mk 4 0 [109] [] [] aW [gR 9 [99],aE [97] (bP [120])] []) _ _ _ _ _ _ _ _ _ _ _ _ _ _ rp rp rp (Fz.aggs (.cons (.refl _) (.cons (.refl _) (.cons (.refl _) (.cons (.refl _) (.cons .nils (.cons (.refl _) (.cons (.refl _) (.cons (.refl _) (.cons .nils (.cons (vN [(wR 9 [99],gR 9 [99]),((aE [97] (bP [120])).row,aE [97] (bP [120]))] (.head _) (by rfl) (by rfl) (by simp[wR,aa.row]) (List.forall_mem_cons.2 ⟨Au,List.forall_mem_cons.2 ⟨fun q a a2 h1 h2=>by rw[h1]at h2;cases h2;exact .refl _,nofun⟩⟩)) (.cons .nils .nil)))))))))))) (by simp only[aa.wt,aa.wts,ac.wt,ac.wts,aE,bP,cS,dS,aW,gR,List.length_cons,List.length_nil];omega) (by assumption) (by assumption) (by assumption)
theorem G6{Q:R}{bm bt nb k r a w d:Nat}{t:List UInt8}{th le:Int}{se tx at_ lo:Bool}{o:Option Nat}{ar:List aL}{ns:Bool}(hq:QS Q bm bt k t w)(ht:t.length<2^40)(ha:a≤t.length)(ho:o=none→ar=[])(hk:k≤ar.length)(hU:cM d)(hd:k+(d+1)≤900)(hb1:100≤bL d)(hb2:bL d≤2^30)(hw:10*bL d≤w)(e1:IntKind.i64.wrap (((d+1:Nat):Int)-1)=(d:Int))(dp:decide ((0:Int)<((d+1:Nat):Int))=true):dB Q ((bt,aM t a)::(nb,⟨11,[dC]⟩)::(bm,cL bt th le se tx at_ lo o k)::ao o 1 (ar.map az)) (.ptr bm 0 0) (.int .i64 ((d+1:Nat):Int)) 15 (.ptr nb 0 0) (.bool ns):=by
 have hE0:=bI 0 (by decide)
 have hE1:=bI 1 (by decide)
 unfold dB cL iY QS dC at *
 cases ns
 all_goals repeat' (first | refine st ?_ | ((with_reducible refine aq 55 ?_);(refine sI rp rp (by assumption) (by assumption) (by omega) (fun b_=>?_))) | ((with_reducible refine aq 18 ?_);(refine eg ht (by assumption) rp (fun r_ a_ hr_ ha_=>?_))) | ((with_reducible refine aq 52 ?_);(first | (refine bW hE1 (by rfl) ht (by assumption) rp rp (fun x_ a_ hx_ ha_=>?_)) | (refine bW hE0 (by rfl) ht (by assumption) rp rp (fun x_ a_ hx_ ha_=>?_)))) | ((with_reducible refine aq 20 ?_);refine aj (aN _ _) ?_) | ((with_reducible refine al 20 ?_);refine ab (aN _ _) ?_) | refine sb (fun nb_ hnb_=>?_) | refine s2 (fun h=>?_) (fun h=>?_) | fail)
 all_goals first
  | exact hq (aE _ _) _ _ _ _ _ _ _ _ _ _ _ _ _ _ rp rp rp (.refl _) (by simp only[aa.wt,aa.wts,ac.wt,ac.wts,aE,bP,cS,dS,aW,List.length_cons,List.length_nil];omega) (by assumption) (by assumption) (by assumption)
  | exact hq (.mk 4 0 [109] [] [] aW [gR (IntKind.i64.wrap (10+(r_:Int))) [99]] []) _ _ _ _ _ _ _ _ _ _ _ _ _ _ rp rp rp (Fz.aggs (.cons (.refl _) (.cons (.refl _) (.cons (.refl _) (.cons (.refl _) (.cons .nils (.cons (.refl _) (.cons (.refl _) (.cons (.refl _) (.cons .nils (.cons (vN [(wR (IntKind.i64.wrap (10+(r_:Int))) [99],gR (IntKind.i64.wrap (10+(r_:Int))) [99])] (.head _) (by rfl) (by rfl) (by simp[wR]) (List.forall_mem_cons.2 ⟨Au,nofun⟩)) (.cons .nils .nil)))))))))))) (by simp only[aa.wt,aa.wts,ac.wt,ac.wts,aE,bP,cS,dS,aW,gR,List.length_cons,List.length_nil];omega) (by assumption) (by assumption) (by assumption)
theorem DI{Q:R}{bm bt nb k r a w d:Nat}{t:List UInt8}{th le:Int}{se tx at_ lo:Bool}{o:Option Nat}{ar:List aL}{ns:Bool}(hq:QS Q bm bt k t w)(ht:t.length<2^40)(ha:a≤t.length)(ho:o=none→ar=[])(hk:k≤ar.length)(hw:100≤w){t1:AV}:dB Q ((bt,aM t a)::(nb,⟨11,[dC]⟩)::(bm,cL bt th le se tx at_ lo o k)::ao o 1 (ar.map az)) (.ptr bm 0 0) t1 16 (.ptr nb 0 0) (.bool ns):=by
 have hE0:=bI 0 (by decide)
 have hE1:=bI 1 (by decide)
 unfold dB cL iY QS dC at *
 repeat' (first | refine st ?_ | ((with_reducible refine aq 18 ?_);(refine eg ht (by assumption) rp (fun r_ a_ hr_ ha_=>?_))) | ((with_reducible refine aq 52 ?_);(first | (refine bW hE1 (by rfl) ht (by assumption) rp rp (fun x_ a_ hx_ ha_=>?_)) | (refine bW hE0 (by rfl) ht (by assumption) rp rp (fun x_ a_ hx_ ha_=>?_)))) | ((with_reducible refine aq 20 ?_);refine aj (aN _ _) ?_) | ((with_reducible refine al 20 ?_);refine ab (aN _ _) ?_) | refine sb (fun nb_ hnb_=>?_) | refine s2 (fun h=>?_) (fun h=>?_) | fail)
 all_goals first
  | exact hq (aE _ _) _ _ _ _ _ _ _ _ _ _ _ _ _ _ rp rp rp (.refl _) (by simp only[aa.wt,aa.wts,ac.wt,ac.wts,aE,bP,cS,dS,aW,List.length_cons,List.length_nil];omega) (by assumption) (by assumption) (by assumption)
  | exact hq (.mk 14 0 [102] [] [] x_ [] []) _ _ _ _ _ _ _ _ _ _ _ _ _ _ rp rp rp (Fz.aggs (.cons (.refl _) (.cons (.refl _) (.cons (.refl _) (.cons (.refl _) (.cons .nils (.cons (.refl _) (.cons (.refl _) (.cons (.refl _) (.cons (.refl _) (.cons .nils (.cons .nils .nil)))))))))))) (by simp only[aa.wt,aa.wts,ac.wt,ac.wts,aE,bP,cS,dS,aW,List.length_cons,List.length_nil];omega) (by assumption) (by assumption) (by assumption)
theorem DJ{Q:R}{bm bt nb k r a w d:Nat}{t:List UInt8}{th le:Int}{se tx at_ lo:Bool}{o:Option Nat}{ar:List aL}{ns:Bool}(hq:QS Q bm bt k t w)(ht:t.length<2^40)(ha:a≤t.length)(ho:o=none→ar=[])(hk:k≤ar.length)(hw:100≤w){t1:AV}:dB Q ((bt,aM t a)::(nb,⟨11,[dC]⟩)::(bm,cL bt th le se tx at_ lo o k)::ao o 1 (ar.map az)) (.ptr bm 0 0) t1 17 (.ptr nb 0 0) (.bool ns):=by
 have hE0:=bI 0 (by decide)
 have hE1:=bI 1 (by decide)
 unfold dB cL iY QS dC at *
 repeat' (first | refine st ?_ | ((with_reducible refine aq 18 ?_);(refine eg ht (by assumption) rp (fun r_ a_ hr_ ha_=>?_))) | ((with_reducible refine aq 52 ?_);(first | (refine bW hE1 (by rfl) ht (by assumption) rp rp (fun x_ a_ hx_ ha_=>?_)) | (refine bW hE0 (by rfl) ht (by assumption) rp rp (fun x_ a_ hx_ ha_=>?_)))) | ((with_reducible refine aq 20 ?_);refine aj (aN _ _) ?_) | ((with_reducible refine al 20 ?_);refine ab (aN _ _) ?_) | refine sb (fun nb_ hnb_=>?_) | refine s2 (fun h=>?_) (fun h=>?_) | fail)
 all_goals first
  | exact hq (aE _ _) _ _ _ _ _ _ _ _ _ _ _ _ _ _ rp rp rp (.refl _) (by simp only[aa.wt,aa.wts,ac.wt,ac.wts,aE,bP,cS,dS,aW,List.length_cons,List.length_nil];omega) (by assumption) (by assumption) (by assumption)
  | exact hq (.mk 15 0 [97] [102] [] aW [] []) _ _ _ _ _ _ _ _ _ _ _ _ _ _ rp rp rp (Fz.aggs (.cons (.refl _) (.cons (.refl _) (.cons (.refl _) (.cons (.refl _) (.cons .nils (.cons (.refl _) (.cons (.refl _) (.cons (.refl _) (.cons .nils (.cons .nils (.cons .nils .nil)))))))))))) (by simp only[aa.wt,aa.wts,ac.wt,ac.wts,aE,bP,cS,dS,aW,List.length_cons,List.length_nil];omega) (by assumption) (by assumption) (by assumption)
end Go.Proofs.Ytljkdffikfkcgaa.Am
end
