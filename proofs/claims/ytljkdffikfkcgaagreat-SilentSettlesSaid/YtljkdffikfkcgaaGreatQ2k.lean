/- A part of the proof; the statement is proved in the last part. -/
import Derived.Test.YtljkdffikfkcgaaGreatQ2j
set_option linter.unusedSimpArgs false
set_option linter.unusedVariables false
section
namespace Go.Proofs.YtljkdffikfkcgaaGreat.Am
set_option maxRecDepth 100000
set_option linter.unusedVariables false
section
variable {bm bt:Nat} {t:List UInt8} {a d n:Nat} {th le:Int} {se tx at_ lo:Bool} {o:Option Nat} {ar:List aM} {k:Nat} {L L1 L2 L3:SH}
theorem Fv(bm bt:Nat)(th le:Int)(se tx at_ lo:Bool)(o:Option Nat)(ar:List aM)(k:Nat)(s:aM)(h0:o=none→ar=[])(hk:k≤ar.length)(h9:k≤900):
  aj Tryz.prog 66 [.ptr bm 0 0,.str s] ((bm,cO bt th le se tx at_ lo o k)::am o 1 (ar.map aA)) fun u K=>∃r:Bool,u=.bool r∧K=(bm,cO bt th le se tx at_ lo o k)::am o 1 (ar.map aA):=by
 have ha:=aj.within (L:=(bm,cO bt th le se tx at_ lo o k)::am o 1 (ar.map aA)) (R:=[]) (IZ o ar k _ s h0 hk (by omega)) ((da.there _ .last:da o 1 (ar.map aA) ((bm,cO bt th le se tx at_ lo o k)::am o 1 (ar.map aA)) _).perm.trans (.of_eq (List.append_nil _).symm))
 refine lQ _ _ _ _ ?_
 unfold gD
 unfold cO ja at ha ⊢
 repeat' (first | refine st ?_ | ((with_reducible refine ao 56 ?_);(refine cz ha ?_;rintro _ _ ⟨r_,rfl,rfl⟩)) | refine sb (fun nb_ hnb_=>?_) | refine s2 (fun h=>?_) (fun h=>?_) | fail)
 exact⟨_,rfl,rfl⟩
theorem tC{s:aM}{KL:R}(h1:dE bm (cO bt th le se tx at_ lo o k) L L1)(h2:da o 1 (ar.map aA) L1 L2)(h0:o=none→ar=[])(hk:k≤ar.length)(h9:k≤900)(hq:∀r:Bool,KL (.bool r) L):W.callM Tryz.prog 66 [.ptr bm 0 0,.str s] L KL:=by
 refine CS ((aj.within (R:=L2) (Fv bm bt th le se tx at_ lo o ar k s h0 hk h9) ?_).mono ?_)
 ·exact h1.perm.trans (h2.perm.cons _)
 ·rintro _ _ ⟨r,rfl,rfl⟩;exact hq r
theorem lB{P:Program}{g:FuncId}{args:List AV}{K M L:SH}{R1:AV→SH→Prop}{KL:R}(h:aj P g args K R1)(hL:L.Perm (K++M))(hq:∀v K',R1 v K'→∃L'',(K'++M).Perm L''∧KL v L''):W.callM P g args L KL:=⟨aj.permR (h.frame hL hq)⟩
theorem Da{f:FuncId}{args:List AV}{good:AV→Prop}{KL:R}(h:Jw f args d good)(h1:dE bm (cO bt th le se tx at_ lo o k) L L1)(h2:dE bt (aP t a) L1 L2)(h3:da o 1 (ar.map aA) L2 L3)(ht:t.length<2^40)(ha:a≤t.length)(ho:o=none→ar=[])(hk:k≤ar.length)(hd:k+d≤900)
  (hq:∀(v:AV) (a':Nat) (th' le':Int) (se' tx' at' lo':Bool) (o':Option Nat) (ar':List aM),good v→a'≤t.length→(o'=none→ar'=[])→k≤ar'.length→KL v ((bm,cO bt th' le' se' tx' at' lo' o' k)::(bt,aP t a')::(L3++am o' 1 (ar'.map aA)))):W.callM Tryz.prog f (.ptr bm 0 0::args) L KL:=by
 refine lB (h bm bt t a th le se tx at_ lo o ar k ht ha ho hk hd) (jb h1 h2 h3) ?_
 rintro _ _ ⟨v,a',th',le',se',tx',at',lo',o',ar',rfl,q1,q2,q3,q4,rfl⟩
 exact⟨_,.cons _ (.cons _ List.perm_append_comm),hq _ a' th' le' se' tx' at' lo' o' ar' q1 q2 q3 q4⟩
theorem GS{nn:Int}{dd:Int}{KL:R}(h:cP d)(hdd:dd=(d:Int))(hnn:nn=(n:Int))(hn:n≤10)(h1:dE bm (cO bt th le se tx at_ lo o k) L L1)(h2:dE bt (aP t a) L1 L2)(h3:da o 1 (ar.map aA) L2 L3)(ht:t.length<2^40)(ha:a≤t.length)(ho:o=none→ar=[])(hk:k≤ar.length)(hd:k+d≤900)
  (hq:∀(a':Nat) (th' le':Int) (se' tx' at' lo':Bool) (o':Option Nat) (ar':List aM) (l:List aa) (ol:Option Nat),(ol=none→l=[])→aa.wts l≤n*bN d→a'≤t.length→(o'=none→ar'=[])→k≤ar'.length→KL (aq ol l.length) ((bm,cO bt th' le' se' tx' at' lo' o' k)::(bt,aP t a')::(L3++(am ol 11 (l.map aa.enc)++am o' 1 (ar'.map aA))))):W.callM Tryz.prog 24 [.ptr bm 0 0,.int .i64 dd,.int .i64 nn] L KL:=by
 subst hdd hnn
 refine lB (h n hn bm bt t a th le se tx at_ lo o ar k ht ha ho hk hd) (jb h1 h2 h3) ?_
 rintro _ _ ⟨a',th',le',se',tx',at',lo',o',ar',l,ol,rfl,q1,q2,q3,q4,q5,rfl⟩
 exact⟨_,.cons _ (.cons _ ((List.perm_append_comm.append_right _).trans List.perm_append_comm)),hq a' th' le' se' tx' at' lo' o' ar' l ol q1 q2 q3 q4 q5⟩
theorem z8{nn:Int}{dd:Int}{KL:R}(h:cP d)(hdd:dd=(d:Int))(hnn:nn=(n:Int))(hn:n≤10)(h1:dE bm (cO bt th le se tx at_ lo o k) L L1)(h2:dE bt (aP t a) L1 L2)(h3:da o 1 (ar.map aA) L2 L3)(ht:t.length<2^40)(ha:a≤t.length)(ho:o=none→ar=[])(hk:k≤ar.length)(hd:k+d≤900)
  (hq:∀(a':Nat) (th' le':Int) (se' tx' at' lo':Bool) (o':Option Nat) (ar':List aM) (l:List aa),aa.wts l≤n*bN d→a'≤t.length→(o'=none→ar'=[])→k≤ar'.length→KL (.lst (l.map aa.enc)) ((bm,cO bt th' le' se' tx' at' lo' o' k)::(bt,aP t a')::(L3++am o' 1 (ar'.map aA)))):W.callM Tryz.prog 24 [.ptr bm 0 0,.int .i64 dd,.int .i64 nn] L KL:=by
 subst hdd hnn
 refine Da (z7 d h n hn) h1 h2 h3 ht ha ho hk hd ?_
 rintro _ a' th' le' se' tx' at' lo' o' ar' ⟨l,rfl,q1⟩ q2 q3 q4
 exact hq a' th' le' se' tx' at' lo' o' ar' l q1 q2 q3 q4
theorem vw{s:aM}{dd:Int}{KL:R}(h:cP d)(hdd:dd=(d:Int))(h1:dE bm (cO bt th le se tx at_ lo o k) L L1)(h2:dE bt (aP t a) L1 L2)(h3:da o 1 (ar.map aA) L2 L3)(ht:t.length<2^40)(ha:a≤t.length)(ho:o=none→ar=[])(hk:k≤ar.length)(hd:k+(d+1)≤900)
  (hq:∀(a':Nat) (th' le':Int) (se' tx' at' lo':Bool) (o':Option Nat) (ar':List aM) (l:List aa),aa.wts l≤2*bN d→a'≤t.length→(o'=none→ar'=[])→k≤ar'.length→KL (.lst (l.map aa.enc)) ((bm,cO bt th' le' se' tx' at' lo' o' k)::(bt,aP t a')::(L3++am o' 1 (ar'.map aA)))):W.callM Tryz.prog 67 [.ptr bm 0 0,.str s,.int .i64 dd] L KL:=by
 subst hdd
 refine Da (GR d (z7 d h) s) h1 h2 h3 ht ha ho hk hd ?_
 rintro _ a' th' le' se' tx' at' lo' o' ar' ⟨l,rfl,q1⟩ q2 q3 q4
 exact hq a' th' le' se' tx' at' lo' o' ar' l q1 q2 q3 q4
end
theorem Bv{l:List aM}(h:∀x∈l,x.length≤1)(r:Nat):(l.getD r []).length≤1:=by
 rw[List.getD]
 cases hx:l[r]? with
 | none=>simp
 | some x=>exact h x (List.mem_of_getElem? hx)
def dH(Q:R)(L:SH)(t0 t1:AV)(r:Int)(x0 x54:AV):Prop:=
 wk (.bool (decide (r<4))) (gI Q L t0 (.int .i64 r) x0) (wb .eql 3 (.int .i64 r) (.int .i64 4) fun x74=>wk x74 (gJ Q L t0 x0) (fU Q L t0 t1 (.int .i64 r) x0 x54))
def dI:List AV:=[.int .i64 0,.int .i64 0,.str [],.str [],.nils,.int .i64 0,.int .i64 0,.str [],.nils,.nils,.nils]
def QS(Q:R)(bm bt k:Nat)(t:List UInt8)(w:Nat):Prop:=∀(x:aa) (v:AV) (a':Nat) (th' le':Int) (se' tx' at' lo':Bool) (o':Option Nat) (ar':List aM) (L L1 L2 L3:SH),dE bm (cO bt th' le' se' tx' at' lo' o' k) L L1→dE bt (aP t a') L1 L2→da o' 1 (ar'.map aA) L2 L3→Fz L3 v (.agg x.row)→x.wt≤w→a'≤t.length→(o'=none→ar'=[])→k≤ar'.length→Q v L
def yD(op:Int)(nm:aM):List AV:=[.int .i64 op,.int .i64 0,.str nm,.str [],.nils,.int .i64 0,.int .i64 0,.str [],.nils,.nils,.nils]
def gX(op:Int)(nm:aM):aa:=.mk op 0 nm [] [] aW [] []
theorem Ci{K:SH}{op:Int}{nm:aM}(q:Nat)(a a2:AV)(h1:(yD op nm)[q]? =some a)(h2:(gX op nm).row[q]? =some a2):Fz K a a2:=by
 rcases q with _ | _ | _ | _ | _ | _ | _ | _ | _ | _ | _ | q
 all_goals first
  | (cases h1;cases h2;exact .refl _)
  | (cases h1;cases h2;exact .nils)
  | cases h1
theorem xt{K:SH}{b n:Nat}{rows:List (List AV)}(l:List (List AV×aa))(hm:(b,⟨11,rows⟩)∈K)(hr:rows=l.map Prod.fst)(hn:n=l.length)(hl:∀y∈l,y.1.length=11)
  (hc:∀y∈l,∀(q:Nat) (a a2:AV),y.1[q]? =some a→y.2.row[q]? =some a2→Fz K a a2):Fz K (.sl b 0 n) (.lst ((l.map Prod.snd).map aa.enc)):=by
 rw[List.map_map]
 exact Fz.slm (f:=Prod.fst) (g:=aa.enc∘Prod.snd) hm hr (by decide) hn (fun y hy=>by rw[hl y hy,Function.comp,aa.enc_row];rfl) fun y hy q a a2 h1 h2=>hc y hy q a a2 h1 (by rw[Function.comp,aa.enc_row]at h2;exact h2)
theorem HN{Q:R}{bm bt nb k r a w d:Nat}{t:List UInt8}{th le:Int}{se tx at_ lo:Bool}{o:Option Nat}{ar:List aM}{ns:Bool}(hq:QS Q bm bt k t w)(ht:t.length<2^40)(ha:a≤t.length)(ho:o=none→ar=[])(hk:k≤ar.length)(hr:r<4)(hw:100≤w){t1:AV}:dH Q ((bt,aP t a)::(nb,⟨11,[dI]⟩)::(bm,cO bt th le se tx at_ lo o k)::am o 1 (ar.map aA)) (.ptr bm 0 0) t1 (r:Int) (.ptr nb 0 0) (.bool ns):=by
 have hE0:=bK 0 (by decide)
 have hE1:=bK 1 (by decide)
 have d4:decide ((r:Int)<4)=true:=by simp;omega
 have hn:=Bv (l:=[[120],[121],[120],[118]]) (by decide) r
 unfold dH cO ja QS dI at *
 repeat' (first | refine st ?_ | ((with_reducible refine ao 23 ?_);(refine eq ht (by assumption) rp (fun r_ a_ hr_ ha_=>?_))) | ((with_reducible refine ao 25 ?_);refine af (aQ _ _) ?_) | ((with_reducible refine al 25 ?_);refine ab (aQ _ _) ?_) | refine dD (l:=[[120],[121],[120],[118]]) ?_ mm rfl (by simp;omega) | refine cY ?_ (by omega) | ((with_reducible refine al 63 ?_);refine zZ hE1 (by rfl) ht (by assumption) rp rp (fun x_ a_ hx_ ha_=>?_)) | refine sb (fun nb_ hnb_=>?_) | refine s2 (fun h=>?_) (fun h=>?_) | fail)
 exact hq (aF _ _) _ _ _ _ _ _ _ _ _ _ _ _ _ _ rp rp rp (.refl _) (by simp only[aa.wt,aa.wts,ae.wt,ae.wts,aF,bS,cZ,dX,aW,List.length_cons,List.length_nil];omega) (by assumption) (by assumption) (by assumption)
theorem HO{Q:R}{bm bt nb k r a w d:Nat}{t:List UInt8}{th le:Int}{se tx at_ lo:Bool}{o:Option Nat}{ar:List aM}{ns:Bool}(hq:QS Q bm bt k t w)(ht:t.length<2^40)(ha:a≤t.length)(ho:o=none→ar=[])(hk:k≤ar.length)(hw:100≤w){t1:AV}:dH Q ((bt,aP t a)::(nb,⟨11,[dI]⟩)::(bm,cO bt th le se tx at_ lo o k)::am o 1 (ar.map aA)) (.ptr bm 0 0) t1 4 (.ptr nb 0 0) (.bool ns):=by
 have hE0:=bK 0 (by decide)
 have hE1:=bK 1 (by decide)
 unfold dH cO ja QS dI at *
 repeat' (first | refine st ?_ | ((with_reducible refine ao 23 ?_);(refine eq ht (by assumption) rp (fun r_ a_ hr_ ha_=>?_))) | ((with_reducible refine ao 25 ?_);refine af (aQ _ _) ?_) | ((with_reducible refine al 25 ?_);refine ab (aQ _ _) ?_) | ((with_reducible refine al 23 ?_);refine vu ht (by assumption) rp (fun r_ a_ hr_ ha_=>?_)) | refine dD (l:=[[97],[98]]) ?_ mm rfl (by simp;omega) | refine cY ?_ (by omega) | ((with_reducible refine al 63 ?_);refine zZ hE1 (by rfl) ht (by assumption) rp rp (fun x_ a_ hx_ ha_=>?_)) | refine sb (fun nb_ hnb_=>?_) | refine s2 (fun h=>?_) (fun h=>?_) | fail)
 have hn:=Bv (l:=[[97],[98]]) (by decide) r_
 exact hq (aF _ _) _ _ _ _ _ _ _ _ _ _ _ _ _ _ rp rp rp (.refl _) (by simp only[aa.wt,aa.wts,ae.wt,ae.wts,aF,bS,cZ,dX,aW,List.length_cons,List.length_nil];omega) (by assumption) (by assumption) (by assumption)
theorem HP{Q:R}{bm bt nb k r a w d:Nat}{t:List UInt8}{th le:Int}{se tx at_ lo:Bool}{o:Option Nat}{ar:List aM}{ns:Bool}(hq:QS Q bm bt k t w)(ht:t.length<2^40)(ha:a≤t.length)(ho:o=none→ar=[])(hk:k≤ar.length)(hw:100≤w){t1:AV}:dH Q ((bt,aP t a)::(nb,⟨11,[dI]⟩)::(bm,cO bt th le se tx at_ lo o k)::am o 1 (ar.map aA)) (.ptr bm 0 0) t1 5 (.ptr nb 0 0) (.bool ns):=by
 have hE0:=bK 0 (by decide)
 have hE1:=bK 1 (by decide)
 unfold dH cO ja QS dI at *
 repeat' (first | refine st ?_ | ((with_reducible refine ao 63 ?_);(first | (refine b7 hE1 (by rfl) ht (by assumption) rp rp (fun x_ a_ hx_ ha_=>?_)) | (refine b7 hE0 (by rfl) ht (by assumption) rp rp (fun x_ a_ hx_ ha_=>?_)))) | refine sb (fun nb_ hnb_=>?_) | refine s2 (fun h=>?_) (fun h=>?_) | fail)
 rename_i x0 a0 hx0 ha0
 exact hq (.mk 1 0 [113] [] [x0] x_ [] []) _ _ _ _ _ _ _ _ _ _ _ _ _ _ rp rp rp (Fz.aggs (.cons (.refl _) (.cons (.refl _) (.cons (.refl _) (.cons (.refl _) (.cons (Fz.sls (l:=[x0]) (f:=ae.enc) (size:=4) mm (by simp[ae.enc_row]) (by decide) rfl) (.cons (.refl _) (.cons (.refl _) (.cons (.refl _) (.cons (.refl _) (.cons .nils (.cons .nils .nil)))))))))))) (by simp only[aa.wt,aa.wts,ae.wt,ae.wts,aF,bS,cZ,dX,aW,List.length_cons,List.length_nil];omega) (by assumption) (by assumption) (by assumption)
theorem KA{Q:R}{bm bt nb k r a w d:Nat}{t:List UInt8}{th le:Int}{se tx at_ lo:Bool}{o:Option Nat}{ar:List aM}{ns:Bool}(hq:QS Q bm bt k t w)(ht:t.length<2^40)(ha:a≤t.length)(ho:o=none→ar=[])(hk:k≤ar.length)(hU:cP d)(hd:k+(d+1)≤900)(hb1:100≤bN d)(hb2:bN d≤2^30)(hw:10*bN d≤w)(e1:IntKind.i64.wrap (((d+1:Nat):Int)-1)=(d:Int))(dp:decide ((0:Int)<((d+1:Nat):Int))=true):dH Q ((bt,aP t a)::(nb,⟨11,[dI]⟩)::(bm,cO bt th le se tx at_ lo o k)::am o 1 (ar.map aA)) (.ptr bm 0 0) (.int .i64 ((d+1:Nat):Int)) 6 (.ptr nb 0 0) (.bool ns):=by
 have hE0:=bK 0 (by decide)
 have hE1:=bK 1 (by decide)
 unfold dH cO ja QS dI at *
 repeat' (first | refine dy (gj ?_ e1) | refine st ?_ | ((with_reducible refine ao 63 ?_);(first | (refine b7 hE1 (by rfl) ht (by assumption) rp rp (fun x_ a_ hx_ ha_=>?_)) | (refine b7 hE0 (by rfl) ht (by assumption) rp rp (fun x_ a_ hx_ ha_=>?_)))) | ((with_reducible refine ao 24 ?_);(refine z8 (n:=1) hU (by first | rfl | assumption) (by rfl) (by omega) rp rp rp ht (by assumption) (by assumption) (by assumption) (by omega) ?_;rintro a_ th_ le_ se_ tx_ at_ lo_ o_ ar_ l_ hl_ ha_ ho_ hk_;dsimp only[List.cons_append,List.nil_append])) | ((with_reducible refine ao 23 ?_);(refine eq ht (by assumption) rp (fun r_ a_ hr_ ha_=>?_))) | refine sb (fun nb_ hnb_=>?_) | refine s2 (fun h=>?_) (fun h=>?_) | fail)
 ·rename_i a0 th0 le0 se0 tx0 at0 lo0 o0 ar0 l0 h0 h1 h2 h3 a1 h4
  exact hq (.mk 2 0 [] [] [] x_ l0 l_) _ _ _ _ _ _ _ _ _ _ _ _ _ _ rp rp rp (Fz.aggs (.cons (.refl _) (.cons (.refl _) (.cons (.refl _) (.cons (.refl _) (.cons .nils (.cons (.refl _) (.cons (.refl _) (.cons (.refl _) (.cons (.refl _) (.cons (.refl _) (.cons (.refl _) .nil)))))))))))) (by simp only[aa.wt,aa.wts,ae.wt,ae.wts,aF,bS,cZ,dX,aW,List.length_cons,List.length_nil];omega) (by assumption) (by assumption) (by assumption)
 ·exact hq (.mk 2 0 [] [] [] x_ l_ []) _ _ _ _ _ _ _ _ _ _ _ _ _ _ rp rp rp (Fz.aggs (.cons (.refl _) (.cons (.refl _) (.cons (.refl _) (.cons (.refl _) (.cons .nils (.cons (.refl _) (.cons (.refl _) (.cons (.refl _) (.cons (.refl _) (.cons (.refl _) (.cons .nils .nil)))))))))))) (by simp only[aa.wt,aa.wts,ae.wt,ae.wts,aF,bS,cZ,dX,aW,List.length_cons,List.length_nil];omega) (by assumption) (by assumption) (by assumption)
theorem KB{Q:R}{bm bt nb k r a w d:Nat}{t:List UInt8}{th le:Int}{se tx at_ lo:Bool}{o:Option Nat}{ar:List aM}{ns:Bool}(hq:QS Q bm bt k t w)(ht:t.length<2^40)(ha:a≤t.length)(ho:o=none→ar=[])(hk:k≤ar.length)(hU:cP d)(hd:k+(d+1)≤900)(hb1:100≤bN d)(hb2:bN d≤2^30)(hw:10*bN d≤w)(e1:IntKind.i64.wrap (((d+1:Nat):Int)-1)=(d:Int))(dp:decide ((0:Int)<((d+1:Nat):Int))=true):dH Q ((bt,aP t a)::(nb,⟨11,[dI]⟩)::(bm,cO bt th le se tx at_ lo o k)::am o 1 (ar.map aA)) (.ptr bm 0 0) (.int .i64 ((d+1:Nat):Int)) 7 (.ptr nb 0 0) (.bool ns):=by
 have hE0:=bK 0 (by decide)
 have hE1:=bK 1 (by decide)
 unfold dH cO ja QS dI at *
 repeat' (first | refine dy (gj ?_ e1) | refine st ?_ | ((with_reducible refine ao 26 ?_);refine af (kZ _) ?_) | ((with_reducible refine al 26 ?_);refine ab (kZ _) ?_) | ((with_reducible refine ao 65 ?_);refine af (io _) ?_) | ((with_reducible refine al 65 ?_);refine ab (io _) ?_) | ((with_reducible refine ao 64 ?_);refine af (jE _ _ _) ?_) | ((with_reducible refine al 64 ?_);refine ab (jE _ _ _) ?_) | ((with_reducible refine ao 25 ?_);refine af (aQ _ _) ?_) | ((with_reducible refine al 25 ?_);refine ab (aQ _ _) ?_) | ((with_reducible refine ao 24 ?_);(refine GS (n:=1) hU (by first | rfl | assumption) (by rfl) (by omega) rp rp rp ht (by assumption) (by assumption) (by assumption) (by omega) ?_;rintro a_ th_ le_ se_ tx_ at_ lo_ o_ ar_ l_ ol_ ho2_ hl_ ha_ ho_ hk_;have hl9_:=aa.wts_len l_;dsimp only[List.cons_append,List.nil_append])) | refine cG rp rp (by simp) (fun e=>by first | simp[ho2_ e]) (by rfl) (by simp) (by simp;omega) (by simp;omega) (by rfl) (fun nb_ hnb_=>?_) | refine sb (fun nb_ hnb_=>?_) | refine s2 (fun h=>?_) (fun h=>?_) | fail)
 exact hq (.mk 3 0 [] [] [] (dX 13 (bS [98]) (cZ 2)) (l_++[aF [98] (dX 6 (bS [98]) (cZ 1))]) []) _ _ _ _ _ _ _ _ _ _ _ _ _ _ rp rp rp (Fz.aggs (.cons (.refl _) (.cons (.refl _) (.cons (.refl _) (.cons (.refl _) (.cons .nils (.cons (.refl _) (.cons (.refl _) (.cons (.refl _) (.cons (.refl _) (.cons (Fz.sls (l:=l_++[aF [98] (dX 6 (bS [98]) (cZ 1))]) (f:=aa.enc) (size:=11) mm (by rw[List.map_append,List.map_cons,List.map_nil,aa.enc_row];rfl) (by decide) (by rw[List.length_append];rfl)) (.cons .nils .nil)))))))))))) (by simp only[xr,aa.wt,aa.wts,ae.wt,ae.wts,aF,bS,cZ,dX,aW,List.length_cons,List.length_nil];omega) (by assumption) (by assumption) (by assumption)
theorem KC{Q:R}{bm bt nb k r a w d:Nat}{t:List UInt8}{th le:Int}{se tx at_ lo:Bool}{o:Option Nat}{ar:List aM}{ns:Bool}(hq:QS Q bm bt k t w)(ht:t.length<2^40)(ha:a≤t.length)(ho:o=none→ar=[])(hk:k≤ar.length)(hU:cP d)(hd:k+(d+1)≤900)(hb1:100≤bN d)(hb2:bN d≤2^30)(hw:10*bN d≤w)(e1:IntKind.i64.wrap (((d+1:Nat):Int)-1)=(d:Int))(dp:decide ((0:Int)<((d+1:Nat):Int))=true):dH Q ((bt,aP t a)::(nb,⟨11,[dI]⟩)::(bm,cO bt th le se tx at_ lo o k)::am o 1 (ar.map aA)) (.ptr bm 0 0) (.int .i64 ((d+1:Nat):Int)) 8 (.ptr nb 0 0) (.bool ns):=by
 have hE0:=bK 0 (by decide)
 have hE1:=bK 1 (by decide)
 unfold dH cO ja QS dI at *
 cases ns
 all_goals repeat' (first | refine dy (gj ?_ e1) | refine dy (gj (c:=((0:Nat):Int)) ?_ rfl) | refine st ?_ | ((with_reducible refine ao 66 ?_);(refine tC rp rp (by assumption) (by assumption) (by omega) (fun b_=>?_))) | ((with_reducible refine ao 67 ?_);(refine vw hU (by first | rfl | assumption) rp rp rp ht (by assumption) (by assumption) (by assumption) (by omega) ?_;rintro a_ th_ le_ se_ tx_ at_ lo_ o_ ar_ l_ hl_ ha_ ho_ hk_;dsimp only[List.cons_append,List.nil_append])) | ((with_reducible refine ao 63 ?_);(first | (refine b7 hE1 (by rfl) ht (by assumption) rp rp (fun x_ a_ hx_ ha_=>?_)) | (refine b7 hE0 (by rfl) ht (by assumption) rp rp (fun x_ a_ hx_ ha_=>?_)))) | ((with_reducible refine ao 25 ?_);refine af (aQ _ _) ?_) | ((with_reducible refine al 25 ?_);refine ab (aQ _ _) ?_) | refine dD (l:=[[109],[110]]) ?_ mm rfl (by simp) | refine cY ?_ (by omega) | refine sb (fun nb_ hnb_=>?_) | refine s2 (fun h=>?_) (fun h=>?_) | fail)
 all_goals first
  | exact hq (aF _ _) _ _ _ _ _ _ _ _ _ _ _ _ _ _ rp rp rp (.refl _) (by simp only[aa.wt,aa.wts,ae.wt,ae.wts,aF,bS,cZ,dX,aW,List.length_cons,List.length_nil];omega) (by assumption) (by assumption) (by assumption)
  | exact hq (.mk 4 0 [109] [] [] aW l_ []) _ _ _ _ _ _ _ _ _ _ _ _ _ _ rp rp rp (Fz.aggs (.cons (.refl _) (.cons (.refl _) (.cons (.refl _) (.cons (.refl _) (.cons .nils (.cons (.refl _) (.cons (.refl _) (.cons (.refl _) (.cons .nils (.cons (.refl _) (.cons .nils .nil)))))))))))) (by simp only[aa.wt,aa.wts,ae.wt,ae.wts,aF,bS,cZ,dX,aW,List.length_cons,List.length_nil];omega) (by assumption) (by assumption) (by assumption)
theorem KD{Q:R}{bm bt nb k r a w d:Nat}{t:List UInt8}{th le:Int}{se tx at_ lo:Bool}{o:Option Nat}{ar:List aM}{ns:Bool}(hq:QS Q bm bt k t w)(ht:t.length<2^40)(ha:a≤t.length)(ho:o=none→ar=[])(hk:k≤ar.length)(hU:cP d)(hd:k+(d+1)≤900)(hb1:100≤bN d)(hb2:bN d≤2^30)(hw:10*bN d≤w)(e1:IntKind.i64.wrap (((d+1:Nat):Int)-1)=(d:Int))(dp:decide ((0:Int)<((d+1:Nat):Int))=true):dH Q ((bt,aP t a)::(nb,⟨11,[dI]⟩)::(bm,cO bt th le se tx at_ lo o k)::am o 1 (ar.map aA)) (.ptr bm 0 0) (.int .i64 ((d+1:Nat):Int)) 9 (.ptr nb 0 0) (.bool ns):=by
 have hE0:=bK 0 (by decide)
 have hE1:=bK 1 (by decide)
 unfold dH cO ja QS dI at *
 cases ns
 all_goals repeat' (first | refine dy (gj ?_ e1) | refine dy (gj (c:=((1:Nat):Int)) ?_ rfl) | refine st ?_ | ((with_reducible refine ao 66 ?_);(refine tC rp rp (by assumption) (by assumption) (by omega) (fun b_=>?_))) | ((with_reducible refine ao 67 ?_);(refine vw hU (by first | rfl | assumption) rp rp rp ht (by assumption) (by assumption) (by assumption) (by omega) ?_;rintro a_ th_ le_ se_ tx_ at_ lo_ o_ ar_ l_ hl_ ha_ ho_ hk_;dsimp only[List.cons_append,List.nil_append])) | ((with_reducible refine ao 63 ?_);(first | (refine b7 hE1 (by rfl) ht (by assumption) rp rp (fun x_ a_ hx_ ha_=>?_)) | (refine b7 hE0 (by rfl) ht (by assumption) rp rp (fun x_ a_ hx_ ha_=>?_)))) | ((with_reducible refine ao 25 ?_);refine af (aQ _ _) ?_) | ((with_reducible refine al 25 ?_);refine ab (aQ _ _) ?_) | refine dD (l:=[[109],[110]]) ?_ mm rfl (by simp) | refine cY ?_ (by omega) | refine sb (fun nb_ hnb_=>?_) | refine s2 (fun h=>?_) (fun h=>?_) | fail)
 all_goals first
  | exact hq (aF _ _) _ _ _ _ _ _ _ _ _ _ _ _ _ _ rp rp rp (.refl _) (by simp only[aa.wt,aa.wts,ae.wt,ae.wts,aF,bS,cZ,dX,aW,List.length_cons,List.length_nil];omega) (by assumption) (by assumption) (by assumption)
  | exact hq (.mk 4 0 [110] [] [] aW l_ []) _ _ _ _ _ _ _ _ _ _ _ _ _ _ rp rp rp (Fz.aggs (.cons (.refl _) (.cons (.refl _) (.cons (.refl _) (.cons (.refl _) (.cons .nils (.cons (.refl _) (.cons (.refl _) (.cons (.refl _) (.cons .nils (.cons (.refl _) (.cons .nils .nil)))))))))))) (by simp only[aa.wt,aa.wts,ae.wt,ae.wts,aF,bS,cZ,dX,aW,List.length_cons,List.length_nil];omega) (by assumption) (by assumption) (by assumption)
theorem I1{Q:R}{bm bt nb k r a w d:Nat}{t:List UInt8}{th le:Int}{se tx at_ lo:Bool}{o:Option Nat}{ar:List aM}{ns:Bool}(hq:QS Q bm bt k t w)(ht:t.length<2^40)(ha:a≤t.length)(ho:o=none→ar=[])(hk:k≤ar.length)(hU:cP d)(hd:k+(d+1)≤900)(hb1:100≤bN d)(hb2:bN d≤2^30)(hw:10*bN d≤w)(e1:IntKind.i64.wrap (((d+1:Nat):Int)-1)=(d:Int))(dp:decide ((0:Int)<((d+1:Nat):Int))=true):dH Q ((bt,aP t a)::(nb,⟨11,[dI]⟩)::(bm,cO bt th le se tx at_ lo o k)::am o 1 (ar.map aA)) (.ptr bm 0 0) (.int .i64 ((d+1:Nat):Int)) 10 (.ptr nb 0 0) (.bool ns):=by
 have hE0:=bK 0 (by decide)
 have hE1:=bK 1 (by decide)
 unfold dH cO ja QS dI at *
 cases ns
 all_goals repeat' (first | refine dy (gj ?_ e1) | refine st ?_ | ((with_reducible refine ao 66 ?_);(refine tC rp rp (by assumption) (by assumption) (by omega) (fun b_=>?_))) | ((with_reducible refine ao 67 ?_);(refine vw hU (by first | rfl | assumption) rp rp rp ht (by assumption) (by assumption) (by assumption) (by omega) ?_;rintro a_ th_ le_ se_ tx_ at_ lo_ o_ ar_ l_ hl_ ha_ ho_ hk_;dsimp only[List.cons_append,List.nil_append])) | ((with_reducible refine ao 63 ?_);(first | (refine b7 hE1 (by rfl) ht (by assumption) rp rp (fun x_ a_ hx_ ha_=>?_)) | (refine b7 hE0 (by rfl) ht (by assumption) rp rp (fun x_ a_ hx_ ha_=>?_)))) | ((with_reducible refine ao 25 ?_);refine af (aQ _ _) ?_) | ((with_reducible refine al 25 ?_);refine ab (aQ _ _) ?_) | refine dD (l:=[[109],[110]]) ?_ mm rfl (by simp) | refine cY ?_ (by omega) | refine sb (fun nb_ hnb_=>?_) | refine s2 (fun h=>?_) (fun h=>?_) | fail)
 all_goals first
  | exact hq (aF _ _) _ _ _ _ _ _ _ _ _ _ _ _ _ _ rp rp rp (.refl _) (by simp only[aa.wt,aa.wts,ae.wt,ae.wts,aF,bS,cZ,dX,aW,List.length_cons,List.length_nil];omega) (by assumption) (by assumption) (by assumption)
  | exact hq (.mk 5 0 [114] [] [] aW l_ []) _ _ _ _ _ _ _ _ _ _ _ _ _ _ rp rp rp (Fz.aggs (.cons (.refl _) (.cons (.refl _) (.cons (.refl _) (.cons (.refl _) (.cons .nils (.cons (.refl _) (.cons (.refl _) (.cons (.refl _) (.cons .nils (.cons (.refl _) (.cons .nils .nil)))))))))))) (by simp only[aa.wt,aa.wts,ae.wt,ae.wts,aF,bS,cZ,dX,aW,List.length_cons,List.length_nil];omega) (by assumption) (by assumption) (by assumption)
theorem I2{Q:R}{bm bt nb k r a w d:Nat}{t:List UInt8}{th le:Int}{se tx at_ lo:Bool}{o:Option Nat}{ar:List aM}{ns:Bool}(hq:QS Q bm bt k t w)(ht:t.length<2^40)(ha:a≤t.length)(ho:o=none→ar=[])(hk:k≤ar.length)(hU:cP d)(hd:k+(d+1)≤900)(hb1:100≤bN d)(hb2:bN d≤2^30)(hw:10*bN d≤w)(e1:IntKind.i64.wrap (((d+1:Nat):Int)-1)=(d:Int))(dp:decide ((0:Int)<((d+1:Nat):Int))=true):dH Q ((bt,aP t a)::(nb,⟨11,[dI]⟩)::(bm,cO bt th le se tx at_ lo o k)::am o 1 (ar.map aA)) (.ptr bm 0 0) (.int .i64 ((d+1:Nat):Int)) 11 (.ptr nb 0 0) (.bool ns):=by
 have hE0:=bK 0 (by decide)
 have hE1:=bK 1 (by decide)
 unfold dH cO ja QS dI at *
 cases ns
 all_goals repeat' (first | refine dy (gj ?_ e1) | refine st ?_ | ((with_reducible refine ao 66 ?_);(refine tC rp rp (by assumption) (by assumption) (by omega) (fun b_=>?_))) | ((with_reducible refine ao 67 ?_);(refine vw hU (by first | rfl | assumption) rp rp rp ht (by assumption) (by assumption) (by assumption) (by omega) ?_;rintro a_ th_ le_ se_ tx_ at_ lo_ o_ ar_ l_ hl_ ha_ ho_ hk_;dsimp only[List.cons_append,List.nil_append])) | ((with_reducible refine ao 63 ?_);(first | (refine b7 hE1 (by rfl) ht (by assumption) rp rp (fun x_ a_ hx_ ha_=>?_)) | (refine b7 hE0 (by rfl) ht (by assumption) rp rp (fun x_ a_ hx_ ha_=>?_)))) | ((with_reducible refine ao 25 ?_);refine af (aQ _ _) ?_) | ((with_reducible refine al 25 ?_);refine ab (aQ _ _) ?_) | refine dD (l:=[[109],[110]]) ?_ mm rfl (by simp) | refine cY ?_ (by omega) | refine sb (fun nb_ hnb_=>?_) | refine s2 (fun h=>?_) (fun h=>?_) | fail)
 all_goals first
  | exact hq (aF _ _) _ _ _ _ _ _ _ _ _ _ _ _ _ _ rp rp rp (.refl _) (by simp only[aa.wt,aa.wts,ae.wt,ae.wts,aF,bS,cZ,dX,aW,List.length_cons,List.length_nil];omega) (by assumption) (by assumption) (by assumption)
  | exact hq (.mk 6 0 [114] [] [] aW l_ []) _ _ _ _ _ _ _ _ _ _ _ _ _ _ rp rp rp (Fz.aggs (.cons (.refl _) (.cons (.refl _) (.cons (.refl _) (.cons (.refl _) (.cons .nils (.cons (.refl _) (.cons (.refl _) (.cons (.refl _) (.cons .nils (.cons (.refl _) (.cons .nils .nil)))))))))))) (by simp only[aa.wt,aa.wts,ae.wt,ae.wts,aF,bS,cZ,dX,aW,List.length_cons,List.length_nil];omega) (by assumption) (by assumption) (by assumption)
theorem I3{Q:R}{bm bt nb k r a w d:Nat}{t:List UInt8}{th le:Int}{se tx at_ lo:Bool}{o:Option Nat}{ar:List aM}{ns:Bool}(hq:QS Q bm bt k t w)(ht:t.length<2^40)(ha:a≤t.length)(ho:o=none→ar=[])(hk:k≤ar.length)(hU:cP d)(hd:k+(d+1)≤900)(hb1:100≤bN d)(hb2:bN d≤2^30)(hw:10*bN d≤w)(e1:IntKind.i64.wrap (((d+1:Nat):Int)-1)=(d:Int))(dp:decide ((0:Int)<((d+1:Nat):Int))=true)(hU0:cP 0)(hb0:bN 0=100):dH Q ((bt,aP t a)::(nb,⟨11,[dI]⟩)::(bm,cO bt th le se tx at_ lo o k)::am o 1 (ar.map aA)) (.ptr bm 0 0) (.int .i64 ((d+1:Nat):Int)) 12 (.ptr nb 0 0) (.bool ns):=by
 have hE0:=bK 0 (by decide)
 have hE1:=bK 1 (by decide)
 unfold dH cO ja QS dI at *
 cases ns
 all_goals repeat' (first | refine dy (cj ?_ (GQ (by omega))) | refine st ?_ | ((with_reducible refine ao 23 ?_);(refine eq ht (by assumption) rp (fun r_ a_ hr_ ha_=>?_))) | ((with_reducible refine ao 24 ?_);(refine z8 (n:=1+r_) hU0 (by first | rfl | assumption) (by rfl) (by omega) rp rp rp ht (by assumption) (by assumption) (by assumption) (by omega) ?_;rintro a_ th_ le_ se_ tx_ at_ lo_ o_ ar_ l_ hl_ ha_ ho_ hk_;dsimp only[List.cons_append,List.nil_append])) | ((with_reducible refine ao 63 ?_);(first | (refine b7 hE1 (by rfl) ht (by assumption) rp rp (fun x_ a_ hx_ ha_=>?_)) | (refine b7 hE0 (by rfl) ht (by assumption) rp rp (fun x_ a_ hx_ ha_=>?_)))) | ((with_reducible refine ao 25 ?_);refine af (aQ _ _) ?_) | ((with_reducible refine al 25 ?_);refine ab (aQ _ _) ?_) | refine sb (fun nb_ hnb_=>?_) | refine s2 (fun h=>?_) (fun h=>?_) | fail)
 all_goals first
  | exact hq (aF _ _) _ _ _ _ _ _ _ _ _ _ _ _ _ _ rp rp rp (.refl _) (by simp only[aa.wt,aa.wts,ae.wt,ae.wts,aF,bS,cZ,dX,aW,List.length_cons,List.length_nil];omega) (by assumption) (by assumption) (by assumption)
  | exact hq (.mk 7 0 [] [] [] aW l_ []) _ _ _ _ _ _ _ _ _ _ _ _ _ _ rp rp rp (Fz.aggs (.cons (.refl _) (.cons (.refl _) (.cons (.refl _) (.cons (.refl _) (.cons .nils (.cons (.refl _) (.cons (.refl _) (.cons (.refl _) (.cons .nils (.cons (.refl _) (.cons .nils .nil)))))))))))) (by simp only[aa.wt,aa.wts,ae.wt,ae.wts,aF,bS,cZ,dX,aW,List.length_cons,List.length_nil];have:=Nat.mul_le_mul_right (bN 0) (show 1+r_≤2 by omega);omega) (by assumption) (by assumption) (by assumption)
theorem I4{Q:R}{bm bt nb k r a w d:Nat}{t:List UInt8}{th le:Int}{se tx at_ lo:Bool}{o:Option Nat}{ar:List aM}{ns:Bool}(hq:QS Q bm bt k t w)(ht:t.length<2^40)(ha:a≤t.length)(ho:o=none→ar=[])(hk:k≤ar.length)(hU:cP d)(hd:k+(d+1)≤900)(hb1:100≤bN d)(hb2:bN d≤2^30)(hw:10*bN d≤w)(e1:IntKind.i64.wrap (((d+1:Nat):Int)-1)=(d:Int))(dp:decide ((0:Int)<((d+1:Nat):Int))=true):dH Q ((bt,aP t a)::(nb,⟨11,[dI]⟩)::(bm,cO bt th le se tx at_ lo o k)::am o 1 (ar.map aA)) (.ptr bm 0 0) (.int .i64 ((d+1:Nat):Int)) 13 (.ptr nb 0 0) (.bool ns):=by
 have hE0:=bK 0 (by decide)
 have hE1:=bK 1 (by decide)
 unfold dH cO ja QS dI at *
 cases ns
 all_goals repeat' (first | refine dy (gj ?_ e1) | refine st ?_ | ((with_reducible refine ao 24 ?_);(refine z8 (n:=2) hU (by first | rfl | assumption) (by rfl) (by omega) rp rp rp ht (by assumption) (by assumption) (by assumption) (by omega) ?_;rintro a_ th_ le_ se_ tx_ at_ lo_ o_ ar_ l_ hl_ ha_ ho_ hk_;dsimp only[List.cons_append,List.nil_append])) | ((with_reducible refine ao 63 ?_);(first | (refine b7 hE1 (by rfl) ht (by assumption) rp rp (fun x_ a_ hx_ ha_=>?_)) | (refine b7 hE0 (by rfl) ht (by assumption) rp rp (fun x_ a_ hx_ ha_=>?_)))) | ((with_reducible refine ao 25 ?_);refine af (aQ _ _) ?_) | ((with_reducible refine al 25 ?_);refine ab (aQ _ _) ?_) | refine sb (fun nb_ hnb_=>?_) | refine s2 (fun h=>?_) (fun h=>?_) | fail)
 all_goals first
  | exact hq (aF _ _) _ _ _ _ _ _ _ _ _ _ _ _ _ _ rp rp rp (.refl _) (by simp only[aa.wt,aa.wts,ae.wt,ae.wts,aF,bS,cZ,dX,aW,List.length_cons,List.length_nil];omega) (by assumption) (by assumption) (by assumption)
  | exact hq (.mk 8 0 [] [] [] aW l_ []) _ _ _ _ _ _ _ _ _ _ _ _ _ _ rp rp rp (Fz.aggs (.cons (.refl _) (.cons (.refl _) (.cons (.refl _) (.cons (.refl _) (.cons .nils (.cons (.refl _) (.cons (.refl _) (.cons (.refl _) (.cons .nils (.cons (.refl _) (.cons .nils .nil)))))))))))) (by simp only[aa.wt,aa.wts,ae.wt,ae.wts,aF,bS,cZ,dX,aW,List.length_cons,List.length_nil];omega) (by assumption) (by assumption) (by assumption)
theorem I5{Q:R}{bm bt nb k r a w d:Nat}{t:List UInt8}{th le:Int}{se tx at_ lo:Bool}{o:Option Nat}{ar:List aM}{ns:Bool}(hq:QS Q bm bt k t w)(ht:t.length<2^40)(ha:a≤t.length)(ho:o=none→ar=[])(hk:k≤ar.length)(hU:cP d)(hd:k+(d+1)≤900)(hb1:100≤bN d)(hb2:bN d≤2^30)(hw:10*bN d≤w)(e1:IntKind.i64.wrap (((d+1:Nat):Int)-1)=(d:Int))(dp:decide ((0:Int)<((d+1:Nat):Int))=true):dH Q ((bt,aP t a)::(nb,⟨11,[dI]⟩)::(bm,cO bt th le se tx at_ lo o k)::am o 1 (ar.map aA)) (.ptr bm 0 0) (.int .i64 ((d+1:Nat):Int)) 14 (.ptr nb 0 0) (.bool ns):=by
 have hE0:=bK 0 (by decide)
 have hE1:=bK 1 (by decide)
 unfold dH cO ja QS dI at *
 cases ns
 all_goals repeat' (first | refine st ?_ | ((with_reducible refine ao 66 ?_);(refine tC rp rp (by assumption) (by assumption) (by omega) (fun b_=>?_))) | ((with_reducible refine ao 65 ?_);refine af (io _) ?_) | ((with_reducible refine al 65 ?_);refine ab (io _) ?_) | ((with_reducible refine ao 63 ?_);(first | (refine b7 hE1 (by rfl) ht (by assumption) rp rp (fun x_ a_ hx_ ha_=>?_)) | (refine b7 hE0 (by rfl) ht (by assumption) rp rp (fun x_ a_ hx_ ha_=>?_)))) | ((with_reducible refine ao 25 ?_);refine af (aQ _ _) ?_) | ((with_reducible refine al 25 ?_);refine ab (aQ _ _) ?_) | refine sb (fun nb_ hnb_=>?_) | refine s2 (fun h=>?_) (fun h=>?_) | fail)
 all_goals first
  | exact hq (aF _ _) _ _ _ _ _ _ _ _ _ _ _ _ _ _ rp rp rp (.refl _) (by simp only[aa.wt,aa.wts,ae.wt,ae.wts,aF,bS,cZ,dX,aW,List.length_cons,List.length_nil];omega) (by assumption) (by assumption) (by assumption)
  | exact hq (.mk 4 0 [109] [] [] aW [gX 9 [99],aF [97] (bS [120])] []) _ _ _ _ _ _ _ _ _ _ _ _ _ _ rp rp rp (Fz.aggs (.cons (.refl _) (.cons (.refl _) (.cons (.refl _) (.cons (.refl _) (.cons .nils (.cons (.refl _) (.cons (.refl _) (.cons (.refl _) (.cons .nils (.cons (xt [(yD 9 [99],gX 9 [99]),((aF [97] (bS [120])).row,aF [97] (bS [120]))] (.head _) (by rfl) (by rfl) (by simp[yD,aa.row]) (List.forall_mem_cons.2 ⟨Ci,List.forall_mem_cons.2 ⟨fun q a a2 h1 h2=>by rw[h1]at h2;cases h2;exact .refl _,nofun⟩⟩)) (.cons .nils .nil)))))))))))) (by simp only[aa.wt,aa.wts,ae.wt,ae.wts,aF,bS,cZ,dX,aW,gX,List.length_cons,List.length_nil];omega) (by assumption) (by assumption) (by assumption)
theorem I6{Q:R}{bm bt nb k r a w d:Nat}{t:List UInt8}{th le:Int}{se tx at_ lo:Bool}{o:Option Nat}{ar:List aM}{ns:Bool}(hq:QS Q bm bt k t w)(ht:t.length<2^40)(ha:a≤t.length)(ho:o=none→ar=[])(hk:k≤ar.length)(hU:cP d)(hd:k+(d+1)≤900)(hb1:100≤bN d)(hb2:bN d≤2^30)(hw:10*bN d≤w)(e1:IntKind.i64.wrap (((d+1:Nat):Int)-1)=(d:Int))(dp:decide ((0:Int)<((d+1:Nat):Int))=true):dH Q ((bt,aP t a)::(nb,⟨11,[dI]⟩)::(bm,cO bt th le se tx at_ lo o k)::am o 1 (ar.map aA)) (.ptr bm 0 0) (.int .i64 ((d+1:Nat):Int)) 15 (.ptr nb 0 0) (.bool ns):=by
 have hE0:=bK 0 (by decide)
 have hE1:=bK 1 (by decide)
 unfold dH cO ja QS dI at *
 cases ns
 all_goals repeat' (first | refine st ?_ | ((with_reducible refine ao 66 ?_);(refine tC rp rp (by assumption) (by assumption) (by omega) (fun b_=>?_))) | ((with_reducible refine ao 23 ?_);(refine eq ht (by assumption) rp (fun r_ a_ hr_ ha_=>?_))) | ((with_reducible refine ao 63 ?_);(first | (refine b7 hE1 (by rfl) ht (by assumption) rp rp (fun x_ a_ hx_ ha_=>?_)) | (refine b7 hE0 (by rfl) ht (by assumption) rp rp (fun x_ a_ hx_ ha_=>?_)))) | ((with_reducible refine ao 25 ?_);refine af (aQ _ _) ?_) | ((with_reducible refine al 25 ?_);refine ab (aQ _ _) ?_) | refine sb (fun nb_ hnb_=>?_) | refine s2 (fun h=>?_) (fun h=>?_) | fail)
 all_goals first
  | exact hq (aF _ _) _ _ _ _ _ _ _ _ _ _ _ _ _ _ rp rp rp (.refl _) (by simp only[aa.wt,aa.wts,ae.wt,ae.wts,aF,bS,cZ,dX,aW,List.length_cons,List.length_nil];omega) (by assumption) (by assumption) (by assumption)
  | exact hq (.mk 4 0 [109] [] [] aW [gX (IntKind.i64.wrap (10+(r_:Int))) [99]] []) _ _ _ _ _ _ _ _ _ _ _ _ _ _ rp rp rp (Fz.aggs (.cons (.refl _) (.cons (.refl _) (.cons (.refl _) (.cons (.refl _) (.cons .nils (.cons (.refl _) (.cons (.refl _) (.cons (.refl _) (.cons .nils (.cons (xt [(yD (IntKind.i64.wrap (10+(r_:Int))) [99],gX (IntKind.i64.wrap (10+(r_:Int))) [99])] (.head _) (by rfl) (by rfl) (by simp[yD]) (List.forall_mem_cons.2 ⟨Ci,nofun⟩)) (.cons .nils .nil)))))))))))) (by simp only[aa.wt,aa.wts,ae.wt,ae.wts,aF,bS,cZ,dX,aW,gX,List.length_cons,List.length_nil];omega) (by assumption) (by assumption) (by assumption)
theorem Fw{Q:R}{bm bt nb k r a w d:Nat}{t:List UInt8}{th le:Int}{se tx at_ lo:Bool}{o:Option Nat}{ar:List aM}{ns:Bool}(hq:QS Q bm bt k t w)(ht:t.length<2^40)(ha:a≤t.length)(ho:o=none→ar=[])(hk:k≤ar.length)(hw:100≤w){t1:AV}:dH Q ((bt,aP t a)::(nb,⟨11,[dI]⟩)::(bm,cO bt th le se tx at_ lo o k)::am o 1 (ar.map aA)) (.ptr bm 0 0) t1 16 (.ptr nb 0 0) (.bool ns):=by
 have hE0:=bK 0 (by decide)
 have hE1:=bK 1 (by decide)
 unfold dH cO ja QS dI at *
 repeat' (first | refine st ?_ | ((with_reducible refine ao 23 ?_);(refine eq ht (by assumption) rp (fun r_ a_ hr_ ha_=>?_))) | ((with_reducible refine ao 63 ?_);(first | (refine b7 hE1 (by rfl) ht (by assumption) rp rp (fun x_ a_ hx_ ha_=>?_)) | (refine b7 hE0 (by rfl) ht (by assumption) rp rp (fun x_ a_ hx_ ha_=>?_)))) | ((with_reducible refine ao 25 ?_);refine af (aQ _ _) ?_) | ((with_reducible refine al 25 ?_);refine ab (aQ _ _) ?_) | refine sb (fun nb_ hnb_=>?_) | refine s2 (fun h=>?_) (fun h=>?_) | fail)
 all_goals first
  | exact hq (aF _ _) _ _ _ _ _ _ _ _ _ _ _ _ _ _ rp rp rp (.refl _) (by simp only[aa.wt,aa.wts,ae.wt,ae.wts,aF,bS,cZ,dX,aW,List.length_cons,List.length_nil];omega) (by assumption) (by assumption) (by assumption)
  | exact hq (.mk 14 0 [102] [] [] x_ [] []) _ _ _ _ _ _ _ _ _ _ _ _ _ _ rp rp rp (Fz.aggs (.cons (.refl _) (.cons (.refl _) (.cons (.refl _) (.cons (.refl _) (.cons .nils (.cons (.refl _) (.cons (.refl _) (.cons (.refl _) (.cons (.refl _) (.cons .nils (.cons .nils .nil)))))))))))) (by simp only[aa.wt,aa.wts,ae.wt,ae.wts,aF,bS,cZ,dX,aW,List.length_cons,List.length_nil];omega) (by assumption) (by assumption) (by assumption)
theorem Fx{Q:R}{bm bt nb k r a w d:Nat}{t:List UInt8}{th le:Int}{se tx at_ lo:Bool}{o:Option Nat}{ar:List aM}{ns:Bool}(hq:QS Q bm bt k t w)(ht:t.length<2^40)(ha:a≤t.length)(ho:o=none→ar=[])(hk:k≤ar.length)(hw:100≤w){t1:AV}:dH Q ((bt,aP t a)::(nb,⟨11,[dI]⟩)::(bm,cO bt th le se tx at_ lo o k)::am o 1 (ar.map aA)) (.ptr bm 0 0) t1 17 (.ptr nb 0 0) (.bool ns):=by
 have hE0:=bK 0 (by decide)
 have hE1:=bK 1 (by decide)
 unfold dH cO ja QS dI at *
 repeat' (first | refine st ?_ | ((with_reducible refine ao 23 ?_);(refine eq ht (by assumption) rp (fun r_ a_ hr_ ha_=>?_))) | ((with_reducible refine ao 63 ?_);(first | (refine b7 hE1 (by rfl) ht (by assumption) rp rp (fun x_ a_ hx_ ha_=>?_)) | (refine b7 hE0 (by rfl) ht (by assumption) rp rp (fun x_ a_ hx_ ha_=>?_)))) | ((with_reducible refine ao 25 ?_);refine af (aQ _ _) ?_) | ((with_reducible refine al 25 ?_);refine ab (aQ _ _) ?_) | refine sb (fun nb_ hnb_=>?_) | refine s2 (fun h=>?_) (fun h=>?_) | fail)
 all_goals first
  | exact hq (aF _ _) _ _ _ _ _ _ _ _ _ _ _ _ _ _ rp rp rp (.refl _) (by simp only[aa.wt,aa.wts,ae.wt,ae.wts,aF,bS,cZ,dX,aW,List.length_cons,List.length_nil];omega) (by assumption) (by assumption) (by assumption)
  | exact hq (.mk 15 0 [97] [102] [] aW [] []) _ _ _ _ _ _ _ _ _ _ _ _ _ _ rp rp rp (Fz.aggs (.cons (.refl _) (.cons (.refl _) (.cons (.refl _) (.cons (.refl _) (.cons .nils (.cons (.refl _) (.cons (.refl _) (.cons (.refl _) (.cons .nils (.cons .nils (.cons .nils .nil)))))))))))) (by simp only[aa.wt,aa.wts,ae.wt,ae.wts,aF,bS,cZ,dX,aW,List.length_cons,List.length_nil];omega) (by assumption) (by assumption) (by assumption)
end Go.Proofs.YtljkdffikfkcgaaGreat.Am
end
