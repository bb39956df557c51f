/- A part of the proof; the statement is proved in the last part. -/
import Derived.Test.YtdnpdghlggbklaaGreatDoorQtB
set_option linter.unusedSimpArgs false
set_option linter.unusedVariables false
namespace Go.Proofs.YtdnpdghlggbklaaGreatDoor.Am
section
set_option maxRecDepth 100000
theorem Vf(o:Option Nat)(l:List bC)(k:Nat)(R:SH)(x:bC)(h0:o=none→l=[])(hk:k≤l.length)(hl:k<2^62):
  af Tryz.prog 90 [ao o k,.str x] (ae o 1 (l.map av)++R) λu K=>∃r:Int,u=.ZO r∧K=ae o 1 (l.map av)++R:=by
 refine qM _ _ _ _ ?_;unfold og;generalize hL:ae o 1 (l.map av)++R=L;generalize hQ:(λ(u:AV) (K:SH)=>∃r:Int,u=AV.ZO r∧K=L)=Q;have hq:∀r:Int,Q (.ZO r) L:=λr=>by subst hQ;exact⟨r,rfl,rfl⟩
 clear hQ;subst hL;cases o with
 |none=>
  have:=h0 rfl;subst this;obtain rfl:k=0:=by simpa using hk
  dsimp only[ae,ao,List.nil_append]at *;refine mu 0 (λ_=>True) (λi=>[.emp,.str x,.ZO i]) ZJ trivial rfl (λi h1 hd hi _ nx hn=>by omega) (λi h1 hd _ nx=>?_);unfold ge
  repeat' (first|refine st ?_|refine sb λnb_ hnb_=>?_|refine s2 (λh=>?_) λh=>?_|fail)
  exact hq _
 |some b1=>
  dsimp only[ae,ao,List.cons_append,List.nil_append]at *;refine mu k (λ_=>True) (λi=>[.sl b1 0 k,.str x,.ZO i]) ZJ trivial rfl (λi h1 hd hi _ nx hn=>?_) (λi h1 hd _ nx=>?_)
  all_goals unfold ge
  ·have hx:=ay (f:=av) (l:=l) (i:=i) ZJ
   repeat' (first|refine st ?_|refine sb λnb_ hnb_=>?_|refine s2 (λh=>?_) λh=>?_|fail)
   all_goals first
    |exact hq _
    |exact hn trivial
  ·repeat' (first|refine st ?_|refine sb λnb_ hnb_=>?_|refine s2 (λh=>?_) λh=>?_|fail)
   exact hq _
def dx(bt:Nat)(th le:Int)(se tx at_ lo:Bool)(o:Option Nat)(k:Nat):Blk:=mX bt (.ZO th) (.ZO le) (.bool se) (.bool tx) (.bool at_) (.bool lo) (ao o k)
def VA(f:FuncId)(args:List AV)(d:Nat)(good:AV→Prop):Prop:=∀(bm bt:Nat) (t:List UInt8) (a:Nat) (th le:Int) (se tx at_ lo:Bool) (o:Option Nat) (ar:List bC) (k:Nat),t.length<2^40→a≤t.length→(o=none→ar=[])→k≤ar.length→k+d≤900→
 af Tryz.prog f (.ptr bm 0 0::args) ((bm,dx bt th le se tx at_ lo o k)::(bt,aR t a)::ae o 1 (ar.map av)) λu K=>∃(v:AV) (a':Nat) (th' le':Int) (se' tx' at' lo':Bool) (o':Option Nat) (ar':List bC),u=v∧good v∧a'≤t.length∧(o'=none→ar'=[])∧k≤ar'.length∧K=(bm,dx bt th' le' se' tx' at' lo' o' k)::(bt,aR t a')::ae o' 1 (ar'.map av)
theorem nr{b1 b2:Nat}{x1 x2:Blk}{o:Option Nat}{n:Nat}{rows:List (List AV)}{L L1 L2 L3:SH}(h1:eP b1 x1 L L1)(h2:eP b2 x2 L1 L2)(h3:dW o n rows L2 L3):L.Perm (((b1,x1)::(b2,x2)::ae o n rows)++L3):=
 h1.perm.trans ((h2.perm.trans ((h3.perm).cons _)).cons _)
section
variable {f:FuncId} {args:List AV} {d:Nat} {good:AV→Prop} {bm bt:Nat} {t:List UInt8} {a:Nat} {th le:Int} {se tx at_ lo:Bool} {o:Option Nat} {ar:List bC} {k:Nat} {L L1 L2 L3:SH}
theorem Nt{KL:R}(h:VA f args d good)(h1:eP bm (dx bt th le se tx at_ lo o k) L L1)(h2:eP bt (aR t a) L1 L2)(h3:dW o 1 (ar.map av) L2 L3)(ht:t.length<2^40)(ha:a≤t.length)(ho:o=none→ar=[])(hk:k≤ar.length)(hd:k+d≤900)
  (hq:∀(v:AV) (a':Nat) (th' le':Int) (se' tx' at' lo':Bool) (o':Option Nat) (ar':List bC),good v→a'≤t.length→(o'=none→ar'=[])→k≤ar'.length→KL v ((bm,dx bt th' le' se' tx' at' lo' o' k)::(bt,aR t a')::(ae o' 1 (ar'.map av)++L3))):W.callM Tryz.prog f (.ptr bm 0 0::args) L KL:=by
 refine If (h bm bt t a th le se tx at_ lo o ar k ht ha ho hk hd) (nr h1 h2 h3) ?_;rintro _ _ ⟨v,a',th',le',se',tx',at',lo',o',ar',rfl,q1,q2,q3,q4,rfl⟩;exact hq _ a' th' le' se' tx' at' lo' o' ar' q1 q2 q3 q4
theorem Rb{i:Nat}{us:List W.WR}{KN:AV→SH→List Nat→Prop}(h:VA f args d good)(h1:eP bm (dx bt th le se tx at_ lo o k) L L1)(h2:eP bt (aR t a) L1 L2)(h3:dW o 1 (ar.map av) L2 L3)(ht:t.length<2^40)(ha:a≤t.length)(ho:o=none→ar=[])(hk:k≤ar.length)(hd:k+d≤900)
  (hf:∀y∈us,W.free y ⟨i,[],SH.names ((bm,dx bt th le se tx at_ lo o k)::(bt,aR t a)::ae o 1 (ar.map av)),[],true,[]⟩)
  (hq:∀(v:AV) (a':Nat) (th' le':Int) (se' tx' at' lo':Bool) (o':Option Nat) (ar':List bC) (ks:List Nat),good v→a'≤t.length→(o'=none→ar'=[])→k≤ar'.length→KN v ((bm,dx bt th' le' se' tx' at' lo' o' k)::(bt,aR t a')::(ae o' 1 (ar'.map av)++L3)) ks):W.dcallM Tryz.prog us i f (.ptr bm 0 0::args) L KN:=by
 refine⟨_,L3,nr h1 h2 h3,hf,(h bm bt t a th le se tx at_ lo o ar k ht ha ho hk hd).mono ?_⟩;rintro _ _ ⟨v,a',th',le',se',tx',at',lo',o',ar',rfl,q1,q2,q3,q4,rfl⟩;exact hq _ a' th' le' se' tx' at' lo' o' ar' _ q1 q2 q3 q4
theorem Gs{v v2:AV}{x1 x2:Blk}{rows:List (List AV)}(h1:eP bm x1 L L1)(h2:eP bt x2 L1 L2)(h3:dW o 1 rows L2 L3)(hv:Fz L3 v v2):aG [v] L [v2] ((bm,x1)::(bt,x2)::ae o 1 rows):=by
 refine .drop (K:=L3) ((nr h1 h2 h3).trans YD) rfl λi a a2 e1 e2=>?_
 match i with
 |0=>cases e1;cases e2;exact hv
 |i+1=>simp at e1
end
def cB(d:Nat):Nat:=100*10^d
def Rc(d:Nat)(v:AV):Prop:=∃x:ab,v=.agg x.row∧x.wt≤cB d
def Gt(n:Nat)(v:AV):Prop:=∃l:List ab,v=.lst (l.map ab.enc)∧ab.wts l≤n
def Rd(d:Nat):Prop:=VA 62 [.ZO (d:Int)] d (Rc d)
def Re(d:Nat):Prop:=∀n:Nat,n≤10→VA 35 [.ZO (d:Int),.ZO (n:Int)] d (Gt (n*cB d))
def Vg(d:Nat):Prop:=∀s:bC,VA 101 [.str s,.ZO (d:Int)] (d+1) (Gt (2*cB d))
theorem Gu(l:List ab)(x:ab):ab.wts (l++[x])=ab.wts l+x.wt:=by
 induction l with
 |nil=>simp[ab.wts]
 |cons y l ih=>simp only[Zn,ab.wts,ih];omega
def dy(d:Nat):Prop:=∀n:Nat,n≤10→∀(bm bt:Nat) (t:List UInt8) (a:Nat) (th le:Int) (se tx at_ lo:Bool) (o:Option Nat) (ar:List bC) (k:Nat),t.length<2^40→a≤t.length→(o=none→ar=[])→k≤ar.length→k+d≤900→
 af Tryz.prog 35 [.ptr bm 0 0,.ZO (d:Int),.ZO (n:Int)] ((bm,dx bt th le se tx at_ lo o k)::(bt,aR t a)::ae o 1 (ar.map av)) λu K=>∃(a':Nat) (th' le':Int) (se' tx' at' lo':Bool) (o':Option Nat) (ar':List bC) (l:List ab) (ol:Option Nat),u=ao ol l.length∧(ol=none→l=[])∧ab.wts l≤n*cB d∧a'≤t.length∧(o'=none→ar'=[])∧k≤ar'.length∧K=(bm,dx bt th' le' se' tx' at' lo' o' k)::(bt,aR t a')::(ae o' 1 (ar'.map av)++ae ol 11 (l.map ab.enc))
theorem I9(d:Nat)(hS:Rd d):dy d:=by
  intro n hn bm bt t a th le se tx at_ lo o ar k ht ha ho hk hd;refine ss _ _ _ _ _ ?_;unfold kf;generalize hQ:(λ(u:AV) (K:SH)=>∃(a':Nat) (th' le':Int) (se' tx' at' lo':Bool) (o':Option Nat) (ar':List bC) (l:List ab) (ol:Option Nat),u=ao ol l.length∧(ol=none→l=[])∧ab.wts l≤n*cB d∧a'≤t.length∧(o'=none→ar'=[])∧k≤ar'.length∧K=(bm,dx bt th' le' se' tx' at' lo' o' k)::(bt,aR t a')::(ae o' 1 (ar'.map av)++ae ol 11 (l.map ab.enc)))=Q;have hq:∀(l:List ab) (ol:Option Nat) (a':Nat) (th' le':Int) (se' tx' at' lo':Bool) (o':Option Nat) (ar':List bC),(ol=none→l=[])→ab.wts l≤n*cB d→a'≤t.length→(o'=none→ar'=[])→k≤ar'.length→Q (ao ol l.length) ((bm,dx bt th' le' se' tx' at' lo' o' k)::(bt,aR t a')::(ae o' 1 (ar'.map av)++ae ol 11 (l.map ab.enc))):=λl ol a' th' le' se' tx' at' lo' o' ar' h4 h5 h6 h7 h8=>by subst hQ;exact⟨a',th',le',se',tx',at',lo',o',ar',l,ol,rfl,h4,h5,h6,h7,h8,rfl⟩
  clear hQ;refine bW (β:=Nat×Int×Int×Bool×Bool×Bool×Bool×Option Nat×List bC×Option Nat×List ab) n (λi ⟨a,th,le,se,tx,at_,lo,o,ar,ol,xs⟩=>([.ptr bm 0 0,.ZO d,.ZO n,ao ol i,.ZO i],(bm,dx bt th le se tx at_ lo o k)::(bt,aR t a)::(ae o 1 (ar.map av)++ae ol 11 (xs.map ab.enc))))
    (λi ⟨a,th,le,se,tx,at_,lo,o,ar,ol,xs⟩=>a≤t.length∧(o=none→ar=[])∧k≤ar.length∧(ol=none→xs=[])∧xs.length=i∧ab.wts xs≤i*cB d) ⟨a,th,le,se,tx,at_,lo,o,ar,none,[]⟩ ⟨ha,ho,hk,λ_=>rfl,rfl,by simp[ab.wts]⟩ ?_ ?_
  · exact aG.vals (.cons (.refl _) (.cons (.refl _) (.cons (.refl _) (.cons .nile (.cons (.refl _) .nil))))) |> λh=>by simpa[ao,ae]using h
  · rintro i ⟨a,th,le,se,tx,at_,lo,o,ar,ol,xs⟩ hi ⟨ha,ho,hk,hol,hxl,hxw⟩
    dsimp only at ha ho hk hol hxl hxw ⊢;unfold jf;generalize hnx:(λ(vs':List AV) (L':SH)=>_)=nx;have hn:∀(a:Nat) (th le:Int) (se tx at_ lo:Bool) (o:Option Nat) (ar:List bC) (nb:Nat) (x:ab) (L':SH),i<n→gJ L' ((bm,dx bt th le se tx at_ lo o k)::(bt,aR t a)::(ae o 1 (ar.map av)++ae (some nb) 11 ((xs++[x]).map ab.enc)))→a≤t.length→(o=none→ar=[])→k≤ar.length→x.wt≤cB d→nx [.ptr bm 0 0,.ZO d,.ZO n,.sl nb 0 (i+1),.ZO ((i+1:Nat):Int)] L':=by intro a th le se tx at_ lo o ar nb x L' q0 q1 q2 q3 q4 q5;subst hnx;refine⟨i+1,⟨a,th,le,se,tx,at_,lo,o,ar,some nb,xs++[x]⟩,ZJ,ZJ,⟨q2,q3,q4,nofun,by simp;omega,?_⟩,aG.pick q1 rfl⟩;dsimp only;rw[Gu,Nat.add_mul,Nat.one_mul];omega
    clear hnx;subst hxl;have hfin:∀(L:SH) (v:AV),L=(bm,dx bt th le se tx at_ lo o k)::(bt,aR t a)::(ae o 1 (ar.map av)++ae ol 11 (xs.map ab.enc))→v=ao ol xs.length→Q v L:=by rintro _ _ rfl rfl;exact hq xs ol a th le se tx at_ lo o ar hol (Yn hxw (Yt _ hi)) ha ho hk
    rcases X9 xs.length n with g|g
    · have hd1:=bE g
      have hi1:=aA g ZJ;unfold dx mX at hfin ⊢
      repeat' (first|refine st ?_|((with_reducible refine bz 62 ?_);(refine Nt hS rp rp rp ht ZK ZK ZK hd ?_;rintro _ a_ th_ le_ se_ tx_ at_ lo_ o_ ar_ ⟨x_,rfl,hx_⟩ ha_ ho_ hk_))|refine cx rp rp ZM (λe=>by first|simp[hol e]) ZL ZM (by simp;omega) (by simp;omega) ZL (λnb_ hnb_=>?_)|refine sb λnb_ hnb_=>?_|refine s2 (λh=>?_) λh=>?_|fail)
      all_goals first
        |exact hfin _ _ rfl rfl
        | (have e_ : ae (some nb_) 11 ((xs ++ [x_]).map ab.enc) = [(nb_, ⟨11, xs.map ab.enc ++ [x_.row]⟩)] := by rw [ae, Yc, Yb, YT, ab.enc_row]
           refine hn a_ th_ le_ se_ tx_ at_ lo_ o_ ar_ nb_ x_ _ g ?_ ha_ ho_ hk_ hx_;rw[e_];exact .one (.there _ (.there _ (.here _))) (.one (.there _ (.there _ (.here _))) (.slot (.there _ (.there _ (.here _))) (.one (.here _) (.nil _)))))
    · have hd1:=bI g
      unfold dx mX at hfin ⊢
      repeat' (first|refine st ?_|refine sb λnb_ hnb_=>?_|refine s2 (λh=>?_) λh=>?_|fail)
      exact hfin _ _ rfl rfl
theorem Ja(d:Nat)(hS:dy d):Re d:=by intro n hn bm bt t a th le se tx at_ lo o ar k ht ha ho hk hd;refine af.fz ((hS n hn bm bt t a th le se tx at_ lo o ar k ht ha ho hk hd).mono ?_);rintro _ _ ⟨a',th',le',se',tx',at',lo',o',ar',l,ol,rfl,h1,h2,h3,h4,h5,rfl⟩;exact⟨_,_,Gs (.here _) (.here _) (.here _) (Fz.slot (f:=ab.enc) (g:=ab.enc) rfl (λe=>by simp[h1 e]) ZN (λ_ _=>rfl) λy _ q a a2 h1 h2=>by rw[h1]at h2;cases h2;exact .refl _),_,a',th',le',se',tx',at',lo',o',ar',rfl,⟨l,rfl,h2⟩,h3,h4,h5,rfl⟩
theorem SI{r:Nat}(h:r<100):IntKind.i64.wrap (1+(r:Int))=((1+r:Nat):Int):=by rw[YU _ ZJ];omega
theorem Gt.le{n m:Nat}{v:AV}(h:Gt n v)(hm:n≤m):Gt m v:=by obtain⟨l,h1,h2⟩:=h;exact⟨l,h1,ZJ⟩
theorem SJ(d:Nat)(hS:Re d):Vg d:=by
 intro s bm bt t a th le se tx at_ lo o ar k ht ha ho hk hd;refine af.fz (sk _ _ _ _ _ ?_);unfold jZ;generalize hQ:(λ(v:AV) (L:SH)=>∃v2 L2,aG [v] L [v2] L2∧∃(v:AV) (a':Nat) (th' le':Int) (se' tx' at' lo':Bool) (o':Option Nat) (ar':List bC),v2=v∧Gt (2*cB d) v∧a'≤t.length∧(o'=none→ar'=[])∧k≤ar'.length∧L2=(bm,dx bt th' le' se' tx' at' lo' o' k)::(bt,aR t a')::ae o' 1 (ar'.map av))=Q;have hq:∀(v:AV) (a':Nat) (th' le':Int) (se' tx' at' lo':Bool) (o':Option Nat) (ar':List bC) (L:SH),Gt (2*cB d) v→gJ L ((bm,dx bt th' le' se' tx' at' lo' o' k)::(bt,aR t a')::ae o' 1 (ar'.map av))→a'≤t.length→(o'=none→ar'=[])→k≤ar'.length→Q v L:=λv a' th' le' se' tx' at' lo' o' ar' L h1 h2 h6 h7 h8=>by subst hQ;exact⟨_,_,aG.pick h2 rfl,_,a',th',le',se',tx',at',lo',o',ar',rfl,h1,h6,h7,h8,rfl⟩
 clear hQ;unfold dx mX
 repeat' (first|refine nK (ue ?_ (SI ZJ))|refine st ?_|refine KT (r:=[.str s]) rp ZL rp (by simpa using hk) (λe=>by simp[ho e]) ZJ ZJ ZL (λnb_ hnb_=>?_)|((with_reducible refine bz 34 ?_);(refine fW ht ZK rp (λr_ a_ hr_ ha_=>?_)))|refine sb λnb_ hnb_=>?_|refine s2 (λh=>?_) λh=>?_|fail)
 have er:List.take k (ar.map av)++[[.str s]]=(ar.take k++[s]).map av:=by rw[Yc,List.map_take];rfl
 rw[er];refine Nt (o:=some nb_) (ar:=ar.take k++[s]) (k:=k+1) (hS (1+r_) ZJ) rp rp (.here _) ht ha_ nofun (by simp[YX hk]) ZJ ?_;intro v a2 th2 le2 se2 tx2 at2 lo2 o2 ar2 hg ha2 ho2 hk2;rcases o2 with _|b2
 ·exfalso;have:=ho2 rfl;subst this;simp at hk2
 unfold je dx mX;dsimp only[ae,ao,List.cons_append,List.nil_append];have es:IntKind.i64.wrap (((k+1:Nat):Int)-1)=(k:Int):=by rw[IntWalk.i64_in _ ZJ];omega
 repeat' (first|refine st ?_|refine BH ?_ (Zu _) rp rfl|refine sb λnb_ hnb_=>?_|refine s2 (λh=>?_) λh=>?_|fail)
 exact hq v a2 th2 le2 se2 tx2 at2 lo2 (some b2) ar2 _ (hg.le (Yt _ ZJ)) (.one (.here _) (.one (.here _) (.one (.here _) (.nil _)))) ha2 nofun ZJ
end
end Go.Proofs.YtdnpdghlggbklaaGreatDoor.Am
