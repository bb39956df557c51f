/- A part of the proof; the statement is proved in the last part. -/
import Derived.Test.YtdnpdghlggbklaaGreatDoorQsA
set_option linter.unusedSimpArgs false
set_option linter.unusedVariables false
namespace Go.Proofs.YtdnpdghlggbklaaGreatDoor.Am
section
set_option maxRecDepth 100000
theorem S3(o:Option Nat)(l:List aZ)(k:Nat)(R:SH)(x:aZ)(h0:o=none→l=[])(hk:k≤l.length)(hl:k<2^62):
  af Tryz.prog 90 [am o k,.str x] (ae o 1 (l.map aq)++R) λu K=>∃r:Int,u=.Xw r∧K=ae o 1 (l.map aq)++R:=by
 refine pJ _ _ _ _ ?_;unfold mV;generalize hL:ae o 1 (l.map aq)++R=L;generalize hQ:(λ(u:AV) (K:SH)=>∃r:Int,u=AV.Xw r∧K=L)=Q;have hq:∀r:Int,Q (.Xw r) L:=λr=>by subst hQ;exact⟨r,rfl,rfl⟩
 clear hQ;subst hL;cases o with
 |none=>
  have:=h0 rfl;subst this;obtain rfl:k=0:=by simpa using hk
  dsimp only[ae,am,List.nil_append]at *;refine ph 0 (λ_=>True) (λi=>[.emp,.str x,.Xw i]) Xr trivial rfl (λi h1 hd hi _ nx hn=>by omega) (λi h1 hd _ nx=>?_);unfold fI
  repeat' (first|refine st ?_|refine sb λnb_ hnb_=>?_|refine s2 (λh=>?_) λh=>?_|fail)
  exact hq _
 |some b1=>
  dsimp only[ae,am,List.cons_append,List.nil_append]at *;refine ph k (λ_=>True) (λi=>[.sl b1 0 k,.str x,.Xw i]) Xr trivial rfl (λi h1 hd hi _ nx hn=>?_) (λi h1 hd _ nx=>?_)
  all_goals unfold fI
  ·have hx:=ay (f:=aq) (l:=l) (i:=i) Xr
   repeat' (first|refine st ?_|refine sb λnb_ hnb_=>?_|refine s2 (λh=>?_) λh=>?_|fail)
   all_goals first
    |exact hq _
    |exact hn trivial
  ·repeat' (first|refine st ?_|refine sb λnb_ hnb_=>?_|refine s2 (λh=>?_) λh=>?_|fail)
   exact hq _
def df(bt:Nat)(th le:Int)(se tx at_ lo:Bool)(o:Option Nat)(k:Nat):Blk:=me bt (.Xw th) (.Xw le) (.bool se) (.bool tx) (.bool at_) (.bool lo) (am o k)
def Tn(f:FuncId)(args:List AV)(d:Nat)(good:AV→Prop):Prop:=∀(bm bt:Nat) (t:List UInt8) (a:Nat) (th le:Int) (se tx at_ lo:Bool) (o:Option Nat) (ar:List aZ) (k:Nat),t.length<2^40→a≤t.length→(o=none→ar=[])→k≤ar.length→k+d≤900→
 af Tryz.prog f (.ptr bm 0 0::args) ((bm,df bt th le se tx at_ lo o k)::(bt,aO t a)::ae o 1 (ar.map aq)) λu K=>∃(v:AV) (a':Nat) (th' le':Int) (se' tx' at' lo':Bool) (o':Option Nat) (ar':List aZ),u=v∧good v∧a'≤t.length∧(o'=none→ar'=[])∧k≤ar'.length∧K=(bm,df bt th' le' se' tx' at' lo' o' k)::(bt,aO t a')::ae o' 1 (ar'.map aq)
theorem mj{b1 b2:Nat}{x1 x2:Blk}{o:Option Nat}{n:Nat}{rows:List (List AV)}{L L1 L2 L3:SH}(h1:eI b1 x1 L L1)(h2:eI b2 x2 L1 L2)(h3:dM o n rows L2 L3):L.Perm (((b1,x1)::(b2,x2)::ae o n rows)++L3):=
 h1.perm.trans ((h2.perm.trans ((h3.perm).cons _)).cons _)
section
variable {f:FuncId} {args:List AV} {d:Nat} {good:AV→Prop} {bm bt:Nat} {t:List UInt8} {a:Nat} {th le:Int} {se tx at_ lo:Bool} {o:Option Nat} {ar:List aZ} {k:Nat} {L L1 L2 L3:SH}
theorem LL{KL:R}(h:Tn f args d good)(h1:eI bm (df bt th le se tx at_ lo o k) L L1)(h2:eI bt (aO t a) L1 L2)(h3:dM o 1 (ar.map aq) L2 L3)(ht:t.length<2^40)(ha:a≤t.length)(ho:o=none→ar=[])(hk:k≤ar.length)(hd:k+d≤900)
  (hq:∀(v:AV) (a':Nat) (th' le':Int) (se' tx' at' lo':Bool) (o':Option Nat) (ar':List aZ),good v→a'≤t.length→(o'=none→ar'=[])→k≤ar'.length→KL v ((bm,df bt th' le' se' tx' at' lo' o' k)::(bt,aO t a')::(ae o' 1 (ar'.map aq)++L3))):W.callM Tryz.prog f (.ptr bm 0 0::args) L KL:=by
 refine GL (h bm bt t a th le se tx at_ lo o ar k ht ha ho hk hd) (mj h1 h2 h3) ?_;rintro _ _ ⟨v,a',th',le',se',tx',at',lo',o',ar',rfl,q1,q2,q3,q4,rfl⟩;exact hq _ a' th' le' se' tx' at' lo' o' ar' q1 q2 q3 q4
theorem O5{i:Nat}{us:List W.WR}{KN:AV→SH→List Nat→Prop}(h:Tn f args d good)(h1:eI bm (df bt th le se tx at_ lo o k) L L1)(h2:eI bt (aO t a) L1 L2)(h3:dM o 1 (ar.map aq) L2 L3)(ht:t.length<2^40)(ha:a≤t.length)(ho:o=none→ar=[])(hk:k≤ar.length)(hd:k+d≤900)
  (hf:∀y∈us,W.free y ⟨i,[],SH.names ((bm,df bt th le se tx at_ lo o k)::(bt,aO t a)::ae o 1 (ar.map aq)),[],true,[]⟩)
  (hq:∀(v:AV) (a':Nat) (th' le':Int) (se' tx' at' lo':Bool) (o':Option Nat) (ar':List aZ) (ks:List Nat),good v→a'≤t.length→(o'=none→ar'=[])→k≤ar'.length→KN v ((bm,df bt th' le' se' tx' at' lo' o' k)::(bt,aO t a')::(ae o' 1 (ar'.map aq)++L3)) ks):W.dcallM Tryz.prog us i f (.ptr bm 0 0::args) L KN:=by
 refine⟨_,L3,mj h1 h2 h3,hf,(h bm bt t a th le se tx at_ lo o ar k ht ha ho hk hd).mono ?_⟩;rintro _ _ ⟨v,a',th',le',se',tx',at',lo',o',ar',rfl,q1,q2,q3,q4,rfl⟩;exact hq _ a' th' le' se' tx' at' lo' o' ar' _ q1 q2 q3 q4
theorem E3{v v2:AV}{x1 x2:Blk}{rows:List (List AV)}(h1:eI bm x1 L L1)(h2:eI bt x2 L1 L2)(h3:dM o 1 rows L2 L3)(hv:Fz L3 v v2):aF [v] L [v2] ((bm,x1)::(bt,x2)::ae o 1 rows):=by
 refine .drop (K:=L3) ((mj h1 h2 h3).trans Wf) rfl λi a a2 e1 e2=>?_
 match i with
 |0=>cases e1;cases e2;exact hv
 |i+1=>simp at e1
end
def cq(d:Nat):Nat:=100*10^d
def O6(d:Nat)(v:AV):Prop:=∃x:ab,v=.agg x.row∧x.wt≤cq d
def E4(n:Nat)(v:AV):Prop:=∃l:List ab,v=.lst (l.map ab.enc)∧ab.wts l≤n
def O7(d:Nat):Prop:=Tn 62 [.Xw (d:Int)] d (O6 d)
def O8(d:Nat):Prop:=∀n:Nat,n≤10→Tn 35 [.Xw (d:Int),.Xw (n:Int)] d (E4 (n*cq d))
def S4(d:Nat):Prop:=∀s:aZ,Tn 101 [.str s,.Xw (d:Int)] (d+1) (E4 (2*cq d))
theorem E5(l:List ab)(x:ab):ab.wts (l++[x])=ab.wts l+x.wt:=by
 induction l with
 |nil=>simp[ab.wts]
 |cons y l ih=>simp only[W2,ab.wts,ih];omega
def dg(d:Nat):Prop:=∀n:Nat,n≤10→∀(bm bt:Nat) (t:List UInt8) (a:Nat) (th le:Int) (se tx at_ lo:Bool) (o:Option Nat) (ar:List aZ) (k:Nat),t.length<2^40→a≤t.length→(o=none→ar=[])→k≤ar.length→k+d≤900→
 af Tryz.prog 35 [.ptr bm 0 0,.Xw (d:Int),.Xw (n:Int)] ((bm,df bt th le se tx at_ lo o k)::(bt,aO t a)::ae o 1 (ar.map aq)) λu K=>∃(a':Nat) (th' le':Int) (se' tx' at' lo':Bool) (o':Option Nat) (ar':List aZ) (l:List ab) (ol:Option Nat),u=am ol l.length∧(ol=none→l=[])∧ab.wts l≤n*cq d∧a'≤t.length∧(o'=none→ar'=[])∧k≤ar'.length∧K=(bm,df bt th' le' se' tx' at' lo' o' k)::(bt,aO t a')::(ae o' 1 (ar'.map aq)++ae ol 11 (l.map ab.enc))
theorem HB(d:Nat)(hS:O7 d):dg d:=by
  intro n hn bm bt t a th le se tx at_ lo o ar k ht ha ho hk hd;refine qS _ _ _ _ _ ?_;unfold jG;generalize hQ:(λ(u:AV) (K:SH)=>∃(a':Nat) (th' le':Int) (se' tx' at' lo':Bool) (o':Option Nat) (ar':List aZ) (l:List ab) (ol:Option Nat),u=am ol l.length∧(ol=none→l=[])∧ab.wts l≤n*cq d∧a'≤t.length∧(o'=none→ar'=[])∧k≤ar'.length∧K=(bm,df bt th' le' se' tx' at' lo' o' k)::(bt,aO t a')::(ae o' 1 (ar'.map aq)++ae ol 11 (l.map ab.enc)))=Q;have hq:∀(l:List ab) (ol:Option Nat) (a':Nat) (th' le':Int) (se' tx' at' lo':Bool) (o':Option Nat) (ar':List aZ),(ol=none→l=[])→ab.wts l≤n*cq d→a'≤t.length→(o'=none→ar'=[])→k≤ar'.length→Q (am ol l.length) ((bm,df bt th' le' se' tx' at' lo' o' k)::(bt,aO t a')::(ae o' 1 (ar'.map aq)++ae ol 11 (l.map ab.enc))):=λl ol a' th' le' se' tx' at' lo' o' ar' h4 h5 h6 h7 h8=>by subst hQ;exact⟨a',th',le',se',tx',at',lo',o',ar',l,ol,rfl,h4,h5,h6,h7,h8,rfl⟩
  clear hQ;refine cb (β:=Nat×Int×Int×Bool×Bool×Bool×Bool×Option Nat×List aZ×Option Nat×List ab) n (λi ⟨a,th,le,se,tx,at_,lo,o,ar,ol,xs⟩=>([.ptr bm 0 0,.Xw d,.Xw n,am ol i,.Xw i],(bm,df bt th le se tx at_ lo o k)::(bt,aO t a)::(ae o 1 (ar.map aq)++ae ol 11 (xs.map ab.enc))))
    (λi ⟨a,th,le,se,tx,at_,lo,o,ar,ol,xs⟩=>a≤t.length∧(o=none→ar=[])∧k≤ar.length∧(ol=none→xs=[])∧xs.length=i∧ab.wts xs≤i*cq d) ⟨a,th,le,se,tx,at_,lo,o,ar,none,[]⟩ ⟨ha,ho,hk,λ_=>rfl,rfl,by simp[ab.wts]⟩ ?_ ?_
  · exact aF.vals (.cons (.refl _) (.cons (.refl _) (.cons (.refl _) (.cons .nile (.cons (.refl _) .nil))))) |> λh=>by simpa[am,ae]using h
  · rintro i ⟨a,th,le,se,tx,at_,lo,o,ar,ol,xs⟩ hi ⟨ha,ho,hk,hol,hxl,hxw⟩
    dsimp only at ha ho hk hol hxl hxw ⊢;unfold iK;generalize hnx:(λ(vs':List AV) (L':SH)=>_)=nx;have hn:∀(a:Nat) (th le:Int) (se tx at_ lo:Bool) (o:Option Nat) (ar:List aZ) (nb:Nat) (x:ab) (L':SH),i<n→gq L' ((bm,df bt th le se tx at_ lo o k)::(bt,aO t a)::(ae o 1 (ar.map aq)++ae (some nb) 11 ((xs++[x]).map ab.enc)))→a≤t.length→(o=none→ar=[])→k≤ar.length→x.wt≤cq d→nx [.ptr bm 0 0,.Xw d,.Xw n,.sl nb 0 (i+1),.Xw ((i+1:Nat):Int)] L':=by intro a th le se tx at_ lo o ar nb x L' q0 q1 q2 q3 q4 q5;subst hnx;refine⟨i+1,⟨a,th,le,se,tx,at_,lo,o,ar,some nb,xs++[x]⟩,Xr,Xr,⟨q2,q3,q4,nofun,by simp;omega,?_⟩,aF.pick q1 rfl⟩;dsimp only;rw[E5,Nat.add_mul,Nat.one_mul];omega
    clear hnx;subst hxl;have hfin:∀(L:SH) (v:AV),L=(bm,df bt th le se tx at_ lo o k)::(bt,aO t a)::(ae o 1 (ar.map aq)++ae ol 11 (xs.map ab.enc))→v=am ol xs.length→Q v L:=by rintro _ _ rfl rfl;exact hq xs ol a th le se tx at_ lo o ar hol (V2 hxw (V4 _ hi)) ha ho hk
    rcases VO xs.length n with g|g
    · have hd1:=bK g
      have hi1:=aD g Xr;unfold df me at hfin ⊢
      repeat' (first|refine st ?_|((with_reducible refine aY 62 ?_);(refine LL hS rp rp rp ht Xs Xs Xs hd ?_;rintro _ a_ th_ le_ se_ tx_ at_ lo_ o_ ar_ ⟨x_,rfl,hx_⟩ ha_ ho_ hk_))|refine cm rp rp Xu (λe=>by first|simp[hol e]) Xt Xu (by simp;omega) (by simp;omega) Xt (λnb_ hnb_=>?_)|refine sb λnb_ hnb_=>?_|refine s2 (λh=>?_) λh=>?_|fail)
      all_goals first
        |exact hfin _ _ rfl rfl
        | (have e_ : ae (some nb_) 11 ((xs ++ [x_]).map ab.enc) = [(nb_, ⟨11, xs.map ab.enc ++ [x_.row]⟩)] := by rw [ae, VQ, VM, Wv, ab.enc_row]
           refine hn a_ th_ le_ se_ tx_ at_ lo_ o_ ar_ nb_ x_ _ g ?_ ha_ ho_ hk_ hx_;rw[e_];exact .one (.there _ (.there _ (.here _))) (.one (.there _ (.there _ (.here _))) (.slot (.there _ (.there _ (.here _))) (.one (.here _) (.nil _)))))
    · have hd1:=bO g
      unfold df me at hfin ⊢
      repeat' (first|refine st ?_|refine sb λnb_ hnb_=>?_|refine s2 (λh=>?_) λh=>?_|fail)
      exact hfin _ _ rfl rfl
theorem HC(d:Nat)(hS:dg d):O8 d:=by intro n hn bm bt t a th le se tx at_ lo o ar k ht ha ho hk hd;refine af.fz ((hS n hn bm bt t a th le se tx at_ lo o ar k ht ha ho hk hd).mono ?_);rintro _ _ ⟨a',th',le',se',tx',at',lo',o',ar',l,ol,rfl,h1,h2,h3,h4,h5,rfl⟩;exact⟨_,_,E3 (.here _) (.here _) (.here _) (Fz.slot (f:=ab.enc) (g:=ab.enc) rfl (λe=>by simp[h1 e]) Xv (λ_ _=>rfl) λy _ q a a2 h1 h2=>by rw[h1]at h2;cases h2;exact .refl _),_,a',th',le',se',tx',at',lo',o',ar',rfl,⟨l,rfl,h2⟩,h3,h4,h5,rfl⟩
theorem Qx{r:Nat}(h:r<100):IntKind.i64.wrap (1+(r:Int))=((1+r:Nat):Int):=by rw[WA _ Xr];omega
theorem E4.le{n m:Nat}{v:AV}(h:E4 n v)(hm:n≤m):E4 m v:=by obtain⟨l,h1,h2⟩:=h;exact⟨l,h1,Xr⟩
theorem Qy(d:Nat)(hS:O8 d):S4 d:=by
 intro s bm bt t a th le se tx at_ lo o ar k ht ha ho hk hd;refine af.fz (qQ _ _ _ _ _ ?_);unfold jF;generalize hQ:(λ(v:AV) (L:SH)=>∃v2 L2,aF [v] L [v2] L2∧∃(v:AV) (a':Nat) (th' le':Int) (se' tx' at' lo':Bool) (o':Option Nat) (ar':List aZ),v2=v∧E4 (2*cq d) v∧a'≤t.length∧(o'=none→ar'=[])∧k≤ar'.length∧L2=(bm,df bt th' le' se' tx' at' lo' o' k)::(bt,aO t a')::ae o' 1 (ar'.map aq))=Q;have hq:∀(v:AV) (a':Nat) (th' le':Int) (se' tx' at' lo':Bool) (o':Option Nat) (ar':List aZ) (L:SH),E4 (2*cq d) v→gq L ((bm,df bt th' le' se' tx' at' lo' o' k)::(bt,aO t a')::ae o' 1 (ar'.map aq))→a'≤t.length→(o'=none→ar'=[])→k≤ar'.length→Q v L:=λv a' th' le' se' tx' at' lo' o' ar' L h1 h2 h6 h7 h8=>by subst hQ;exact⟨_,_,aF.pick h2 rfl,_,a',th',le',se',tx',at',lo',o',ar',rfl,h1,h6,h7,h8,rfl⟩
 clear hQ;unfold df me
 repeat' (first|refine mE (sK ?_ (Qx Xr))|refine st ?_|refine Jn (r:=[.str s]) rp Xt rp (by simpa using hk) (λe=>by simp[ho e]) Xr Xr Xt (λnb_ hnb_=>?_)|((with_reducible refine aY 34 ?_);(refine fC ht Xs rp (λr_ a_ hr_ ha_=>?_)))|refine sb λnb_ hnb_=>?_|refine s2 (λh=>?_) λh=>?_|fail)
 have er:List.take k (ar.map aq)++[[.str s]]=(ar.take k++[s]).map aq:=by rw[VQ,List.map_take];rfl
 rw[er];refine LL (o:=some nb_) (ar:=ar.take k++[s]) (k:=k+1) (hS (1+r_) Xr) rp rp (.here _) ht ha_ nofun (by simp[Wz hk]) Xr ?_;intro v a2 th2 le2 se2 tx2 at2 lo2 o2 ar2 hg ha2 ho2 hk2;rcases o2 with _|b2
 ·exfalso;have:=ho2 rfl;subst this;simp at hk2
 unfold iJ df me;dsimp only[ae,am,List.cons_append,List.nil_append];have es:IntKind.i64.wrap (((k+1:Nat):Int)-1)=(k:Int):=by rw[IntWalk.i64_in _ Xr];omega
 repeat' (first|refine st ?_|refine At ?_ (W9 _) rp rfl|refine sb λnb_ hnb_=>?_|refine s2 (λh=>?_) λh=>?_|fail)
 exact hq v a2 th2 le2 se2 tx2 at2 lo2 (some b2) ar2 _ (hg.le (V4 _ Xr)) (.one (.here _) (.one (.here _) (.one (.here _) (.nil _)))) ha2 nofun Xr
end
end Go.Proofs.YtdnpdghlggbklaaGreatDoor.Am
