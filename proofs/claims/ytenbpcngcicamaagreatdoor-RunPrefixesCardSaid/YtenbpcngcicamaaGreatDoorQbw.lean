/- A part of the proof; the statement is proved in the last part. -/
import Derived.Test.YtenbpcngcicamaaGreatDoorQbv
set_option linter.unusedSimpArgs false
set_option linter.unusedVariables false
namespace Go.Proofs.YtenbpcngcicamaaGreatDoor.Am
section
set_option maxRecDepth 100000
set_option maxHeartbeats 2000000
theorem EK(o:Option Nat)(l:List bZ)(x:aZ)(h0:o=none→l=[])(hl:l.length<2^62):
  af Tryz.prog 42 [am o l.length,.str x] (ae o 2 (l.map bZ.enc)) λu K=>u=.W6 (fQ l x)∧K=ae o 2 (l.map bZ.enc):=by
 refine nO _ _ _ _ ?_;unfold jJ;generalize hL:ae o 2 (l.map bZ.enc)=L;generalize hQ:(λ(u:AV) (K:SH)=>u=AV.W6 (fQ l x)∧K=L)=Q;have hq:∀r:Int,r=fQ l x→Q (.W6 r) L:=λr h=>by subst hQ h;exact⟨rfl,rfl⟩
 clear hQ;subst hL;cases o with
 |none=>
  have:=h0 rfl;subst this;dsimp only[ae,am,List.length_nil]at *;refine np 0 (λ_=>True) (λi=>[.emp,.str x,.W6 i]) W1 trivial rfl (λi h1 hd hi _ nx hn=>by omega) (λi h1 hd _ nx=>?_);unfold fq
  repeat' (first|refine st ?_|refine sb λnb_ hnb_=>?_|refine s2 (λh=>?_) λh=>?_|fail)
  exact hq _ rfl
 |some b1=>
  dsimp only[ae,am]at *;refine ez l (λy=>decide (y.name=x)) (λi=>[.sl b1 0 l.length,.str x,.W6 i]) hl rfl (λi h1 hd hi hno nx hn=>?_) (λi h1 hd hno nx=>?_)
  all_goals unfold fq
  ·have hx:=aw (f:=bZ.enc) h1
   repeat' (first|refine st ?_|refine sb λnb_ hnb_=>?_|refine s2 (λh=>?_) λh=>?_|fail)
   ·exact hq _ (by rw[fQ,ph h1 hno h])
   ·exact hn h
  ·repeat' (first|refine st ?_|refine sb λnb_ hnb_=>?_|refine s2 (λh=>?_) λh=>?_|fail)
   exact hq _ (by rw[fQ,gG hno])
def SA:List AV:=[.nils,.nils,.nils,.nils,.nils,.nils]
def ES(b2 b6:Nat)(oc ol od of ot os:Option Nat)(w:aM):SH:=
 (b6,⟨6,[[am oc w.cells.length,am ol w.locks.length,am od w.conds.length,am of w.futures.length,am ot w.threads.length,am os w.sites.length]]⟩)::(b2,⟨6,[SA]⟩) ::
  (ae oc 5 (w.cells.map aY.enc)++(ae ol 2 (w.locks.map bZ.enc)++(ae od 2 (w.conds.map cS.enc)++(ae of 1 (w.futures.map au)++(ae ot 1 (w.threads.map au)++ae os 3 (w.sites.map cI.enc))))))
structure Fn(b6:Nat)(oc ol od of ot os:Option Nat)(w:aM):Prop where
 c:oc=none→w.cells=[]
 l:ol=none→w.locks=[]
 d:od=none→w.conds=[]
 f:of=none→w.futures=[]
 t:ot=none→w.threads=[]
 s:os=none→w.sites=[]
 n:∀b,ol=some b→b6≠b
def QP(K:SH→Prop)(b2 b6:Nat)(w:aM):Prop:=∀(oc ol od of ot os:Option Nat) (L':SH) (v0 v1 v2 v3 v4 v5:AV) (r0 r1 r2 r3 r4 r5:List (List AV)),Fn b6 oc ol od of ot os w→
 gD L' ((b6,⟨6,[[v0,v1,v2,v3,v4,v5]]⟩)::(b2,⟨6,[SA]⟩)::(ae oc 5 r0++(ae ol 2 r1++(ae od 2 r2++(ae of 1 r3++(ae ot 1 r4++ae os 3 r5))))))→
 [v0,v1,v2,v3,v4,v5]=[am oc w.cells.length,am ol w.locks.length,am od w.conds.length,am of w.futures.length,am ot w.threads.length,am os w.sites.length]→
 r0=w.cells.map aY.enc→r1=w.locks.map bZ.enc→r2=w.conds.map cS.enc→r3=w.futures.map au→r4=w.threads.map au→r5=w.sites.map cI.enc→K L'
theorem QP.of{K:SH→Prop}{b2 b6:Nat}{w:aM}(h:∀(oc ol od of ot os:Option Nat) (L':SH),Fn b6 oc ol od of ot os w→gD L' (ES b2 b6 oc ol od of ot os w)→K L'):QP K b2 b6 w:=by intro oc ol od of ot os L' v0 v1 v2 v3 v4 v5 r0 r1 r2 r3 r4 r5 h1 h2 h3 e0 e1 e2 e3 e4 e5;simp only[List.cons.injEq,and_true]at h3;obtain⟨rfl,rfl,rfl,rfl,rfl,rfl⟩:=h3;subst e0 e1 e2 e3 e4 e5;exact h oc ol od of ot os L' h1 h2
section
variable {n18:Kn} {b2 b6 i:Nat} {oc ol od of ot os:Option Nat} {w:aM} {rows tl:List (List AV)}
theorem QQ{line size init:Int}{name on:aZ}{kind:Int}(hk:kind=1∨kind=2)(hs:size≤1000)(hi1:IntKind.i64.wrap ((i:Int)+1)=((i+1:Nat):Int))(ho:Fn b6 oc ol od of ot os w)(hlen:w.cells.length<2^30)
  (hn:QP (n18 [.pptr [[.lst rows,.lst tl]] 0 0,.ptr b2 0 0,.ptr b6 0 0,.W6 ((i+1:Nat):Int)]) b2 b6 {w with cells:=w.cells++aF.celW ⟨kind,line,name,size,init,on⟩}) :
  W.loop (jK n18) [.pptr [[.lst rows,.lst tl]] 0 0,.ptr b2 0 0,.ptr b6 0 0,.W6 i,.pptr [[.W6 kind,.W6 line,.str name,.W6 size,.W6 init,.str on]] 0 0,.W6 0] (ES b2 b6 oc ol od of ot os w):=by
 generalize hN:(max size 1).toNat=N at *;have hN1:N≤1000:=by omega
 have hcl:aF.celW ⟨kind,line,name,size,init,on⟩=(List.range N).map λk=>⟨name,(k:Nat),size,decide (kind=2),init⟩:=by unfold aF.celW;rw[hN]
 rw[hcl]at hn;obtain⟨WK,hWK⟩:∃f:Nat→aM,f=λk=>{w with cells:=w.cells++(List.range k).map λk=>⟨name,(k:Nat),size,decide (kind=2),init⟩}:=⟨_,rfl⟩
 refine cb (β:=Option Nat×Option Nat×Option Nat×Option Nat×Option Nat×Option Nat) N (λk q=>([.pptr [[.lst rows,.lst tl]] 0 0,.ptr b2 0 0,.ptr b6 0 0,.W6 i,.pptr [[.W6 kind,.W6 line,.str name,.W6 size,.W6 init,.str on]] 0 0,.W6 k],ES b2 b6 q.1 q.2.1 q.2.2.1 q.2.2.2.1 q.2.2.2.2.1 q.2.2.2.2.2 (WK k)))
  (λk q=>Fn b6 q.1 q.2.1 q.2.2.1 q.2.2.2.1 q.2.2.2.2.1 q.2.2.2.2.2 (WK k)) (oc,ol,od,of,ot,os) (by subst hWK;show Fn b6 oc ol od of ot os {w with cells:=w.cells++[]};rw[V2];exact ho) (by subst hWK;show aG _ _ _ (ES b2 b6 oc ol od of ot os {w with cells:=w.cells++[]});rw[V2];exact aG.refl _ _) ?_
 rintro k ⟨oc,ol,od,of,ot,os⟩ hk ho;dsimp only at ho ⊢;unfold jK;generalize hnx:(λ(vs':List AV) (L':SH)=>∃j o',k<j∧j≤N∧_)=nx;rcases Nat.lt_or_ge k N with g1|g1
 ·have hd:=bI g1;have hk1:=aD g1 W1;have hrs:List.range (k+1)=List.range k++[k]:=List.range_succ;have hgo:QP (nx [.pptr [[.lst rows,.lst tl]] 0 0,.ptr b2 0 0,.ptr b6 0 0,.W6 i,.pptr [[.W6 kind,.W6 line,.str name,.W6 size,.W6 init,.str on]] 0 0,.W6 ((k+1:Nat):Int)]) b2 b6 {w with cells:=w.cells++(List.range k).map (λk=>(⟨name,(k:Nat),size,decide (kind=2),init⟩:aY))++[⟨name,(k:Nat),size,decide (kind=2),init⟩]}:=.of λoc2 ol2 od2 of2 ot2 os2 L' q1 q2=>by
   subst hnx;subst hWK;have e:(λk=>({w with cells:=w.cells++(List.range k).map λk=>(⟨name,(k:Nat),size,decide (kind=2),init⟩:aY)}:aM)) (k+1)={w with cells:=w.cells++(List.range k).map (λk=>(⟨name,(k:Nat),size,decide (kind=2),init⟩:aY))++[⟨name,(k:Nat),size,decide (kind=2),init⟩]}:=by show({w with cells:=w.cells++(List.range (k+1)).map (λk=>(⟨name,(k:Nat),size,decide (kind=2),init⟩:aY))}:aM)=_;rw[hrs,Vo,←VZ];rfl
   exact⟨k+1,(oc2,ol2,od2,of2,ot2,os2),W1,W1,by rw[e];exact q1,by rw[e];exact aG.pick q2 rfl⟩
  clear hnx;have hCl:(w.cells++(List.range k).map (λk=>(⟨name,(k:Nat),size,decide (kind=2),init⟩:aY))).length<2^31:=by simp;omega
  obtain⟨wc,wl,wd,wf,wt,ws⟩:=w;subst hWK;dsimp only at *;generalize wc++(List.range k).map (λk=>(⟨name,(k:Nat),size,decide (kind=2),init⟩:aY))=C at *;have hC0:oc=none→C.map aY.enc=[]:=λe=>by have hc:=ho.c e;dsimp only at hc;rw[hc];rfl
  unfold ES
  repeat' (first|rw[hN]|refine st ?_|refine cx rp rp W4 (λe=>by first|simp[hC0 e]) W3 W4 (by simp;omega) (by simp;omega) W3 (λnb_ hnb_=>?_)|refine Ov ?_|refine sb λnb_ hnb_=>?_|refine s2 (λh=>?_) λh=>?_|fail)
  exact hgo (some nb_) ol od of ot os _ _ _ _ _ _ _ _ _ _ _ _ _ ⟨nofun,ho.l,ho.d,ho.f,ho.t,ho.s,ho.n⟩ rp (by simp[am]) (by rw[Vo];rfl) rfl rfl rfl rfl rfl
 ·have hd:=bO g1;have e:k=N:=by omega
  subst e;subst hWK;dsimp only at *;unfold ES
  repeat' (first|rw[hN]|refine st ?_|refine Ov ?_|refine sb λnb_ hnb_=>?_|refine s2 (λh=>?_) λh=>?_|fail)
  exact hn oc ol od of ot os _ _ _ _ _ _ _ _ _ _ _ _ _ ho rp rfl rfl rfl rfl rfl rfl rfl
theorem P9{o:Option Nat}{l:List bZ}{x:aZ}{i:Nat}{us:List W.WR}{L L':SH}{KN:AV→SH→List Nat→Prop}(h0:o=none→l=[])(hl:l.length<2^62)(h2:dL o 2 (l.map bZ.enc) L L')(hf:∀z∈us,W.free z ⟨i,[],(ae o 2 (l.map bZ.enc)).names,[],true,[]⟩)
  (hk:KN (.W6 (fQ l x)) (ae o 2 (l.map bZ.enc)++L') (ae o 2 (l.map bZ.enc)).names):W.dcallM Tryz.prog us i 42 [am o l.length,.str x] L KN:=
 ⟨ae o 2 (l.map bZ.enc),L',h2.perm,hf,(EK o l x h0 hl).mono λu K ⟨h1,h3⟩=>by subst h1 h3;exact hk⟩
theorem Qa{o:Option Nat}{b6 n i j k:Nat}{rows:List (List AV)}(h:∀b,o=some b→b6≠b):∀z∈[rm i rz,rm j ⟨aa (.ptr b6 0 n),[],[],[]⟩],W.free z ⟨k,[],(ae o 2 rows).names,[],true,[]⟩:=by
 intro z hz;simp only[Vn,VV,or_false]at hz;rcases hz with rfl|rfl
 ·exact⟨nofun,nofun,nofun,nofun,λ_=>rfl⟩
 ·refine⟨nofun,?_,nofun,nofun,λ_=>rfl⟩;intro c hc;have:c=b6:=by simpa[rm,aa]using hc
  subst this;cases o with
  |none=>simp[ae,SH.names]
  |some b=>have:=h b rfl;simpa[ae,SH.names]using this
theorem SB{d:aF}(hr:rows[i]? =some d.enc)(hk:1≤d.kind∧d.kind≤6)(hs:d.size≤1000)(hi1:IntKind.i64.wrap ((i:Int)+1)=((i+1:Nat):Int))(ho:Fn b6 oc ol od of ot os w)(h1:w.cells.length<2^30)(h2:w.locks.length<2^30)(h3:w.conds.length<2^30)(h4:w.futures.length<2^30)
  (hn:QP (n18 [.pptr [[.lst rows,.lst tl]] 0 0,.ptr b2 0 0,.ptr b6 0 0,.W6 ((i+1:Nat):Int)]) b2 b6 (bR w d)) :
  jL n18 (ES b2 b6 oc ol od of ot os w) (.pptr [[.lst rows,.lst tl]] 0 0) (.W6 i) (.ptr b2 0 0) (.ptr b6 0 0):=by
 obtain⟨kind,line,name,size,init,on⟩:=d;have hr':rows[i]? =some [.W6 kind,.W6 line,.str name,.W6 size,.W6 init,.str on]:=hr;clear hr;dsimp only at hk hs;have hl0:ol=none→w.locks.map bZ.enc=[]:=λe=>by rw[ho.l e];rfl
 have hd0:od=none→w.conds.map cS.enc=[]:=λe=>by rw[ho.d e];rfl
 have hf0:of=none→w.futures.map au=[]:=λe=>by rw[ho.f e];rfl
 have hlk:=EK ol w.locks on ho.l W1;have hc:kind=1∨kind=2∨kind=3∨kind=4∨kind=5∨kind=6:=by omega
 unfold jL;rcases hc with rfl|rfl|rfl|rfl|rfl|rfl
 ·have hst:bR w ⟨1,line,name,size,init,on⟩={w with cells:=w.cells++aF.celW ⟨1,line,name,size,init,on⟩}:=by unfold bR;rw[if_pos (.inl rfl)]
  rw[hst]at hn;have hw:=QQ (.inl rfl) hs hi1 ho h1 hn;unfold ES at hw ⊢
  repeat' (first|exact hw|refine st ?_|refine sb λnb_ hnb_=>?_|refine s2 (λh=>?_) λh=>?_|fail)
 ·have hst:bR w ⟨2,line,name,size,init,on⟩={w with cells:=w.cells++aF.celW ⟨2,line,name,size,init,on⟩}:=by unfold bR;rw[if_pos (.inr rfl)]
  rw[hst]at hn;have hw:=QQ (.inr rfl) hs hi1 ho h1 hn;unfold ES at hw ⊢
  repeat' (first|exact hw|refine st ?_|refine sb λnb_ hnb_=>?_|refine s2 (λh=>?_) λh=>?_|fail)
 ·have hst:bR w ⟨3,line,name,size,init,on⟩={w with locks:=w.locks++[⟨name,decide ((3:Int)=4)⟩]}:=rfl;rw[hst]at hn;unfold ES
  repeat' (first|refine st ?_|refine cx rp rp W4 (λe=>by first|simp[hl0 e]) W3 W4 (by simp;omega) (by simp;omega) W3 (λnb_ hnb_=>?_)|refine sb λnb_ hnb_=>?_|refine s2 (λh=>?_) λh=>?_|fail)
  exact hn oc (some nb_) od of ot os _ _ _ _ _ _ _ _ _ _ _ _ _ ⟨ho.c,nofun,ho.d,ho.f,ho.t,ho.s,λb e=>by cases e;rintro rfl;exact hnb_ (by simp[SH.names])⟩ rp (by simp[am]) rfl (by rw[Vo];rfl) rfl rfl rfl rfl
 ·have hst:bR w ⟨4,line,name,size,init,on⟩={w with locks:=w.locks++[⟨name,decide ((4:Int)=4)⟩]}:=rfl;rw[hst]at hn;unfold ES
  repeat' (first|refine st ?_|refine cx rp rp W4 (λe=>by first|simp[hl0 e]) W3 W4 (by simp;omega) (by simp;omega) W3 (λnb_ hnb_=>?_)|refine sb λnb_ hnb_=>?_|refine s2 (λh=>?_) λh=>?_|fail)
  exact hn oc (some nb_) od of ot os _ _ _ _ _ _ _ _ _ _ _ _ _ ⟨ho.c,nofun,ho.d,ho.f,ho.t,ho.s,λb e=>by cases e;rintro rfl;exact hnb_ (by simp[SH.names])⟩ rp (by simp[am]) rfl (by rw[Vo];rfl) rfl rfl rfl rfl
 ·have hst:bR w ⟨5,line,name,size,init,on⟩={w with conds:=w.conds++[⟨name,fQ w.locks on⟩]}:=rfl;rw[hst]at hn;unfold ES;rcases ol with _|bl_
  all_goals
   repeat' (first|refine st ?_|refine cx rp rp W4 (λe=>by first|simp[hd0 e]) W3 W4 (by simp;omega) (by simp;omega) W3 (λnb_ hnb_=>?_)|((with_reducible refine dZ 42 ?_);refine P9 ho.l W1 rp (Qa ho.n) ?_;dsimp only[Cu,Cv,List.nil_append,List.cons_append])|refine sb λnb_ hnb_=>?_|refine s2 (λh=>?_) λh=>?_|fail)
  ·exact hn oc none (some nb_) of ot os _ _ _ _ _ _ _ _ _ _ _ _ _ ⟨ho.c,ho.l,nofun,ho.f,ho.t,ho.s,ho.n⟩ rp (by simp[am]) rfl rfl (by rw[Vo];rfl) rfl rfl rfl
  ·exact hn oc (some bl_) (some nb_) of ot os _ _ _ _ _ _ _ _ _ _ _ _ _ ⟨ho.c,ho.l,nofun,ho.f,ho.t,ho.s,ho.n⟩ rp (by simp[am]) rfl rfl (by rw[Vo];rfl) rfl rfl rfl
 ·have hst:bR w ⟨6,line,name,size,init,on⟩={w with futures:=w.futures++[name]}:=rfl;rw[hst]at hn;unfold ES
  repeat' (first|refine st ?_|refine cx rp rp W4 (λe=>by first|simp[hf0 e]) W3 W4 (by simp;omega) (by simp;omega) W3 (λnb_ hnb_=>?_)|refine sb λnb_ hnb_=>?_|refine s2 (λh=>?_) λh=>?_|fail)
  exact hn oc ol od (some nb_) ot os _ _ _ _ _ _ _ _ _ _ _ _ _ ⟨ho.c,ho.l,ho.d,nofun,ho.t,ho.s,ho.n⟩ rp (by simp[am]) rfl rfl rfl (by rw[Vo];rfl) rfl rfl
end
end
section
set_option maxRecDepth 100000
theorem SC(o:Option Nat)(l:List aZ)(k:Nat)(R:SH)(x:aZ)(h0:o=none→l=[])(hk:k≤l.length)(hl:k<2^62):
  af Tryz.prog 64 [am o k,.str x] (ae o 1 (l.map au)++R) λu K=>∃r:Int,u=.W6 r∧K=ae o 1 (l.map au)++R:=by
 refine pI _ _ _ _ ?_;unfold mX;generalize hL:ae o 1 (l.map au)++R=L;generalize hQ:(λ(u:AV) (K:SH)=>∃r:Int,u=AV.W6 r∧K=L)=Q;have hq:∀r:Int,Q (.W6 r) L:=λr=>by subst hQ;exact⟨r,rfl,rfl⟩
 clear hQ;subst hL;cases o with
 |none=>
  have:=h0 rfl;subst this;obtain rfl:k=0:=by simpa using hk
  dsimp only[ae,am,List.nil_append]at *;refine np 0 (λ_=>True) (λi=>[.emp,.str x,.W6 i]) W1 trivial rfl (λi h1 hd hi _ nx hn=>by omega) (λi h1 hd _ nx=>?_);unfold fH
  repeat' (first|refine st ?_|refine sb λnb_ hnb_=>?_|refine s2 (λh=>?_) λh=>?_|fail)
  exact hq _
 |some b1=>
  dsimp only[ae,am,List.cons_append,List.nil_append]at *;refine np k (λ_=>True) (λi=>[.sl b1 0 k,.str x,.W6 i]) W1 trivial rfl (λi h1 hd hi _ nx hn=>?_) (λi h1 hd _ nx=>?_)
  all_goals unfold fH
  ·have hx:=aw (f:=au) (l:=l) (i:=i) W1
   repeat' (first|refine st ?_|refine sb λnb_ hnb_=>?_|refine s2 (λh=>?_) λh=>?_|fail)
   all_goals first
    |exact hq _
    |exact hn trivial
  ·repeat' (first|refine st ?_|refine sb λnb_ hnb_=>?_|refine s2 (λh=>?_) λh=>?_|fail)
   exact hq _
def db(bt:Nat)(th le:Int)(se tx at_ lo:Bool)(o:Option Nat)(k:Nat):Blk:=mg bt (.W6 th) (.W6 le) (.bool se) (.bool tx) (.bool at_) (.bool lo) (am o k)
def SY(f:FuncId)(args:List AV)(d:Nat)(good:AV→Prop):Prop:=∀(bm bt:Nat) (t:List UInt8) (a:Nat) (th le:Int) (se tx at_ lo:Bool) (o:Option Nat) (ar:List aZ) (k:Nat),t.length<2^40→a≤t.length→(o=none→ar=[])→k≤ar.length→k+d≤900→
 af Tryz.prog f (.ptr bm 0 0::args) ((bm,db bt th le se tx at_ lo o k)::(bt,aN t a)::ae o 1 (ar.map au)) λu K=>∃(v:AV) (a':Nat) (th' le':Int) (se' tx' at' lo':Bool) (o':Option Nat) (ar':List aZ),u=v∧good v∧a'≤t.length∧(o'=none→ar'=[])∧k≤ar'.length∧K=(bm,db bt th' le' se' tx' at' lo' o' k)::(bt,aN t a')::ae o' 1 (ar'.map au)
theorem mn{b1 b2:Nat}{x1 x2:Blk}{o:Option Nat}{n:Nat}{rows:List (List AV)}{L L1 L2 L3:SH}(h1:eJ b1 x1 L L1)(h2:eJ b2 x2 L1 L2)(h3:dL o n rows L2 L3):L.Perm (((b1,x1)::(b2,x2)::ae o n rows)++L3):=
 h1.perm.trans ((h2.perm.trans ((h3.perm).cons _)).cons _)
section
variable {f:FuncId} {args:List AV} {d:Nat} {good:AV→Prop} {bm bt:Nat} {t:List UInt8} {a:Nat} {th le:Int} {se tx at_ lo:Bool} {o:Option Nat} {ar:List aZ} {k:Nat} {L L1 L2 L3:SH}
theorem Lv{KL:R}(h:SY f args d good)(h1:eJ bm (db bt th le se tx at_ lo o k) L L1)(h2:eJ bt (aN t a) L1 L2)(h3:dL o 1 (ar.map au) L2 L3)(ht:t.length<2^40)(ha:a≤t.length)(ho:o=none→ar=[])(hk:k≤ar.length)(hd:k+d≤900)
  (hq:∀(v:AV) (a':Nat) (th' le':Int) (se' tx' at' lo':Bool) (o':Option Nat) (ar':List aZ),good v→a'≤t.length→(o'=none→ar'=[])→k≤ar'.length→KL v ((bm,db bt th' le' se' tx' at' lo' o' k)::(bt,aN t a')::(ae o' 1 (ar'.map au)++L3))):W.callM Tryz.prog f (.ptr bm 0 0::args) L KL:=by
 refine Gv (h bm bt t a th le se tx at_ lo o ar k ht ha ho hk hd) (mn h1 h2 h3) ?_;rintro _ _ ⟨v,a',th',le',se',tx',at',lo',o',ar',rfl,q1,q2,q3,q4,rfl⟩;exact hq _ a' th' le' se' tx' at' lo' o' ar' q1 q2 q3 q4
theorem OJ{i:Nat}{us:List W.WR}{KN:AV→SH→List Nat→Prop}(h:SY f args d good)(h1:eJ bm (db bt th le se tx at_ lo o k) L L1)(h2:eJ bt (aN t a) L1 L2)(h3:dL o 1 (ar.map au) L2 L3)(ht:t.length<2^40)(ha:a≤t.length)(ho:o=none→ar=[])(hk:k≤ar.length)(hd:k+d≤900)
  (hf:∀y∈us,W.free y ⟨i,[],SH.names ((bm,db bt th le se tx at_ lo o k)::(bt,aN t a)::ae o 1 (ar.map au)),[],true,[]⟩)
  (hq:∀(v:AV) (a':Nat) (th' le':Int) (se' tx' at' lo':Bool) (o':Option Nat) (ar':List aZ) (ks:List Nat),good v→a'≤t.length→(o'=none→ar'=[])→k≤ar'.length→KN v ((bm,db bt th' le' se' tx' at' lo' o' k)::(bt,aN t a')::(ae o' 1 (ar'.map au)++L3)) ks):W.dcallM Tryz.prog us i f (.ptr bm 0 0::args) L KN:=by
 refine⟨_,L3,mn h1 h2 h3,hf,(h bm bt t a th le se tx at_ lo o ar k ht ha ho hk hd).mono ?_⟩;rintro _ _ ⟨v,a',th',le',se',tx',at',lo',o',ar',rfl,q1,q2,q3,q4,rfl⟩;exact hq _ a' th' le' se' tx' at' lo' o' ar' _ q1 q2 q3 q4
theorem EL{v v2:AV}{x1 x2:Blk}{rows:List (List AV)}(h1:eJ bm x1 L L1)(h2:eJ bt x2 L1 L2)(h3:dL o 1 rows L2 L3)(hv:Fz L3 v v2):aG [v] L [v2] ((bm,x1)::(bt,x2)::ae o 1 rows):=by
 refine .drop (K:=L3) ((mn h1 h2 h3).trans VQ) rfl λi a a2 e1 e2=>?_
 match i with
 |0=>cases e1;cases e2;exact hv
 |i+1=>simp at e1
end
def co(d:Nat):Nat:=100*10^d
def OK(d:Nat)(v:AV):Prop:=∃x:ab,v=.agg x.row∧x.wt≤co d
def EM(n:Nat)(v:AV):Prop:=∃l:List ab,v=.lst (l.map ab.enc)∧ab.wts l≤n
def OL(d:Nat):Prop:=SY 45 [.W6 (d:Int)] d (OK d)
def OM(d:Nat):Prop:=∀n:Nat,n≤10→SY 24 [.W6 (d:Int),.W6 (n:Int)] d (EM (n*co d))
def SD(d:Nat):Prop:=∀s:aZ,SY 75 [.str s,.W6 (d:Int)] (d+1) (EM (2*co d))
theorem EN(l:List ab)(x:ab):ab.wts (l++[x])=ab.wts l+x.wt:=by
 induction l with
 |nil=>simp[ab.wts]
 |cons y l ih=>simp only[Ww,ab.wts,ih];omega
def de(d:Nat):Prop:=∀n:Nat,n≤10→∀(bm bt:Nat) (t:List UInt8) (a:Nat) (th le:Int) (se tx at_ lo:Bool) (o:Option Nat) (ar:List aZ) (k:Nat),t.length<2^40→a≤t.length→(o=none→ar=[])→k≤ar.length→k+d≤900→
 af Tryz.prog 24 [.ptr bm 0 0,.W6 (d:Int),.W6 (n:Int)] ((bm,db bt th le se tx at_ lo o k)::(bt,aN t a)::ae o 1 (ar.map au)) λu K=>∃(a':Nat) (th' le':Int) (se' tx' at' lo':Bool) (o':Option Nat) (ar':List aZ) (l:List ab) (ol:Option Nat),u=am ol l.length∧(ol=none→l=[])∧ab.wts l≤n*co d∧a'≤t.length∧(o'=none→ar'=[])∧k≤ar'.length∧K=(bm,db bt th' le' se' tx' at' lo' o' k)::(bt,aN t a')::(ae o' 1 (ar'.map au)++ae ol 11 (l.map ab.enc))
theorem Hg(d:Nat)(hS:OL d):de d:=by
  intro n hn bm bt t a th le se tx at_ lo o ar k ht ha ho hk hd;refine qY _ _ _ _ _ ?_;unfold jE;generalize hQ:(λ(u:AV) (K:SH)=>∃(a':Nat) (th' le':Int) (se' tx' at' lo':Bool) (o':Option Nat) (ar':List aZ) (l:List ab) (ol:Option Nat),u=am ol l.length∧(ol=none→l=[])∧ab.wts l≤n*co d∧a'≤t.length∧(o'=none→ar'=[])∧k≤ar'.length∧K=(bm,db bt th' le' se' tx' at' lo' o' k)::(bt,aN t a')::(ae o' 1 (ar'.map au)++ae ol 11 (l.map ab.enc)))=Q;have hq:∀(l:List ab) (ol:Option Nat) (a':Nat) (th' le':Int) (se' tx' at' lo':Bool) (o':Option Nat) (ar':List aZ),(ol=none→l=[])→ab.wts l≤n*co d→a'≤t.length→(o'=none→ar'=[])→k≤ar'.length→Q (am ol l.length) ((bm,db bt th' le' se' tx' at' lo' o' k)::(bt,aN t a')::(ae o' 1 (ar'.map au)++ae ol 11 (l.map ab.enc))):=λl ol a' th' le' se' tx' at' lo' o' ar' h4 h5 h6 h7 h8=>by subst hQ;exact⟨a',th',le',se',tx',at',lo',o',ar',l,ol,rfl,h4,h5,h6,h7,h8,rfl⟩
  clear hQ;refine cb (β:=Nat×Int×Int×Bool×Bool×Bool×Bool×Option Nat×List aZ×Option Nat×List ab) n (λi ⟨a,th,le,se,tx,at_,lo,o,ar,ol,xs⟩=>([.ptr bm 0 0,.W6 d,.W6 n,am ol i,.W6 i],(bm,db bt th le se tx at_ lo o k)::(bt,aN t a)::(ae o 1 (ar.map au)++ae ol 11 (xs.map ab.enc))))
    (λi ⟨a,th,le,se,tx,at_,lo,o,ar,ol,xs⟩=>a≤t.length∧(o=none→ar=[])∧k≤ar.length∧(ol=none→xs=[])∧xs.length=i∧ab.wts xs≤i*co d) ⟨a,th,le,se,tx,at_,lo,o,ar,none,[]⟩ ⟨ha,ho,hk,λ_=>rfl,rfl,by simp[ab.wts]⟩ ?_ ?_
  · exact aG.vals (.cons (.refl _) (.cons (.refl _) (.cons (.refl _) (.cons .nile (.cons (.refl _) .nil))))) |> λh=>by simpa[am,ae]using h
  · rintro i ⟨a,th,le,se,tx,at_,lo,o,ar,ol,xs⟩ hi ⟨ha,ho,hk,hol,hxl,hxw⟩
    dsimp only at ha ho hk hol hxl hxw ⊢;unfold iJ;generalize hnx:(λ(vs':List AV) (L':SH)=>_)=nx;have hn:∀(a:Nat) (th le:Int) (se tx at_ lo:Bool) (o:Option Nat) (ar:List aZ) (nb:Nat) (x:ab) (L':SH),i<n→gD L' ((bm,db bt th le se tx at_ lo o k)::(bt,aN t a)::(ae o 1 (ar.map au)++ae (some nb) 11 ((xs++[x]).map ab.enc)))→a≤t.length→(o=none→ar=[])→k≤ar.length→x.wt≤co d→nx [.ptr bm 0 0,.W6 d,.W6 n,.sl nb 0 (i+1),.W6 ((i+1:Nat):Int)] L':=by intro a th le se tx at_ lo o ar nb x L' q0 q1 q2 q3 q4 q5;subst hnx;refine⟨i+1,⟨a,th,le,se,tx,at_,lo,o,ar,some nb,xs++[x]⟩,W1,W1,⟨q2,q3,q4,nofun,by simp;omega,?_⟩,aG.pick q1 rfl⟩;dsimp only;rw[EN,Nat.add_mul,Nat.one_mul];omega
    clear hnx;subst hxl;have hfin:∀(L:SH) (v:AV),L=(bm,db bt th le se tx at_ lo o k)::(bt,aN t a)::(ae o 1 (ar.map au)++ae ol 11 (xs.map ab.enc))→v=am ol xs.length→Q v L:=by rintro _ _ rfl rfl;exact hq xs ol a th le se tx at_ lo o ar hol (VD hxw (VE _ hi)) ha ho hk
    rcases Vp xs.length n with g|g
    · have hd1:=bI g
      have hi1:=aD g W1;unfold db mg at hfin ⊢
      repeat' (first|refine st ?_|((with_reducible refine aX 45 ?_);(refine Lv hS rp rp rp ht W2 W2 W2 hd ?_;rintro _ a_ th_ le_ se_ tx_ at_ lo_ o_ ar_ ⟨x_,rfl,hx_⟩ ha_ ho_ hk_))|refine cx rp rp W4 (λe=>by first|simp[hol e]) W3 W4 (by simp;omega) (by simp;omega) W3 (λnb_ hnb_=>?_)|refine sb λnb_ hnb_=>?_|refine s2 (λh=>?_) λh=>?_|fail)
      all_goals first
        |exact hfin _ _ rfl rfl
        | (have e_ : ae (some nb_) 11 ((xs ++ [x_]).map ab.enc) = [(nb_, ⟨11, xs.map ab.enc ++ [x_.row]⟩)] := by rw [ae, Vo, Vm, V6, ab.enc_row]
           refine hn a_ th_ le_ se_ tx_ at_ lo_ o_ ar_ nb_ x_ _ g ?_ ha_ ho_ hk_ hx_;rw[e_];exact .one (.there _ (.there _ (.here _))) (.one (.there _ (.there _ (.here _))) (.slot (.there _ (.there _ (.here _))) (.one (.here _) (.nil _)))))
    · have hd1:=bO g
      unfold db mg at hfin ⊢
      repeat' (first|refine st ?_|refine sb λnb_ hnb_=>?_|refine s2 (λh=>?_) λh=>?_|fail)
      exact hfin _ _ rfl rfl
theorem Hj(d:Nat)(hS:de d):OM d:=by intro n hn bm bt t a th le se tx at_ lo o ar k ht ha ho hk hd;refine af.fz ((hS n hn bm bt t a th le se tx at_ lo o ar k ht ha ho hk hd).mono ?_);rintro _ _ ⟨a',th',le',se',tx',at',lo',o',ar',l,ol,rfl,h1,h2,h3,h4,h5,rfl⟩;exact⟨_,_,EL (.here _) (.here _) (.here _) (Fz.slot (f:=ab.enc) (g:=ab.enc) rfl (λe=>by simp[h1 e]) W5 (λ_ _=>rfl) λy _ q a a2 h1 h2=>by rw[h1]at h2;cases h2;exact .refl _),_,a',th',le',se',tx',at',lo',o',ar',rfl,⟨l,rfl,h2⟩,h3,h4,h5,rfl⟩
theorem Qb{r:Nat}(h:r<100):IntKind.i64.wrap (1+(r:Int))=((1+r:Nat):Int):=by rw[V9 _ W1];omega
theorem EM.le{n m:Nat}{v:AV}(h:EM n v)(hm:n≤m):EM m v:=by obtain⟨l,h1,h2⟩:=h;exact⟨l,h1,W1⟩
theorem Qc(d:Nat)(hS:OM d):SD d:=by
 intro s bm bt t a th le se tx at_ lo o ar k ht ha ho hk hd;refine af.fz (qW _ _ _ _ _ ?_);unfold jD;generalize hQ:(λ(v:AV) (L:SH)=>∃v2 L2,aG [v] L [v2] L2∧∃(v:AV) (a':Nat) (th' le':Int) (se' tx' at' lo':Bool) (o':Option Nat) (ar':List aZ),v2=v∧EM (2*co d) v∧a'≤t.length∧(o'=none→ar'=[])∧k≤ar'.length∧L2=(bm,db bt th' le' se' tx' at' lo' o' k)::(bt,aN t a')::ae o' 1 (ar'.map au))=Q;have hq:∀(v:AV) (a':Nat) (th' le':Int) (se' tx' at' lo':Bool) (o':Option Nat) (ar':List aZ) (L:SH),EM (2*co d) v→gD L ((bm,db bt th' le' se' tx' at' lo' o' k)::(bt,aN t a')::ae o' 1 (ar'.map au))→a'≤t.length→(o'=none→ar'=[])→k≤ar'.length→Q v L:=λv a' th' le' se' tx' at' lo' o' ar' L h1 h2 h6 h7 h8=>by subst hQ;exact⟨_,_,aG.pick h2 rfl,_,a',th',le',se',tx',at',lo',o',ar',rfl,h1,h6,h7,h8,rfl⟩
 clear hQ;unfold db mg
 repeat' (first|refine lH (sQ ?_ (Qb W1))|refine st ?_|refine I1 (r:=[.str s]) rp W3 rp (by simpa using hk) (λe=>by simp[ho e]) W1 W1 W3 (λnb_ hnb_=>?_)|((with_reducible refine aX 23 ?_);(refine fB ht W2 rp (λr_ a_ hr_ ha_=>?_)))|refine sb λnb_ hnb_=>?_|refine s2 (λh=>?_) λh=>?_|fail)
 have er:List.take k (ar.map au)++[[.str s]]=(ar.take k++[s]).map au:=by rw[Vo,List.map_take];rfl
 rw[er];refine Lv (o:=some nb_) (ar:=ar.take k++[s]) (k:=k+1) (hS (1+r_) W1) rp rp (.here _) ht ha_ nofun (by simp[Wb hk]) W1 ?_;intro v a2 th2 le2 se2 tx2 at2 lo2 o2 ar2 hg ha2 ho2 hk2;rcases o2 with _|b2
 ·exfalso;have:=ho2 rfl;subst this;simp at hk2
 unfold iI db mg;dsimp only[ae,am,List.cons_append,List.nil_append];have es:IntKind.i64.wrap (((k+1:Nat):Int)-1)=(k:Int):=by rw[IntWalk.i64_in _ W1];omega
 repeat' (first|refine st ?_|refine Ah ?_ (WF _) rp rfl|refine sb λnb_ hnb_=>?_|refine s2 (λh=>?_) λh=>?_|fail)
 exact hq v a2 th2 le2 se2 tx2 at2 lo2 (some b2) ar2 _ (hg.le (VE _ W1)) (.one (.here _) (.one (.here _) (.one (.here _) (.nil _)))) ha2 nofun W1
end
end Go.Proofs.YtenbpcngcicamaaGreatDoor.Am
