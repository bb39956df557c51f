/- part -/
import Derived.Test.YtfcfhjadaknphaaGreatDoorQxAc
set_option linter.all false
set_option maxRecDepth 100000
set_option maxHeartbeats 0
namespace Go.Proofs.YtfcfhjadaknphaaGreatDoor.Am
def LC(w:aK):ao Tryz.prog 73 [.agg w.enc] (.bool (iz (uU w))):=by
 refine rK _ _ _ ?_;refine vw ?_;generalize hQ:(λ(u:AV) (K:SH)=>u=AV.bool (iz (uU w))/\K=[])=Q;have Z:∀b,iz (uU w)=b->Q (.bool b) []:=λb B=>by subst hQ;exact⟨by rw[B],rfl⟩
 clear hQ;by_cases h0:w.cells.length<=12/\w.locks.length<=4/\w.conds.length<=2/\w.futures.length<=2/\w.sites.length<=60/\1<=w.threads.length/\w.threads.length<=4
 .obtain⟨c12,l4,d2,f2,s60,t1,t4⟩:=h0;have e1:decide ((w.cells.length:Int) > 12)=false:=decide_eq_false YC;have e2:decide ((w.locks.length:Int) > 4)=false:=decide_eq_false YC;have e3:decide ((w.conds.length:Int) > 2)=false:=decide_eq_false YC;have e4:decide ((w.futures.length:Int) > 2)=false:=decide_eq_false YC;have e5:decide ((w.sites.length:Int) > 60)=false:=decide_eq_false YC;have e6:decide ((w.threads.length:Int)<1)=false:=decide_eq_false YC;have e7:decide ((w.threads.length:Int) > 4)=false:=decide_eq_false YC;by_cases O:∃D,dT w.cells D
  .obtain⟨D,O⟩:=O;have hnm:=LB c12 l4 d2 f2 t4 O;have hns:D.length<=12:=by have:=O.len;omega
   have hAl:(eD w D).length<=30:=by simp[eD];omega
   have j:¬nW (eD w D)->Q (.bool false) []:=λh=>Z _ (eh λS=>by
    obtain⟨n2,h3,h4⟩:=S.names;obtain rfl:=O.uniq h3;exact h ⟨h4.1,h4.2⟩)
   have G:nW (eD w D)->∃D,dT w.cells D/\(∀s∈eD w D,cY s=true)/\(eD w D).Nodup:=λh=>⟨D,O,h.1,h.2⟩
   clear O;generalize eD w D=A at *
   repeat' (first|refine sy ?_|refine s2 (λh=>?_) λh=>?_|intro)
   refine cS A.length (λi=>nW (A.take i)) (λi=>[.pptr [w.enc] 0 0,.lst (A.map av),.YJ (i:Int)]) YC (by simp[nW]) rfl (λi Y hd hi hG nx hn=>?_) (λi Y hd hG nx=>?_)
   all_goals refine vw ?_
   .have hx:=aq (f:=av) Y;have hok:=Jb A[i];have ht:=LE Y;have hle:i<=A.length:=by omega
    have hat:=oV (A.take i) A[i] (by rw[Xb];omega);have hmem:=Qd (l:=A.take i) (s:=A[i]);have E:¬nW (A.take (i+1))->Q (.bool false) []:=λB=>j λhN=>B ⟨λs hs=>hN.1 s (List.mem_of_mem_take hs),hN.2.sublist (List.take_sublist _ _)⟩
    rw[ht]at E hn;clear G j Z ht;generalize A[i]=s at *;cases M:cY s with
    |false=>
     rw[M]at hok;have B:¬nW (A.take i++[s]):=λB=>by have:=B.1 s YF;rw[M]at this;cases this
     repeat' (first|refine sy ?_|refine s2 ?_ ?_|intro)
     all_goals exact E B
    |true=>
     rw[M]at hok;by_cases hm:s∈A.take i
     .rw[fM hm]at hmem;have B:¬nW (A.take i++[s]):=λB=>by have:=(X1.1 B.2).2.2 s hm s YF;exact this rfl
      repeat' (first|refine sy ?_|refine yd ?_ hle|refine s2 ?_ ?_|intro)
      all_goals exact E B
     .rw[eh hm]at hmem;have B:nW (A.take i++[s]):=⟨λx hx=>by
       rcases WM.1 hx with h|h
       .exact hG.1 x h
       .rw[WP.1 h];exact M,X1.2 ⟨hG.2,YF,λa ha b B=>by rw[WP.1 B];rintro rfl;exact hm ha⟩⟩
      repeat' (first|refine sy ?_|refine yd ?_ hle|refine s2 ?_ ?_|intro)
      all_goals exact hn B
   .subst Y;rw[XT]at hG;have hN:=G hG;clear G j hnm
    repeat' (first|refine sy ?_|refine s2 ?_ ?_|intro)
    refine cF w.conds (λc=>!jB w c.mutex false) (λi=>[.pptr [w.enc] 0 0,.YJ (i:Int)]) YC rfl (λi Y hd hi E nx hn=>?_) (λi Y hd E nx=>?_)
    all_goals refine vw ?_
    .have hx:=aq (f:=bO.enc) Y;have j:jB w w.conds[i].mutex false=false->Q (.bool false) []:=λh=>Z _ (eh λS=>by rw[S.mtx _ (WN Y)]at h;cases h)
     generalize w.conds[i]=c at *;obtain⟨nm,mx⟩:=c;unfold bO.enc at hx;dsimp only at *;clear E Z;cases S:inB mx w.locks.length with
     |false=>
      have hl:jB w mx false=false:=by simp[jB,S]
      have B:¬(0<=mx/\mx<w.locks.length):=λh=>by rw[aw.2 h]at S;cases S
      repeat' (first|refine sy ?_|refine s2 ?_ ?_|intro)
      all_goals first
       |exact j hl
       |(exfalso;refine B ?_;clear hn j;simp only[decide_eq_true_eq,decide_eq_false_iff_not,ge_iff_le]at *;omega)
     |true=>
      obtain⟨k,rfl⟩:=Xg (cT S);have hk:k<w.locks.length:=by have:=(aw.1 S).2;omega
      have hx2:=aq (f:=bv.enc) hk;have d2:decide ((k:Int)<0)=false:=decide_eq_false YC;have d3:decide ((k:Int)>=(w.locks.length:Int))=false:=decide_eq_false YC;have O:jB w (k:Int) false=!(w.locks[k].rw):=by unfold jB;rw[S,Xx,XP,mt hk,XU];generalize w.locks[k].rw=r;cases r<;>rfl
      rw[O]at j hn;generalize w.locks[k]=c2 at *;obtain⟨nm2,r⟩:=c2;unfold bv.enc at hx2;dsimp only at *;cases r with
      |true=>
       repeat' (first|refine sy ?_|refine s2 ?_ ?_|intro)
       all_goals exact j rfl
      |false=>
       repeat' (first|refine sy ?_|refine s2 ?_ ?_|intro)
       all_goals exact hn rfl
    .repeat' (first|refine sy ?_|refine s2 ?_ ?_|intro)
     refine Vt w s60 t4 λb B=>Z _ ?_
     cases b with
     |false=>exact eh λh=>by rw[fM h.sites]at B;cases B
     |true=>exact fM ⟨c12,l4,d2,f2,s60,t1,t4,hN,λc hc=>by simpa using E c hc,fo.1 B⟩
  .have hnm:=NW c12 l4 d2 f2 t4 λD h=>O ⟨D,h⟩
   repeat' (first|refine sy ?_|refine s2 ?_ ?_|intro)
   all_goals exact Z _ (eh λh=>by obtain⟨D,Y,_⟩:=h.names;exact O ⟨D,Y⟩)
 .have B:iz (uU w)=false:=eh λh=>h0 ⟨h.c12,h.l4,h.d2,h.f2,h.s60,h.t1,h.t4⟩
  repeat' (first|refine sy ?_|refine s2 ?_ ?_|intro)
  all_goals first
   |exact Z _ B
   |(exfalso;refine h0 ?_;clear Z B h0;simp only[decide_eq_true_eq,decide_eq_false_iff_not]at *;omega)
def ye:RF:=nv (cg Tryz.prog Tryz.f193 [(6,⟨[0,1,5],[],true,[]⟩)] [])
abbrev HC(a b:AV)(L:SH)(Q:R):Prop:=Pc ye 20 Q 0 [] [a,b] L
def Fq(u j:AV)(L:SH)(Q:R)(h:HC u j L Q):ac Tryz.prog 193 [u,j] L Q:=
 fv ye Tryz.func193 h
def sN:RF:=nv (cg Tryz.prog Tryz.f169 [(21,⟨[1,5,7],[],true,[]⟩),(9,⟨[0,1,5,6],[],true,[]⟩)] [])
abbrev C6(a b:AV)(L:SH)(Q:R):Prop:=Pc sN 20 Q 0 [] [a,b] L
def BA(u j:AV)(L:SH)(Q:R)(h:C6 u j L Q):ac Tryz.prog 169 [u,j] L Q:=
 fv sN Tryz.func169 h
def BB{k:IntKind}{m d:Nat}:cZ (some (.int k (m:Int))) d=some m:=by simp[cZ,mf]
def vy{α:Type}{f:α->List AV}{l:List α}{n i:Nat}{k:IntKind}{L:SH}{K:AV->Prop}(u:∀x,(f x).length=n)(B:i<=l.length)(h:K (.lst ((l.take i).map f))):W.slice n (.lst (l.map f)) none (some (.int k (i:Int))) none L K:=by
 refine qH (l:=0) (h:=i) rfl BB (Xq _) (by simpa using B) (λr j=>?_) ?_
 .cases l with
  |nil=>cases j
  |cons x l=>simp at j;rw[<-j];exact u x
 .rw[List.drop_zero,Nat.sub_zero,<-List.map_take];exact h
def vz{α:Type}{f:α->List AV}{l:List α}{n i:Nat}{k:IntKind}{L:SH}{K:AV->Prop}(u:∀x,(f x).length=n)(B:i<=l.length)(h:K (.lst ((l.drop i).map f))):W.slice n (.lst (l.map f)) (some (.int k (i:Int))) none none L K:=by
 refine qH (l:=i) (h:=(l.map f).length) BB rfl (by simpa using B) (Fd _) (λr j=>?_) ?_
 .cases l with
  |nil=>cases j
  |cons x l=>simp at j;rw[<-j];exact u x
 .rw[W9 YF,<-List.map_drop];exact h
def HD{b B i k n by_:Nat}{rows m:List (List AV)}{L D:SH}{KL:AV->SH->Prop}(O:(B,(⟨n,m⟩:Blk))∈L)(u:fQ b ⟨n,rows⟩ L D)(E:rows.length=i)(G:k=m.length)(h2:2*(i+m.length)*by_<=2^48)(S:2*(i+m.length)<=2^62)(h4:(m.all λr=>r.all AV.one)=true)
  (h:∀j,j∉L.names->KL (.sl j 0 (i+m.length)) ((j,⟨n,rows++m⟩)::D)):W.append n by_ (.sl b 0 i) (.sl B 0 k) L KL:=by
 subst G;subst E;exact lm (y:=⟨n,rows⟩) (l:=rows) u.mem' rfl YF YF (lq O rfl rfl) h2 S h4 u (λj M=>h j M)
def Fs(l:List Int)(n:Int):List Int:=l.takeWhile λx=>decide (x<n)
def lJ(l:List Int)(n:Int):List Int:=l.dropWhile λx=>decide (x<n)
def qo(l:List Int)(n:Int):List Int:=if(lJ l n).head? =some n then l else Fs l n++n::lJ l n
def BC(l:List Int)(n:Int):Fs l n++lJ l n=l:=List.takeWhile_append_dropWhile
def Ft:∀(l:List Int) (n:Int) (i:Nat),(∀x∈l.take i,x<n)->(∀x,(l.drop i).head? =some x->¬x<n)->Fs l n=l.take i/\lJ l n=l.drop i
 |[],n,i,_,_=>by simp[Fs,lJ]
 | x::l,n,0,_,h2=>by have:¬x<n:=h2 x rfl;simp[Fs,lJ,this]
 | x::l,n,i+1,h1,h2=>by have D:x<n:=h1 x YF;obtain⟨B,u⟩:=Ft l n i (λy j=>h1 y (by simp[j])) (λy j=>h2 y (by simpa using j));unfold Fs at B ⊢;unfold lJ at u ⊢;simp[D,B,u]
def Kw(l:List Int)(n:Int)(hl:l.length<2^41):ao Tryz.prog 193 [.lst (l.map ah),.YJ n] (.lst ((qo l n).map ah)):=by
 refine ac.fz (Fq _ _ _ _ ?_);refine vw ?_;generalize hQ:(λ(v:AV) (L:SH)=>∃Y L2,aE [v] L [Y] L2/\Y=AV.lst ((qo l n).map ah)/\L2=[])=Q;refine j8 l.length (λi=>([.lst (l.map ah),.YJ n,.YJ i],[])) (λi=>∀x∈l.take i,x<n) YF rfl rfl ?_;intro i hi S;dsimp only;refine vw ?_;have fin:∀(b:Nat) (L:SH) (k:Nat),k=(l.take i).length+1+(l.drop i).length->Fs l n=l.take i/\lJ l n=l.drop i->¬(lJ l n).head? =some n->(b,(⟨1,((l.take i).map ah++[[.YJ n]])++(l.drop i).map ah⟩:Blk))∈L->Q (.sl b 0 k) L:=λb L k hk j B hm=>by
  subst hQ;have e:qo l n=l.take i++n::l.drop i:=by unfold qo;rw[if_neg B,j.1,j.2]
  exact⟨_,[],aE.all (Fz.sls (l:=qo l n) hm (by rw[e];simp[ah]) YG (by rw[hk,e];simp;omega)),rfl,rfl⟩
 rcases Fn i l.length with G|G
 .have hd:=a8 G;have E:=aq (f:=ah) G;have O:l.take (i+1)=l.take i++[l[i]]:=LE G;have u:(l.drop i).head? =some l[i]:=by rw[X0 G];rfl
  have hlt:(l.take i).length=i:=by simp;omega
  cases hc:decide (l[i]<n)with
  |true=>
   repeat' (first|refine sy ?_|refine s2 (λh=>?_) λh=>?_|intro)
   exact⟨i+1,YC,YC,λx E=>by
    rw[O]at E;rcases WM.1 E with h|h
    .exact S x h
    .simp at h;subst h;exact of_decide_eq_true hc,dX (by rw[ax G YC]<;>rfl) rfl⟩
  |false=>
   have j:=Ft l n i S (λx E=>by rw[u]at E;cases E;exact of_decide_eq_false hc);cases Z:decide (l[i]=n)with
   |true=>
    repeat' (first|refine sy ?_|refine s2 ?_ ?_|intro)
    subst hQ;have e:qo l n=l:=by unfold qo;rw[if_pos];rw[j.2,u,of_decide_eq_true Z]
    exact⟨_,[],aE.all (.refl _),by rw[e]<;>rfl,rfl⟩
   |false=>
    have B:¬(lJ l n).head? =some n:=by rw[j.2,u];intro h;cases h;simp at Z
    repeat' (first|refine sy ?_|refine vy (λ_=>rfl) YC ?_|refine vz (λ_=>rfl) YC ?_|refine iv rp (λ_=>rfl) YF YH YH (λ_=>rfl) (λM D=>?_)|refine HD rp rp YF YE YH YH YE (λM D=>?_)|refine s2 ?_ ?_|intro)
    exact fin _ _ _ YF j B (by simp[c8])
 .have hd:=bq G;have hi0:i=l.length:=by omega
  have u:(l.drop i).head? =none:=by rw[List.drop_eq_nil_of_le G];rfl
  have j:=Ft l n i S (λx E=>by rw[u]at E;cases E);have B:¬(lJ l n).head? =some n:=by rw[j.2,u];nofun
  repeat' (first|refine sy ?_|refine vy (λ_=>rfl) YC ?_|refine vz (λ_=>rfl) YC ?_|refine iv rp (λ_=>rfl) YF YH YH (λ_=>rfl) (λM D=>?_)|refine HD rp rp YF YE YH YH YE (λM D=>?_)|refine s2 ?_ ?_|intro)
  exact fin _ _ _ YF j B (by simp[c8])
def N4(l:List Int)(n:Int):(qo l n).length<=l.length+1:=by
 unfold qo;split
 .omega
 .have:=congrArg List.length (BC l n);simp only[LT,WO]at this ⊢;omega
def N5{l:List Int}{n:Int}(h:l.Pairwise (·<·)):(qo l n).Pairwise (·<·):=by
 unfold qo;split
 .exact h
 .rename_i u;have Z:=BC l n;rw[<-Z]at h;obtain⟨h1,G,h3⟩:=List.pairwise_append.1 h;have B:∀x∈Fs l n,x<n:=λx D=>by unfold Fs at D;have:=W2.1 (List.all_takeWhile (p:=λx=>decide (x<n)) (l:=l)) x D;exact of_decide_eq_true this
  refine List.pairwise_append.2 ⟨h1,List.pairwise_cons.2 ⟨?_,G⟩,?_⟩
  .cases M:lJ l n with
   |nil=>intro y j;cases j
   |cons x r=>
    rw[M]at u G;have D:¬x<n:=by
     have:(lJ l n).head? =some x:=by rw[M];rfl
     unfold lJ at this;have S:=List.head?_dropWhile_not (p:=λx=>decide (x<n)) l;rw[this]at S;simpa using S
    have Y:x≠n:=λe=>u (by rw[e];rfl)
    intro y j;rcases WX.1 j with rfl|j
    .omega
    .have:=(List.pairwise_cons.1 G).1 y j;omega
  .intro a O b E;rcases WX.1 E with rfl|E
   .exact B a O
   .exact h3 a O b E
def N6{l:List Int}{n x:Int}:x∈qo l n↔x∈l\/x=n:=by
 unfold qo;have j:=BC l n;split
 .rename_i u;constructor
  .exact .inl
  .rintro(h|rfl)
   .exact h
   .rw[<-j];exact W8 _ (List.mem_of_mem_head? u)
 .constructor
  .intro h;rcases WM.1 h with h|h
   .left;rw[<-j];exact XK _ h
   .rcases WX.1 h with h|h
    .exact .inr h
    .left;rw[<-j];exact W8 _ h
  .rintro(h|rfl)
   .rw[<-j]at h;rcases WM.1 h with h|h
    .exact XK _ h
    .exact W8 _ (XN _ h)
   .exact W8 _ Yr
def puts(l m:List Int):List Int:=m.foldl qo l
def HE:∀(m:List Int) {l:List Int},l.Pairwise (·<·)->(puts l m).Pairwise (·<·)
 |[],_,h=>h
 |x::m,_,h=>HE m (N5 h)
def HG:∀(m:List Int) {l:List Int} {x:Int},x∈puts l m↔x∈l\/x∈m
 |[],l,x=>by simp[puts]
 | y::m,l,x=>by
  have:=HG m (l:=qo l y) (x:=x);unfold puts at this ⊢;rw[XL,this,N6];simp only[WX];constructor
  .rintro((h|h)|h)
   .exact .inl h
   .exact .inr (.inl h)
   .exact .inr (.inr h)
  .rintro(h|h|h)
   .exact .inl (.inl h)
   .exact .inl (.inr h)
   .exact .inr h
def BD:∀(m l:List Int),(puts l m).length<=l.length+m.length
 |[],l=>by simp[puts]
 | y::m,l=>by have j:=BD m (qo l y);have u:=N4 l y;unfold puts at j ⊢;rw[XL,WO];omega
def Qh(m:List Int):puts [] m=Cu m:=P0 (HE m .nil) (Km m) λx=>by rw[HG,EQ];simp
def D4(l m:List Int)(x:Int):puts l (m++[x])=qo (puts l m) x:=by unfold puts;rw[Yw];rfl
def N7(l m r:List Int):puts l (m++r)=puts (puts l m) r:=by unfold puts;rw[Yw]
def D5(a b:List Int)(ha:a.length<2^40)(hb:b.length<2^40):ao Tryz.prog 169 [.lst (a.map ah),.lst (b.map ah)] (.lst ((Cu (a++b)).map ah)):=by
 refine ac.fz (BA _ _ _ _ ?_);refine vw ?_;generalize hQ:(λ(v:AV) (L:SH)=>∃G S,aE [v] L [G] S/\G=AV.lst ((Cu (a++b)).map ah)/\S=[])=Q;refine bF a.length (λi (_:Unit)=>([.lst (a.map ah),.lst (b.map ah),.lst ((puts [] (a.take i)).map ah),.YJ i],[])) (λ_ _=>True) () trivial (aE.vals (.cons (.refl _) (.cons (.refl _) (.cons .nils (.cons (.refl _) .nil))))) ?_;rintro i _ hi _;dsimp only;refine vw ?_;have D:=BD (a.take i) [];have Z:(a.take i).length<=a.length:=by rw[List.length_take];exact Nat.min_le_right _ _
 simp only[WT]at D;rcases Fn i a.length with B|B
 .have E:=a8 B;have Y:=aq (f:=ah) B;have hp:=Kw (puts [] (a.take i)) a[i] YC
  repeat' (first|refine sy ?_|(refine pf 193 ?_;refine pm (hp) ?_)|refine s2 ?_ ?_|intro)
  exact⟨i+1,(),YC,YC,trivial,dX (by rw[ax B YC,LE B,D4]<;>rfl) rfl⟩
 .have E:=bq B
  repeat' (first|refine sy ?_|refine s2 ?_ ?_|intro)
  rw[List.take_of_length_le B]at *;refine j8 b.length (λi=>([.lst (b.map ah),.lst ((puts (puts [] a) (b.take i)).map ah),.YJ i],[])) (λ_=>True) trivial rfl rfl ?_;intro j hj _;dsimp only;refine vw ?_;have O:=BD (b.take j) (puts [] a);have M:(b.take j).length<=b.length:=by rw[List.length_take];exact Nat.min_le_right _ _
  rcases Fn j b.length with u|u
  .have E:=a8 u;have Y:=aq (f:=ah) u;have hp:=Kw (puts (puts [] a) (b.take j)) b[j] YC
   repeat' (first|refine sy ?_|(refine pf 193 ?_;refine pm (hp) ?_)|refine s2 ?_ ?_|intro)
   exact⟨j+1,YC,YC,trivial,dX (by rw[ax u YC,LE u,D4]<;>rfl) rfl⟩
  .have E:=bq u;rw[W9 u,<-N7,Qh]
   repeat' (first|refine sy ?_|refine s2 ?_ ?_|intro)
   subst hQ;exact⟨_,[],aE.all (.refl _),rfl,rfl⟩
def sO:RF:=nv (cg Tryz.prog Tryz.f165 [] [])
abbrev C7(a:AV)(L:SH)(Q:R):Prop:=Pc sO 20 Q 0 [] [a] L
def BE(j:AV)(L:SH)(Q:R)(h:C7 j L Q):ac Tryz.prog 165 [j] L Q:=
 fv sO Tryz.func165 h
def sP:RF:=nv (cg Tryz.prog Tryz.f115 [] [])
abbrev C8(a b:AV)(L:SH)(Q:R):Prop:=Pc sP 20 Q 0 [] [a,b] L
def BF(u j:AV)(L:SH)(Q:R)(h:C8 u j L Q):ac Tryz.prog 115 [u,j] L Q:=
 fv sP Tryz.func115 h
def qp:RF:=nv (cg Tryz.prog Tryz.f116 [] [])
abbrev BG(a b c:AV)(L:SH)(Q:R):Prop:=Pc qp 20 Q 0 [] [a,b,c] L
def y9(B u j:AV)(L:SH)(Q:R)(h:BG B u j L Q):ac Tryz.prog 116 [B,u,j] L Q:=
 fv qp Tryz.func116 h
def vA:RF:=nv (cg Tryz.prog Tryz.f172 [(9,⟨[1,2,3,4],[],true,[]⟩)] [(0,[1])])
abbrev Fu(a:AV)(L:SH)(Q:R):Prop:=Pc vA 20 Q 0 [] [a] L
def C9(j:AV)(L:SH)(Q:R)(h:Fu j L Q):ac Tryz.prog 172 [j] L Q:=
 fv vA Tryz.func172 h
def mS:RF:=nv (cg Tryz.prog Tryz.f194 [] [])
abbrev xl(a:AV)(L:SH)(Q:R):Prop:=Pc mS 20 Q 0 [] [a] L
def vB(j:AV)(L:SH)(Q:R)(h:xl j L Q):ac Tryz.prog 194 [j] L Q:=
 fv mS Tryz.func194 h
def iD:RF:=nv (cg Tryz.prog Tryz.f173 [(69034,⟨[2,3,4,8,9,10],[],true,[]⟩),(2102,⟨[2,3,4],[],true,[]⟩),(9,⟨[2,3,4,6,7],[],true,[]⟩)] [(0,[2])])
abbrev l6(Q:R):Vs->SH->Prop:=Jp iD 17 Q 69034 []
abbrev Da(Q:R)(a:SH)(b c d:AV):Prop:=Pc iD 18 Q 2102 [] [b,c,d] a
abbrev Db(Q:R):Vs->SH->Kn->Prop:=Lp iD 19 Q 9 []
abbrev Fv(a b:AV)(L:SH)(Q:R):Prop:=Pc iD 20 Q 0 [] [a,b] L
def gR(u j:AV)(L:SH)(Q:R)(h:Fv u j L Q):ac Tryz.prog 173 [u,j] L Q:=
 fv iD Tryz.func173 h
def kD:RF:=nv (cg Tryz.prog Tryz.f123 [(15,⟨[2,3,4,6],[],true,[]⟩)] [(0,[2]),(9,[7]),(14,[8])])
abbrev zb(Q:R):Vs->SH->Kn->Prop:=Lp kD 19 Q 15 []
abbrev BH(a b:AV)(L:SH)(Q:R):Prop:=Pc kD 20 Q 0 [] [a,b] L
def zc(u j:AV)(L:SH)(Q:R)(h:BH u j L Q):ac Tryz.prog 123 [u,j] L Q:=
 fv kD Tryz.func123 h
def D6(b:Bool):ao Tryz.prog 165 [.bool b] (.YJ (kh b)):=by
 refine BE _ _ _ ?_;refine vw ?_;cases b
 all_goals
  repeat' (first|refine sy ?_|refine s2 ?_ ?_|intro)
  exact⟨rfl,rfl⟩
def LI(op a:Int):ao Tryz.prog 115 [.YJ op,.YJ a] (tm (Ay op a)):=by
 refine BF _ _ _ _ ?_;refine vw ?_;generalize j:(λ(u:AV) (K:SH)=>u=tm (Ay op a)/\K=[])=Q
 repeat' (first|refine sy ?_|(refine pf 165 ?_;refine pm (D6 _) ?_)|refine s2 ?_ ?_|intro)
 all_goals
  subst j;refine⟨?_,rfl⟩;simp_all[Ay,tm]
def Jg(op a b:Int):ao Tryz.prog 116 [.YJ op,.YJ a,.YJ b] (tm (jV op a b)):=by
 refine y9 _ _ _ _ _ ?_;refine vw ?_;generalize j:(λ(u:AV) (K:SH)=>u=tm (jV op a b)/\K=[])=Q
 repeat' (first|refine sy ?_|(refine pf 165 ?_;refine pm (D6 _) ?_)|refine s2 ?_ ?_|intro)
 all_goals
  subst j;refine⟨?_,rfl⟩;simp_all[jV,tm]
def aE.pickV{vs j:List AV}{L R:SH}(h:dD L R)(u:∀K,fi K vs j):aE vs L j R:=by obtain⟨K,B⟩:=h.perm;exact aE.drop B (u K).at_.1 (u K).at_.2
def HH(s:aG)(h1:s.regs.length<2^40)(h2:s.taint.length<2^40)(h3:∀l∈s.taint,l.length<=2^30):ac Tryz.prog 172 [.agg s.enc] [] (zz s):=by
 refine ac.fz (C9 _ _ _ ?_);refine vw ?_;generalize hQ:(λ(v:AV) (L:SH)=>∃v2 L2,aE [v] L [v2] L2/\zz s v2 L2)=Q
 repeat' (first|refine sx ?_|refine iv rp (λ_=>rfl) YE YH YH (λ_=>rfl) (λu B=>?_)|refine sb λu B=>?_|refine s2 (λh=>?_) λh=>?_|fail)
 rename_i _ _ b2 _ _ _ E _;rw[Nat.zero_add];revert u;intro b3 _;refine bF s.taint.length (λi (o:Option Nat)=>([.pptr [s.enc] 0 0,.ptr b2 0 0,.ptr b3 0 0,.YJ i],(b3,⟨4,[[.YJ s.pc,.sl E 0 s.regs.length,ai o i,.YJ s.ev]]⟩)::(E,⟨1,s.regs.map ah⟩)::(b2,⟨4,[[.YJ 0,.nils,.nils,.YJ 0]]⟩)::ab o 1 ((s.taint.take i).map bP))) (λi o=>o=none->i=0) none (λ_=>rfl) (aE.box (K:=[]) (.refl _) (.cons (.refl _) (.cons (.refl _) (.cons .nile (.cons (.refl _) .nil))))) ?_;intro i o hi ho;dsimp only;refine vw ?_;have D:((s.taint.take i).map bP).length=i:=by simp;omega
 have h0:o=none->(s.taint.take i).map bP=[]:=λe=>by rw[ho e];rfl
 rcases Fn i s.taint.length with M|M
 .have hd:=a8 M;have hx:=aq (f:=bP) M;have hr:=h3 _ (WN M)
  repeat' (first|refine sx ?_|refine iv rp (λ_=>rfl) YE YH YH (λ_=>rfl) (λu B=>?_)|refine bG rp rp D h0 YE YF YH YH YE (λu B=>?_)|refine sb λu B=>?_|refine s2 (λh=>?_) λh=>?_|fail)
  rename_i br _ _ _;refine⟨i+1,some u,YC,YC,nofun,?_⟩;refine aE.rowA (A:=[(b3,_),(E,_),(b2,_)]) (b:=u) (R:=[]) (rows':=(s.taint.take (i+1)).map bP) rp ?_ ?_ (by rw[ax M YC]<;>rfl)
  .simp;omega
  .intro j r r' O G;rw[LE M,WL]at G;rcases Fn j i with Y|Y
   .rw[WW (by rw[D];exact Y)]at O G;rw[O]at G;cases G;exact fi.refl _ _
   .rw[WQ (by rw[D];exact Y),D]at O G;generalize j-i=k at O G
    match k with
    |0=>cases O;cases G;exact .cons (Fz.sls (l:=s.taint[i]) rp rfl YG YF) .nil
    |k+1=>simp at O
 .have hd:=bq M;have Z:i=s.taint.length:=by omega
  subst Z;rw[W9 (Fd _)];have S:o=none->s.taint=[]:=λe=>XA.1 (ho e)
  cases o with
  |none=>
   dsimp only[ai,ab]
   repeat' (first|refine sy ?_|refine s2 ?_ ?_|intro)
   subst hQ;exact⟨.agg [.YJ s.pc,.sl E 0 s.regs.length,.lst [],.YJ s.ev],_,aE.pickV (R:=[(E,_)]) rp (λK=>.cons (Fz.aggs (.cons (.refl _) (.cons (.refl _) (.cons .emp (.cons (.refl _) .nil))))) .nil),some E,none,rfl,rfl,nofun,S⟩
  |some bl=>
   dsimp only[ai,ab]
   repeat' (first|refine sy ?_|refine s2 ?_ ?_|intro)
   subst hQ;exact⟨_,_,aE.pick (R:=[(E,_),(bl,_)]) rp rfl,some E,some bl,rfl,rfl,nofun,S⟩
def yf(n:Int):ao Tryz.prog 194 [.YJ n] (.YJ (Nr n)):=by
 refine vB _ _ _ ?_;refine vw ?_;generalize j:(λ(u:AV) (K:SH)=>u=AV.YJ (Nr n)/\K=[])=Q
 repeat' (first|refine sy ?_|refine s2 ?_ ?_|intro)
 all_goals
  subst j;refine⟨?_,rfl⟩;simp_all[Nr]<;>omega
def Jh(op:Int):Bool:=decide (1<=op)&&decide (op<=5)
def LJ(op:Int):ao Tryz.prog 167 [.YJ op] (.bool (Jh op)):=by
 refine oS _ _ _ ?_;refine vw ?_;generalize j:(λ(u:AV) (K:SH)=>u=AV.bool (Jh op)/\K=[])=Q
 repeat' (first|refine sy ?_|refine s2 ?_ ?_|intro)
 all_goals
  subst j;refine⟨?_,rfl⟩;simp_all[Jh]<;>omega
def qq(r:Option aG)(o t:Option Nat)(v:AV)(L:SH):Prop:=
 match r with
 |none=>v=.tup [.agg lu,.bool false]\/∃s3:aG,v=.tup [.agg (dL s3 o t),.bool false]
 |some s2=>v=.tup [.agg (dL s2 o t),.bool true]/\L=ab o 1 (s2.regs.map ah)++ab t 1 (s2.taint.map bP)
def mT(s:aG)(o t:Option Nat)(ho:o=none->s.regs=[])(hsm:s.regs.length<2^40)(i:az)(E D:Nat)(R:SH)(Q:AV->SH->Prop)(l:List Int)(hl:l.length<2^40)
  (u:l.all s.has=false->∀L,Q (.tup [.agg lu,.bool false]) L)
  (j:l.all s.has=true->Da Q ((D,⟨4,[lu]⟩)::(E,⟨4,[dL s o t]⟩)::R) (.pptr [i.enc] 0 0) (.ptr E 0 0) (.ptr D 0 0)) :
  W.loop (Db Q) [.pptr [i.enc] 0 0,.ptr E 0 0,.ptr D 0 0,.lst (l.map ah),.YJ (0:Nat)] ((D,⟨4,[lu]⟩)::(E,⟨4,[dL s o t]⟩)::R):=by
 refine j8 l.length (λk=>([.pptr [i.enc] 0 0,.ptr E 0 0,.ptr D 0 0,.lst (l.map ah),.YJ k],(D,⟨4,[lu]⟩)::(E,⟨4,[dL s o t]⟩)::R)) (λk=>∀x∈l.take k,s.has x=true) YF rfl rfl ?_;intro k hk hG;dsimp only;refine vw ?_;rcases Nat.lt_or_ge k l.length with B|B
 .have hd:=a8 B;have O:=aq (f:=ah) B;have Y:l.take (k+1)=l.take k++[l[k]]:=LE B;have no:s.has l[k]=false->l.all s.has=false:=λh=>by rw[List.all_eq_false];exact⟨_,WN B,by simp[h]⟩
  have G:s.has l[k]=true->∀x∈l.take (k+1),s.has x=true:=λh x O=>by
   rw[Y]at O;rcases WM.1 O with S|S
   .exact hG x S
   .simp at S;rw[S];exact h
  cases o with
  |none=>
   have h0:=ho rfl;have h00:s.has l[k]=false:=by simp[aG.has,inB,h0]
   unfold dL;dsimp only[aQ]
   repeat' (first|refine sy ?_|refine s2 ?_ ?_|intro)
   all_goals first|exact u (no h00) _|skip
   all_goals
    exfalso;simp_all
    try omega
  |some b1=>
   have M:s.has l[k]=(decide (0<=l[k])&&decide (l[k]<(s.regs.length:Int))):=rfl;unfold dL;dsimp only[aQ]
   repeat' (first|refine sy ?_|refine s2 ?_ ?_|intro)
   all_goals first|exact u (no (by rw[M];simp_all<;>omega)) _|exact⟨k+1,YC,YC,G (by rw[M];simp_all<;>omega),dX (by rw[ax B YC]<;>rfl) rfl⟩
 .have hd:=bq B;have Z:k=l.length:=by omega
  subst Z;have j:=j (W2.2 λx O=>hG x (by simpa using O))
  repeat' (first|exact j|refine sy ?_|refine s2 ?_ ?_|intro)
def Qi{b i n by_:Nat}{rows:List (List AV)}{L B:SH}{KL:AV->SH->Prop}(u:fQ b ⟨n,rows⟩ L B)(D:rows.length=i)(h2:2*i*by_<=2^48)(G:2*i<=2^62)(h:∀j,j∉L.names->KL (.sl j 0 i) ((j,⟨n,rows⟩)::B)):W.append n by_ (.sl b 0 i) .nils L KL:=by subst D;exact lm (y:=⟨n,rows⟩) (l:=rows) (m:=[]) u.mem' rfl YF YF rfl (by simpa using h2) (by simpa using G) rfl u (λj E=>by simpa using h j E)
def zD(s:aG)(op a ib ic n site v:Int)(k:Nat)(u:List Int)(hu:u.length<=2^31)(E b2 Y b4:Nat)(Z:Bool)(ha:a=k)(hal:k<s.regs.length)(S:k<s.taint.length)(h13:Y≠E)(h23:Y≠b2)(x:AV)(hx:x=.nils/\u=[]\/x=.lst (u.map ah))(Q:AV->SH->Prop)
  (hq:∀vv L,(∃v2 L2,aE [vv] L [v2] L2/\qq (if Z then some (s.put a v u)else none) (some E) (some b2) v2 L2)->Q vv L) :
  l6 Q [.pptr [(az.mk op a ib ic n site).enc] 0 0,.ptr Y 0 0,.ptr b4 0 0,.YJ v,.bool Z,x] [(b4,⟨4,[lu]⟩),(Y,⟨4,[dL s (some E) (some b2)]⟩),(E,⟨1,s.regs.map ah⟩),(b2,⟨1,s.taint.map bP⟩)]:=by
 subst ha;have hxa:=aq (f:=ah) hal;have hya:=aq (f:=bP) S;have e1:(s.put k v u).regs.map ah=(s.regs.map ah).set k [.YJ v]:=by simp[aG.put,XI,ah]
 have e2:(s.put k v u).taint.map bP=(s.taint.map bP).set k [.lst (u.map ah)]:=by simp[aG.put,XI,bP]
 have e3:dL (s.put k v u) (some E) (some b2)=[.YJ (IntKind.i64.wrap (s.pc+1)),.sl E 0 s.regs.length,.sl b2 0 s.taint.length,.YJ s.ev]:=by simp[dL,aG.put,aQ]
 have fin:∀(nb m:Nat) (L:SH) (c3 c4:Blk) (r:List AV),r=[.sl nb 0 m]->m=u.length->wq L ([(E,⟨1,(s.regs.map ah).set k [.YJ v]⟩)]++(b2,⟨1,(s.taint.map bP).set k r⟩)::[]) [(nb,⟨1,u.map ah⟩),(b4,c4),(Y,c3)]->Q (.tup [.agg [.YJ (IntKind.i64.wrap (s.pc+1)),.sl E 0 s.regs.length,.sl b2 0 s.taint.length,.YJ s.ev],.bool Z]) L:=by
  intro nb m L c3 c4 r hr hm M;subst hr;refine hq _ _ ?_;cases Z with
  |false=>exact⟨_,[],aE.all (.refl _),.inr ⟨s.put k v u,by rw[e3]⟩⟩
  |true=>
   refine⟨.tup [.agg (dL (s.put k v u) (some E) (some b2)),.bool true],[(E,⟨1,(s.regs.map ah).set k [.YJ v]⟩),(b2,⟨1,(s.taint.map bP).set k [.lst (u.map ah)]⟩)],?_,rfl,?_⟩
   .refine aE.rowA (A:=[(E,_)]) (b:=b2) (R:=[]) (rows':=(s.taint.map bP).set k [.lst (u.map ah)]) M YF (λj r r' O G=>?_) (by rw[e3]);rw[Xc]at O G;by_cases hj:k=j
    .rw[if_pos hj]at O G;rw[if_pos YH]at O G;cases O;cases G;exact .cons (Fz.sls (l:=u) (.head _) rfl YG hm) .nil
    .rw[if_neg hj]at O G;rw[O]at G;cases G;exact fi.refl _ _
   .rw[e1,e2];rfl
 refine vw ?_;rcases hx with⟨rfl,rfl⟩|rfl
 .repeat' (first|refine sx ?_|refine Qi rp rfl YG YG (λB D=>?_)|refine sb λB D=>?_|refine s2 ?_ ?_|intro)
  exact fin B 0 _ _ _ _ rfl rfl rp
 .repeat' (first|refine sx ?_|refine iv rp (λ_=>rfl) YE YH YH (λ_=>rfl) (λB D=>?_)|refine sb λB D=>?_|refine s2 ?_ ?_|intro)
  exact fin B (0+u.length) _ _ _ _ rfl YF rp
section
structure Wt(P:Prop):Prop where
 h:P
theorem Kx{Q:AV->SH->Prop}{vs:List AV}{L:SH}(h:Wt (l6 Q vs L)):l6 Q vs L:=h.h
theorem Ji(o:Option Nat)(n:Nat):(aQ o n).one=true:=by cases o<;>rfl
theorem qr(s:aG)(o t:Option Nat):(dL s o t).all AV.one=true:=by unfold dL;simp[Ji];exact⟨rfl,rfl⟩
theorem WI(n a:Int):ao Tryz.prog 115 [.YJ (Nr n),.YJ a] (.tup [.YJ (Ay n a).1,.bool (Ay n a).2]):=by
 have:=LI (Nr n) a
 rwa [U3]at this
theorem Wu(n a b:Int):ao Tryz.prog 116 [.YJ (Nr n),.YJ a,.YJ b] (.tup [.YJ (jV n a b).1,.bool (jV n a b).2]):=by
 have:=Jg (Nr n) a b
 rwa [Sp]at this
section
variable (s:aG) (o t:Option Nat) (ho:o=none->s.regs=[]) (ht:t=none->s.taint=[]) (hlen:s.taint.length=s.regs.length) (hsm:s.regs.length<2^40) (hsh:∀l∈s.taint,l.length<=2^30) (ia ib ic n site:Int)
include ho ht hlen hsm hsh
theorem SW:ac Tryz.prog 173 [.agg (az.mk 5 ia ib ic n site).enc,.agg (dL s o t)] (ab o 1 (s.regs.map ah)++ab t 1 (s.taint.map bP)) (qq (aZ ⟨5,ia,ib,ic,n,site⟩ s) o t):=by
 have S:ao Tryz.prog 54 [.agg (az.mk 5 ia ib ic n site).enc] (.lst (([]:List Int).map ah)):=by have:=oh ⟨5,ia,ib,ic,n,site⟩;simpa[aC]using this
 refine ac.fz (gR _ _ _ _ ?_);refine vw ?_;generalize G:(λ(v:AV) (L:SH)=>∃B E,aE [v] L [B] E/\qq (aZ ⟨5,ia,ib,ic,n,site⟩ s) o t B E)=Q;have D:∀vv L,(∃B E,aE [vv] L [B] E/\qq (aZ ⟨5,ia,ib,ic,n,site⟩ s) o t B E)->Q vv L:=by subst G;exact λ_ _ h=>h
 clear G
 repeat' (first|refine sx ?_|refine An (cs:=dL s o t) rfl (qr s o t) (λj u=>?_)|refine sb λj u=>?_|refine s2 (λh=>?_) λh=>?_|fail)
 rename_i M O;refine mT s o t ho hsm (az.mk 5 ia ib ic n site) M j _ Q [] YF (λh L=>?_) (λh=>?_)
 .simp at h
 .have e:aZ ⟨5,ia,ib,ic,n,site⟩ s=some {s with pc:=ia}:=by simp[aZ]
  rw[e]at D;refine vw ?_;rcases o with _|Z<;>rcases t with _|Y
  all_goals
   dsimp only[ab,List.cons_append,List.nil_append]
   repeat' (first|refine sx ?_|refine sb λj u=>?_|refine s2 ?_ ?_|intro)
   exact D _ _ ⟨_,_,aE.forget (K:=[(j,_),(M,_)]) (List.Perm.refl _),rfl,rfl⟩
theorem SX:ac Tryz.prog 173 [.agg (az.mk 1 ia ib ic n site).enc,.agg (dL s o t)] (ab o 1 (s.regs.map ah)++ab t 1 (s.taint.map bP)) (qq (aZ ⟨1,ia,ib,ic,n,site⟩ s) o t):=by
 have hr:ao Tryz.prog 54 [.agg (az.mk 1 ia ib ic n site).enc] (.lst ([ia].map ah)):=by have:=oh ⟨1,ia,ib,ic,n,site⟩;simpa[aC]using this
 refine ac.fz (gR _ _ _ _ ?_);refine vw ?_;generalize hQ:(λ(v:AV) (L:SH)=>∃G O,aE [v] L [G] O/\qq (aZ ⟨1,ia,ib,ic,n,site⟩ s) o t G O)=Q;have u:∀vv L,(∃G O,aE [vv] L [G] O/\qq (aZ ⟨1,ia,ib,ic,n,site⟩ s) o t G O)->Q vv L:=by subst hQ;exact λ_ _ h=>h
 clear hQ
 repeat' (first|refine sx ?_|refine An (cs:=dL s o t) rfl (qr s o t) (λj B=>?_)|refine sb λj B=>?_|refine s2 (λh=>?_) λh=>?_|fail)
 rename_i S M;refine mT s o t ho hsm (az.mk 1 ia ib ic n site) S j _ Q [ia] YF (λh L=>?_) (λh=>?_)
 .have e:aZ ⟨1,ia,ib,ic,n,site⟩ s=none:=by simp at h;simp_all[aZ]
  rw[e]at u;exact u _ _ ⟨_,[],aE.all (.refl _),.inl rfl⟩
 .have ha:s.has ia=true:=by simpa using h
  have e:aZ ⟨1,ia,ib,ic,n,site⟩ s=if true then some (s.put ia n [])else none:=by simp[aZ,ha]
  rw[e]at u;obtain⟨a,rfl,E⟩:=eO.1 ha;obtain⟨b1,rfl⟩:=eP ho E;obtain⟨b2,rfl⟩:=eP ht (k:=a) YC;have Z:S≠b1:=λe=>M (by simp[SH.names,ab,e])
  have Y:S≠b2:=λe=>M (by simp[SH.names,ab,e])
  have D:a<s.taint.length:=by omega
  have hxa:=aq (f:=ah) E;have hya:=aq (f:=bP) D;refine vw ?_;dsimp only[ab,List.cons_append,List.nil_append]
  repeat' (first|(with_reducible refine Kx ?_)|refine sx ?_|refine sb λj B=>?_|refine s2 ?_ ?_|intro)
  exact⟨zD s 1 a _ _ n site n a [] YG b1 b2 S j true rfl E D Z Y _ (.inl ⟨rfl,rfl⟩) Q u⟩
theorem SY:ac Tryz.prog 173 [.agg (az.mk 2 ia ib ic n site).enc,.agg (dL s o t)] (ab o 1 (s.regs.map ah)++ab t 1 (s.taint.map bP)) (qq (aZ ⟨2,ia,ib,ic,n,site⟩ s) o t):=by
 have hr:ao Tryz.prog 54 [.agg (az.mk 2 ia ib ic n site).enc] (.lst ([ia,ib].map ah)):=by have:=oh ⟨2,ia,ib,ic,n,site⟩;simpa[aC]using this
 refine ac.fz (gR _ _ _ _ ?_);refine vw ?_;generalize hQ:(λ(v:AV) (L:SH)=>∃M Y,aE [v] L [M] Y/\qq (aZ ⟨2,ia,ib,ic,n,site⟩ s) o t M Y)=Q;have j:∀vv L,(∃M Y,aE [vv] L [M] Y/\qq (aZ ⟨2,ia,ib,ic,n,site⟩ s) o t M Y)->Q vv L:=by subst hQ;exact λ_ _ h=>h
 clear hQ
 repeat' (first|refine sx ?_|refine An (cs:=dL s o t) rfl (qr s o t) (λB D=>?_)|refine sb λB D=>?_|refine s2 (λh=>?_) λh=>?_|fail)
 rename_i Z S;refine mT s o t ho hsm (az.mk 2 ia ib ic n site) Z B _ Q [ia,ib] YF (λh L=>?_) (λh=>?_)
 .have e:aZ ⟨2,ia,ib,ic,n,site⟩ s=none:=by simp at h;simp_all[aZ]
  rw[e]at j;exact j _ _ ⟨_,[],aE.all (.refl _),.inl rfl⟩
 .obtain⟨ha,hb⟩:s.has ia=true/\s.has ib=true:=by simpa using h
  have e:aZ ⟨2,ia,ib,ic,n,site⟩ s=if true then some (s.put ia (s.reg ib) (s.tnt ib))else none:=by simp[aZ,ha,hb]
  rw[e]at j;obtain⟨a,rfl,G⟩:=eO.1 ha;obtain⟨b,rfl,O⟩:=eO.1 hb;obtain⟨b1,rfl⟩:=eP ho G;obtain⟨b2,rfl⟩:=eP ht (k:=a) YC;have h13:Z≠b1:=λe=>S (by simp[SH.names,ab,e])
  have h23:Z≠b2:=λe=>S (by simp[SH.names,ab,e])
  have E:a<s.taint.length:=by omega
  have hxa:=aq (f:=ah) G;have hya:=aq (f:=bP) E;have u:b<s.taint.length:=by omega
  have hxb:=aq (f:=ah) O;have hyb:=aq (f:=bP) u;have hub:s.taint[b].length<=2^31:=by have:=hsh _ (WN u);omega
  have hrb:s.reg b=s.regs[b]:=by simp[aG.reg,List.getD,O]
  have htb:s.tnt b=s.taint[b]:=by simp[aG.tnt,List.getD,u]
  rw[hrb,htb]at j;refine vw ?_;dsimp only[ab,List.cons_append,List.nil_append]
  repeat' (first|(with_reducible refine Kx ?_)|refine sx ?_|refine sb λB D=>?_|refine s2 ?_ ?_|intro)
  exact⟨zD s 2 a _ _ n site _ a _ hub b1 b2 Z B true rfl G E h13 h23 _ (.inr rfl) Q j⟩
theorem SZ:ac Tryz.prog 173 [.agg (az.mk 3 ia ib ic n site).enc,.agg (dL s o t)] (ab o 1 (s.regs.map ah)++ab t 1 (s.taint.map bP)) (qq (aZ ⟨3,ia,ib,ic,n,site⟩ s) o t):=by
 have hr:ao Tryz.prog 54 [.agg (az.mk 3 ia ib ic n site).enc] (.lst ([ia,ib].map ah)):=by have:=oh ⟨3,ia,ib,ic,n,site⟩;simpa[aC]using this
 refine ac.fz (gR _ _ _ _ ?_);refine vw ?_;generalize hQ:(λ(v:AV) (L:SH)=>∃M Y,aE [v] L [M] Y/\qq (aZ ⟨3,ia,ib,ic,n,site⟩ s) o t M Y)=Q;have j:∀vv L,(∃M Y,aE [vv] L [M] Y/\qq (aZ ⟨3,ia,ib,ic,n,site⟩ s) o t M Y)->Q vv L:=by subst hQ;exact λ_ _ h=>h
 clear hQ
 repeat' (first|refine sx ?_|refine An (cs:=dL s o t) rfl (qr s o t) (λB D=>?_)|refine sb λB D=>?_|refine s2 (λh=>?_) λh=>?_|fail)
 rename_i Z S;refine mT s o t ho hsm (az.mk 3 ia ib ic n site) Z B _ Q [ia,ib] YF (λh L=>?_) (λh=>?_)
 .have e:aZ ⟨3,ia,ib,ic,n,site⟩ s=none:=by simp at h;simp_all[aZ]
  rw[e]at j;exact j _ _ ⟨_,[],aE.all (.refl _),.inl rfl⟩
 .obtain⟨ha,hb⟩:s.has ia=true/\s.has ib=true:=by simpa using h
  have e:aZ ⟨3,ia,ib,ic,n,site⟩ s=if(Ay n (s.reg ib)).2 then some (s.put ia (Ay n (s.reg ib)).1 (s.tnt ib))else none:=by simp[aZ,ha,hb]
  rw[e]at j;obtain⟨a,rfl,G⟩:=eO.1 ha;obtain⟨b,rfl,O⟩:=eO.1 hb;obtain⟨b1,rfl⟩:=eP ho G;obtain⟨b2,rfl⟩:=eP ht (k:=a) YC;have h13:Z≠b1:=λe=>S (by simp[SH.names,ab,e])
  have h23:Z≠b2:=λe=>S (by simp[SH.names,ab,e])
  have E:a<s.taint.length:=by omega
  have hxa:=aq (f:=ah) G;have hya:=aq (f:=bP) E;have u:b<s.taint.length:=by omega
  have hxb:=aq (f:=ah) O;have hyb:=aq (f:=bP) u;have hub:s.taint[b].length<=2^31:=by have:=hsh _ (WN u);omega
  have hrb:s.reg b=s.regs[b]:=by simp[aG.reg,List.getD,O]
  have htb:s.tnt b=s.taint[b]:=by simp[aG.tnt,List.getD,u]
  have hop:=yf n;have hun:=WI n s.regs[b];rw[hrb,htb]at j;generalize Ay n s.regs[b]=p at hun j;refine vw ?_;dsimp only[ab,List.cons_append,List.nil_append]
  repeat' (first|(with_reducible refine Kx ?_)|refine sx ?_|(refine EB ?_ ?_;focus (simp[rm,rc,rz,W.free,am,gE,c8,SH.names,aQ];done))|refine sb λB D=>?_|refine s2 ?_ ?_|intro)
  exact⟨zD s 3 a _ _ n site p.1 a _ hub b1 b2 Z B p.2 rfl G E h13 h23 _ (.inr rfl) Q j⟩
theorem S0:ac Tryz.prog 173 [.agg (az.mk 4 ia ib ic n site).enc,.agg (dL s o t)] (ab o 1 (s.regs.map ah)++ab t 1 (s.taint.map bP)) (qq (aZ ⟨4,ia,ib,ic,n,site⟩ s) o t):=by
 have hr:ao Tryz.prog 54 [.agg (az.mk 4 ia ib ic n site).enc] (.lst ([ia,ib,ic].map ah)):=by have:=oh ⟨4,ia,ib,ic,n,site⟩;simpa[aC]using this
 refine ac.fz (gR _ _ _ _ ?_);refine vw ?_;generalize hQ:(λ(v:AV) (L:SH)=>∃S L2,aE [v] L [S] L2/\qq (aZ ⟨4,ia,ib,ic,n,site⟩ s) o t S L2)=Q;have j:∀vv L,(∃S L2,aE [vv] L [S] L2/\qq (aZ ⟨4,ia,ib,ic,n,site⟩ s) o t S L2)->Q vv L:=by subst hQ;exact λ_ _ h=>h
 clear hQ
 repeat' (first|refine sx ?_|refine An (cs:=dL s o t) rfl (qr s o t) (λE G=>?_)|refine sb λE G=>?_|refine s2 (λh=>?_) λh=>?_|fail)
 rename_i b3 hb3;refine mT s o t ho hsm (az.mk 4 ia ib ic n site) b3 E _ Q [ia,ib,ic] YF (λh L=>?_) (λh=>?_)
 .have e:aZ ⟨4,ia,ib,ic,n,site⟩ s=none:=by simp at h;simp_all[aZ]
  rw[e]at j;exact j _ _ ⟨_,[],aE.all (.refl _),.inl rfl⟩
 .obtain⟨ha,hb,hc⟩:s.has ia=true/\s.has ib=true/\s.has ic=true:=by simpa using h
  have e:aZ ⟨4,ia,ib,ic,n,site⟩ s=if(jV n (s.reg ib) (s.reg ic)).2 then some (s.put ia (jV n (s.reg ib) (s.reg ic)).1 (Cu (s.tnt ib++s.tnt ic)))else none:=by simp[aZ,ha,hb,hc]
  rw[e]at j;obtain⟨a,rfl,O⟩:=eO.1 ha;obtain⟨b,rfl,hbl⟩:=eO.1 hb;obtain⟨c,rfl,Z⟩:=eO.1 hc;obtain⟨b1,rfl⟩:=eP ho O;obtain⟨b2,rfl⟩:=eP ht (k:=a) YC;have h13:b3≠b1:=λe=>hb3 (by simp[SH.names,ab,e])
  have h23:b3≠b2:=λe=>hb3 (by simp[SH.names,ab,e])
  have M:a<s.taint.length:=by omega
  have hxa:=aq (f:=ah) O;have hya:=aq (f:=bP) M;have D:b<s.taint.length:=by omega
  have hxb:=aq (f:=ah) hbl;have hyb:=aq (f:=bP) D;have B:c<s.taint.length:=by omega
  have hxc:=aq (f:=ah) Z;have hyc:=aq (f:=bP) B;have hub:s.taint[b].length<=2^31:=by have:=hsh _ (WN D);omega
  have huc:s.taint[c].length<=2^31:=by have:=hsh _ (WN B);omega
  have hrb:s.reg b=s.regs[b]:=by simp[aG.reg,List.getD,hbl]
  have htb:s.tnt b=s.taint[b]:=by simp[aG.tnt,List.getD,D]
  have hrc:s.reg c=s.regs[c]:=by simp[aG.reg,List.getD,Z]
  have htc:s.tnt c=s.taint[c]:=by simp[aG.tnt,List.getD,B]
  have hop:=yf n;have hun:=Wu n s.regs[b] s.regs[c];have hui:=D5 s.taint[b] s.taint[c] YC YC;have Y:(Cu (s.taint[b]++s.taint[c])).length<=2^31:=Nat.le_trans (DS (U:=s.taint[b]++s.taint[c]) λx hx=>hx) (by have h1:=hsh _ (List.getElem_mem D);have h2:=hsh _ (List.getElem_mem B);simp;omega);rw[hrb,htb,hrc,htc]at j;generalize jV n s.regs[b] s.regs[c]=p at hun j;generalize Cu (s.taint[b]++s.taint[c])=u at hui j Y;refine vw ?_;dsimp only[ab,List.cons_append,List.nil_append]
  repeat' (first|(with_reducible refine Kx ?_)|refine sx ?_|(refine EB ?_ ?_;focus (simp[rm,rc,rz,W.free,am,gE,c8,SH.names,aQ];done))|refine sb λE G=>?_|refine s2 ?_ ?_|intro)
  exact⟨zD s 4 a _ _ n site p.1 a u Y b1 b2 b3 E p.2 rfl O M h13 h23 _ (.inr rfl) Q j⟩
end
end
