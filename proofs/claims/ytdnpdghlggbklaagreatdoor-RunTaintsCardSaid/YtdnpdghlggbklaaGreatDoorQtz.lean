/- A part of the proof; the statement is proved in the last part. -/
import Derived.Test.YtdnpdghlggbklaaGreatDoorQty
set_option linter.unusedSimpArgs false
set_option linter.unusedVariables false
namespace Go.Proofs.YtdnpdghlggbklaaGreatDoor.Am
section
set_option maxRecDepth 1000000
theorem Ou:az Tryz.prog 10 [] (.bool true):=.of_ok (gg (n:=2000) (d:=50) Xh (by kernel_rfl) (by kernel_rfl))
end
section
set_option maxRecDepth 100000
set_option maxHeartbeats 2000000
theorem SA(t s:List UInt8):az Tryz.prog 6 [.lst (t.map eX),.lst (s.map eX)] (.bool (decide (200<t.length)||decide (100<s.length))):=by
 refine GY _ _ _ _ ?_;unfold zl;by_cases p1:200<t.length
 ·have d1:decide ((t.length:Int) > 200)=true:=decide_eq_true ZJ
  repeat' (first|refine st ?_|refine sb λnb_ hnb_=>?_|refine s2 (λh=>?_) λh=>?_|fail)
  exact⟨by rw[decide_eq_true p1];rfl,rfl⟩
 ·have d1:decide ((t.length:Int) > 200)=false:=decide_eq_false ZJ;by_cases p2:100<s.length
  ·have d2:decide ((s.length:Int) > 100)=true:=decide_eq_true ZJ
   repeat' (first|refine st ?_|refine sb λnb_ hnb_=>?_|refine s2 (λh=>?_) λh=>?_|fail)
   exact⟨by rw[decide_eq_false p1,decide_eq_true p2];exact congrArg AV.bool d2,rfl⟩
  ·have d2:decide ((s.length:Int) > 100)=false:=decide_eq_false ZJ
   repeat' (first|refine st ?_|refine sb λnb_ hnb_=>?_|refine s2 (λh=>?_) λh=>?_|fail)
   exact⟨by rw[decide_eq_false p1,decide_eq_false p2];exact congrArg AV.bool d2,rfl⟩
end
section
set_option maxRecDepth 100000
set_option maxHeartbeats 2000000
theorem Ov(t:Int)(l:List aY)(k:Nat)(hk:k<l.length):co t (l.take (k+1))=if l[k].thread=t then co t (l.take k)++[l[k]]else co t (l.take k):=by
 unfold co;rw[Yd hk,List.filter_append];by_cases h:l[k].thread=t
 ·simp[h]
 ·simp[h]
theorem Np(ev:List aY)(t:Int)(hev:ev.length≤400):az Tryz.prog 15 [.lst (ev.map aY.enc),.ZO t] (.lst ((co t ev).map aY.enc)):=by
 refine af.fz (IT _ _ _ _ ?_);unfold Cu;generalize hQ:(λ(v:AV) (L:SH)=>∃v2 L2,aG [v] L [v2] L2∧v2=AV.lst ((co t ev).map aY.enc)∧L2=[])=Q;have hq:∀v L,Fz L v (.lst ((co t ev).map aY.enc))→Q v L:=λv L h=>by subst hQ;exact⟨_,[],aG.all h,rfl,rfl⟩
 clear hQ;have hle:∀k,(co t (ev.take k)).length≤400:=λk=>by
  have:=Zb (λe:aY=>decide (e.thread=t)) (ev.take k);unfold co;have h2:(ev.take k).length≤ev.length:=by simp;omega
  omega
 refine bW ev.length (λk (o:Option Nat)=>([.lst (ev.map aY.enc),.ZO t,ao o (co t (ev.take k)).length,.ZO k],ae o 7 ((co t (ev.take k)).map aY.enc))) (λk o=>o=none→co t (ev.take k)=[]) none (λ_=>rfl) (aG.drop (K:=[]) (.refl _) rfl (iV.at_ (.cons (.refl _) (.cons (.refl _) (.cons .nile (.cons (.refl _) .nil))))).2) ?_;intro k o hk ho;dsimp only;unfold zm;have hle:=hle k;rcases Nat.lt_or_ge k ev.length with g1|g1
 ·have hd:=bE g1;have hx:=ay (f:=aY.enc) g1;have hw:=Ov t ev k g1;have ho2:o=none→(co t (ev.take k)).map aY.enc=[]:=λe=>by rw[ho e];rfl
  generalize hE:ev.map aY.enc=E at *;have skip:co t (ev.take (k+1))=co t (ev.take k)→∀V,V=[.lst E,.ZO t,ao o (co t (ev.take k)).length,.ZO (IntKind.i64.wrap ((k:Int)+1))]→∃(j:Nat) (o':Option Nat),k<j∧j≤ev.length∧(o'=none→co t (ev.take j)=[])∧aG V (ae o 7 ((co t (ev.take k)).map aY.enc))
    [.lst E,.ZO t,ao o' (co t (ev.take j)).length,.ZO j] (ae o' 7 ((co t (ev.take j)).map aY.enc)):=λh V hV=>by
   subst hV;exact⟨k+1,o,ZJ,ZJ,by rw[h];exact ho,eQ (by rw[aA g1 ZJ,h]) (by rw[h])⟩
  have fin:co t (ev.take (k+1))=co t (ev.take k)++[ev[k]]→∀(nb n:Nat) (L:SH),n=(co t (ev.take k)).length+1→gJ L (ae (some nb) 7 ((co t (ev.take k)).map aY.enc++[ev[k].enc]))→∃(j:Nat) (o':Option Nat),k<j∧j≤ev.length∧(o'=none→co t (ev.take j)=[])∧aG [.lst E,.ZO t,.sl nb 0 n,.ZO (IntKind.i64.wrap ((k:Int)+1))] L
    [.lst E,.ZO t,ao o' (co t (ev.take j)).length,.ZO j] (ae o' 7 ((co t (ev.take j)).map aY.enc)):=λh nb n L hn hL=>by
   refine⟨k+1,some nb,ZJ,ZJ,nofun,?_⟩;rw[aA g1 ZJ,hn];exact aG.pickE hL (by rw[h];simp[ao]) (by rw[h];simp)
  generalize ev[k]=y at *;obtain⟨th,kind,obj,value,site,deps,frm⟩:=y;dsimp only at hw;rw[show aY.enc ⟨th,kind,obj,value,site,deps,frm⟩=[.ZO th,.ZO kind,.ZO obj,.ZO value,.ZO site,.lst (deps.map aj),.lst (frm.map aj)]from rfl]at hx fin;generalize hX:(co t (ev.take k)).map aY.enc=X at *;have hXl:X.length=(co t (ev.take k)).length:=by rw[←hX];simp
  have hEl:E.length=ev.length:=by rw[←hE];simp
  rw[←hEl]at hd;clear hq;by_cases p1:th=t
  ·have d1:decide (th=t)=true:=decide_eq_true p1;rw[if_pos p1]at hw
   repeat' (first|refine st ?_|refine cx rp rp ZJ ho2 ZL ZM (by simp;omega) (by simp;omega) ZL (λnb_ hnb_=>?_)|refine sb λnb_ hnb_=>?_|refine s2 (λh=>?_) λh=>?_|fail)
   exact fin hw nb_ _ _ rfl rp
  ·have d1:decide (th=t)=false:=decide_eq_false p1;rw[if_neg p1]at hw
   repeat' (first|refine st ?_|refine sb λnb_ hnb_=>?_|refine s2 (λh=>?_) λh=>?_|fail)
   exact skip hw _ rfl
 ·have hd:=bI g1;have hk0:k=ev.length:=by omega
  subst hk0;rw[YL (X7 _)]at *;have fin:∀L,(∀q∈ae o 7 ((co t ev).map aY.enc),q∈L)→Q (ao o (co t ev).length) L:=λL hm=>by
   refine hq _ _ ?_;cases o with
   |none=>rw[ho rfl];exact .emp
   |some b=>exact Fz.sls (hm _ (.head _)) rfl ZN ZM
  clear hq
  repeat' (first|refine st ?_|refine sb λnb_ hnb_=>?_|refine s2 (λh=>?_) λh=>?_|fail)
  exact fin _ λq h=>h
end
structure Mk(a b:List aY):Prop where
 la:a.length≤400
 lb:b.length≤400
 ev:∀k (hk:k<a.length),UX (a.take k) a[k]
 ag:∀k (g1:k<a.length) (g2:k<b.length),(∀j (hj:j<k),(a[j]'ZJ).kind=5→(b[j]'ZJ).value=(a[j]'ZJ).value)→KP a[k] b[k]
theorem SB(c:bB)(hl:∀t∈c.ts,t.ins.length<2^40)(l m:List dq)(i:Nat)(hi:i<c.ts.length):Mk (co i (kI c l).1.ev) (co i (kI c m).1.ev):=by
 have s1:=(rB c hl l).2;have s2:=(rB c hl m).2;have f1:(co i (kI c l).1.ev).length≤(kI c l).1.ev.length:=Zb _ _;have f2:(co i (kI c m).1.ev).length≤(kI c m).1.ev.length:=Zb _ _;unfold kI at *;cases hd:nZ (mH c)with
 |false=>rw[hd]at f1 f2 s1 s2;exact⟨by simp[co],by simp[co],λk hk=>by simp[co]at hk,λk g1=>by simp[co]at g1⟩
 |true=>have hc:=jm.1 hd;rw[hd]at f1 f2 s1 s2;exact⟨Yn f1 s1,Yn f2 s2,Md hc hl l hi,Mc hc l m hi⟩
theorem TT.asc_self{l:List aY}{t:List Int}(h:TT l t):EM (t++[])=t:=by rw[YM];exact M6 (DT t) h.up λx=>rv t x
theorem TT.len{l:List aY}{t:List Int}(h:TT l t):t.length≤l.length:=by refine Yn (Bc (U:=(List.range l.length).map λi:Nat=>(i:Int)) (h.up.imp λh=>Int.ne_of_lt h) λx hx=>?_) ZM;obtain⟨k,rfl,hk,_⟩:=h.mem x hx;exact YH.2 ⟨k,Y3.2 hk,rfl⟩
section
set_option maxRecDepth 100000
def I3(Q:R)(e:SH)(a b f:AV):Prop:=W.bslice 1 [(.ZO 0)] 0 [] e λg c=>W.slice 1 a none (some b) none c λh=>W.append 1 8 g h c λi j=>W.bslice 1 [(.ZO 0)] 1 [(0,f)] j λk l=>W.append 1 8 i k l λm d=>W.slice 1 a (some b) none none d λn=>W.append 1 8 m n d λo p=>Q o p
def I4(Q:R)(h:SH)(b c d:AV):Prop:=W.len b λi=>wb .lss 3 c i λa=>bJ a true b h λj k=>bJ a true c k λl e=>wg a true (W.idx 1 j l e) e λm f=>wg a true (wl m f) f λn o=>bJ a true d o λp q=>wg a true (wb .eql 3 n p) q λr g=>W.pick a r (.bool false) λs=>wk s (Q b g) ((I3 Q g b c d))
def zU(Q:R)(h:Vs)(i:SH)(j:Kn):Prop:=tI 0 1 5 h λb d c=>W.len b λk=>wb .lss 3 c k λa=>bJ a true b i λl m=>bJ a true c m λn e=>wg a true (W.idx 1 l n e) e λo f=>wg a true (wl o f) f λp q=>bJ a true d q λr s=>wg a true (wb .lss 3 p r) s λt g=>W.pick a t (.bool false) λu=>wk u (wb .add 3 c (.ZO 1) λv=>j [b,d,v] g) ((I4 Q g b c d))
def Cy(a b:AV)(L:SH)(Q:R):Prop:=W.loop (zU Q) [a,b,(.ZO 0)] L
theorem I5(t0 t1:AV)(L:SH)(Q:R)(h:Cy t0 t1 L Q):af Tryz.prog 27 [t0,t1] L Q:=
 fs [] [(2,[0,1,5])] [] [] Tryz.func27 h
def F6(a:Kn)(b c d e:AV)(f:SH):Prop:=wb .add 3 b (.ZO 1) λg=>a [c,d,e,g] f
def F7(a:Kn)(b c d:AV)(e:SH):Prop:=wb .add 3 b (.ZO 1) λf=>a [c,d,f] e
def q9(Q:R)(e:Vs)(a:SH)(f:Kn):Prop:=tI 1 5 7 e λb d c=>W.len b λg=>wb .lss 3 c g λh=>wk h (tH 1 b c a λi=>wc (.fn 27 []) [d,i] a (F7 f c b)) (Q d a)
def re(Q:R)(f:Vs)(a:SH)(g:Kn):Prop:=ug 0 1 5 6 f λb d e c=>W.len b λh=>wb .lss 3 c h λi=>wk i (tH 1 b c a λj=>wc (.fn 27 []) [e,j] a (F6 g c b d)) (W.loop (q9 Q) [d,e,(.ZO 0)] a)
def tX(a b:AV)(L:SH)(Q:R):Prop:=W.loop (re Q) [a,b,.nils,(.ZO 0)] L
theorem F8(t0 t1:AV)(L:SH)(Q:R)(h:tX t0 t1 L Q):af Tryz.prog 17 [t0,t1] L Q:=
 fs [] [(3,[0,1,5,6]),(7,[1,5,7])] [] [] Tryz.func17 h
end
section
set_option maxRecDepth 100000
set_option linter.unusedSimpArgs false
set_option linter.unusedSectionVars false
theorem zV{α:Type}{f:α→List AV}{l:List α}{n i:Nat}{k:IntKind}{L:SH}{K:AV→Prop}(hn:∀x,(f x).length=n)(hi:i≤l.length)(h:K (.lst ((l.take i).map f))):W.slice n (.lst (l.map f)) none (some (.int k (i:Int))) none L K:=by
 refine AH (l:=0) (h:=i) rfl ru (YK _) (by simpa using hi) (λr hr=>?_) ?_
 ·cases l with
  |nil=>cases hr
  |cons x l=>simp at hr;rw[←hr];exact hn x
 ·rw[List.drop_zero,Nat.sub_zero,←List.map_take];exact h
theorem zW{α:Type}{f:α→List AV}{l:List α}{n i:Nat}{k:IntKind}{L:SH}{K:AV→Prop}(hn:∀x,(f x).length=n)(hi:i≤l.length)(h:K (.lst ((l.drop i).map f))):W.slice n (.lst (l.map f)) (some (.int k (i:Int))) none none L K:=by
 refine AH (l:=i) (h:=(l.map f).length) ru rfl (by simpa using hi) (X7 _) (λr hr=>?_) ?_
 ·cases l with
  |nil=>cases hr
  |cons x l=>simp at hr;rw[←hr];exact hn x
 ·rw[YL ZM,←List.map_drop];exact h
theorem K5{b bX i k n by_:Nat}{rows m:List (List AV)}{L L':SH}{KL:AV→SH→Prop}(hX:(bX,(⟨n,m⟩:Blk))∈L)(hd:eP b ⟨n,rows⟩ L L')(hr:rows.length=i)(hk:k=m.length)(h2:2*(i+m.length)*by_≤2^48)(h3:2*(i+m.length)≤2^62)(h4:(m.all λr=>r.all AV.one)=true)
  (h:∀b',b'∉L.names→KL (.sl b' 0 (i+m.length)) ((b',⟨n,rows++m⟩)::L')):W.append n by_ (.sl b 0 i) (.sl bX 0 k) L KL:=by
 subst hk;subst hr;exact nJ (y:=⟨n,rows⟩) (l:=rows) hd.mem' rfl ZM ZM (kP hX rfl rfl) h2 h3 h4 hd (λb' hb=>h b' hb)
def I6(l:List Int)(n:Int):List Int:=l.takeWhile λx=>decide (x<n)
def lj(l:List Int)(n:Int):List Int:=l.dropWhile λx=>decide (x<n)
def rh(l:List Int)(n:Int):List Int:=if(lj l n).head? =some n then l else I6 l n++n::lj l n
theorem F9(l:List Int)(n:Int):I6 l n++lj l n=l:=List.takeWhile_append_dropWhile
theorem I7:∀(l:List Int) (n:Int) (i:Nat),(∀x∈l.take i,x<n)→(∀x,(l.drop i).head? =some x→¬x<n)→I6 l n=l.take i∧lj l n=l.drop i
 |[],n,i,_,_=>by simp[I6,lj]
 | x::l,n,0,_,h2=>by have:¬x<n:=h2 x rfl;simp[I6,lj,this]
 | x::l,n,i+1,h1,h2=>by have hx:x<n:=h1 x ZM;obtain⟨e1,e2⟩:=I7 l n i (λy hy=>h1 y (by simp[hy])) (λy hy=>h2 y (by simpa using hy));unfold I6 at e1 ⊢;unfold lj at e2 ⊢;simp[hx,e1,e2]
theorem Nq(l:List Int)(n:Int)(hl:l.length<2^41):az Tryz.prog 27 [.lst (l.map aj),.ZO n] (.lst ((rh l n).map aj)):=by
 refine af.fz (I5 _ _ _ _ ?_);unfold Cy;generalize hQ:(λ(v:AV) (L:SH)=>∃v2 L2,aG [v] L [v2] L2∧v2=AV.lst ((rh l n).map aj)∧L2=[])=Q;refine qf l.length (λi=>([.lst (l.map aj),.ZO n,.ZO i],[])) (λi=>∀x∈l.take i,x<n) ZM rfl rfl ?_;intro i hi hG;dsimp only;unfold zU;have fin:∀(b:Nat) (L:SH) (k:Nat),k=(l.take i).length+1+(l.drop i).length→I6 l n=l.take i∧lj l n=l.drop i→¬(lj l n).head? =some n→(b,(⟨1,((l.take i).map aj++[[.ZO n]])++(l.drop i).map aj⟩:Blk))∈L→Q (.sl b 0 k) L:=λb L k hk hlh hne hm=>by
  subst hQ;have e:rh l n=l.take i++n::l.drop i:=by unfold rh;rw[if_neg hne,hlh.1,hlh.2]
  exact⟨_,[],aG.all (Fz.sls (l:=rh l n) hm (by rw[e];simp[aj]) ZN (by rw[hk,e];simp;omega)),rfl,rfl⟩
 rcases X9 i l.length with g1|g1
 ·have hd:=bE g1;have hx:=ay (f:=aj) g1;have htk:l.take (i+1)=l.take i++[l[i]]:=Yd g1;have hhd:(l.drop i).head? =some l[i]:=by rw[Zg g1];rfl
  have hlt:(l.take i).length=i:=by simp;omega
  cases hc:decide (l[i]<n)with
  |true=>
   repeat' (first|refine st ?_|refine sb λnb_ hnb_=>?_|refine s2 (λh=>?_) λh=>?_|fail)
   exact⟨i+1,ZJ,ZJ,λx hx=>by
    rw[htk]at hx;rcases Yg.1 hx with h|h
    ·exact hG x h
    ·simp at h;subst h;exact of_decide_eq_true hc,eQ (by rw[aA g1 ZJ]<;>rfl) rfl⟩
  |false=>
   have hlh:=I7 l n i hG (λx hx=>by rw[hhd]at hx;cases hx;exact of_decide_eq_false hc);cases he:decide (l[i]=n)with
   |true=>
    repeat' (first|refine st ?_|refine sb λnb_ hnb_=>?_|refine s2 (λh=>?_) λh=>?_|fail)
    subst hQ;have e:rh l n=l:=by unfold rh;rw[if_pos];rw[hlh.2,hhd,of_decide_eq_true he]
    exact⟨_,[],aG.all (.refl _),by rw[e]<;>rfl,rfl⟩
   |false=>
    have hne:¬(lj l n).head? =some n:=by rw[hlh.2,hhd];intro h;cases h;simp at he
    repeat' (first|refine st ?_|refine zV (λ_=>rfl) ZJ ?_|refine zW (λ_=>rfl) ZJ ?_|refine qh rp (λ_=>rfl) ZM (by simp;omega) (by simp;omega) (λ_=>rfl) (λnb_ hnb_=>?_)|refine K5 rp rp ZM ZL (by simp;omega) (by simp;omega) ZL (λnb_ hnb_=>?_)|refine sb λnb_ hnb_=>?_|refine s2 (λh=>?_) λh=>?_|fail)
    exact fin _ _ _ ZM hlh hne (by simp[aw])
 ·have hd:=bI g1;have hi0:i=l.length:=by omega
  have hhd:(l.drop i).head? =none:=by rw[List.drop_eq_nil_of_le g1];rfl
  have hlh:=I7 l n i hG (λx hx=>by rw[hhd]at hx;cases hx);have hne:¬(lj l n).head? =some n:=by rw[hlh.2,hhd];nofun
  repeat' (first|refine st ?_|refine zV (λ_=>rfl) ZJ ?_|refine zW (λ_=>rfl) ZJ ?_|refine qh rp (λ_=>rfl) ZM (by simp;omega) (by simp;omega) (λ_=>rfl) (λnb_ hnb_=>?_)|refine K5 rp rp ZM ZL (by simp;omega) (by simp;omega) ZL (λnb_ hnb_=>?_)|refine sb λnb_ hnb_=>?_|refine s2 (λh=>?_) λh=>?_|fail)
  exact fin _ _ _ ZM hlh hne (by simp[aw])
theorem QT(l:List Int)(n:Int):(rh l n).length≤l.length+1:=by
 unfold rh;split
 ·omega
 ·have:=congrArg List.length (F9 l n);simp only[Yf,Ys]at this ⊢;omega
theorem QU{l:List Int}{n:Int}(h:l.Pairwise (·<·)):(rh l n).Pairwise (·<·):=by
 unfold rh;split
 ·exact h
 ·rename_i hne;have hl:=F9 l n;rw[←hl]at h;obtain⟨h1,h2,h3⟩:=List.pairwise_append.1 h;have hlow:∀x∈I6 l n,x<n:=λx hx=>by unfold I6 at hx;have:=Yo.1 (List.all_takeWhile (p:=λx=>decide (x<n)) (l:=l)) x hx;exact of_decide_eq_true this
  refine List.pairwise_append.2 ⟨h1,List.pairwise_cons.2 ⟨?_,h2⟩,?_⟩
  ·cases hh:lj l n with
   |nil=>intro y hy;cases hy
   |cons x r=>
    rw[hh]at hne h2;have hx:¬x<n:=by
     have:(lj l n).head? =some x:=by rw[hh];rfl
     unfold lj at this;have h0:=List.head?_dropWhile_not (p:=λx=>decide (x<n)) l;rw[this]at h0;simpa using h0
    have hxn:x≠n:=λe=>hne (by rw[e];rfl)
    intro y hy;rcases Ya.1 hy with rfl|hy
    ·omega
    ·have:=(List.pairwise_cons.1 h2).1 y hy;omega
  ·intro a ha b hb;rcases Ya.1 hb with rfl|hb
   ·exact hlow a ha
   ·exact h3 a ha b hb
theorem QV{l:List Int}{n x:Int}:x∈rh l n↔x∈l∨x=n:=by
 unfold rh;have hl:=F9 l n;split
 ·rename_i hh;constructor
  ·exact .inl
  ·rintro(h|rfl)
   ·exact h
   ·rw[←hl];exact Yq _ (List.mem_of_mem_head? hh)
 ·constructor
  ·intro h;rcases Yg.1 h with h|h
   ·left;rw[←hl];exact Y1 _ h
   ·rcases Ya.1 h with h|h
    ·exact .inr h
    ·left;rw[←hl];exact Yq _ h
  ·rintro(h|rfl)
   ·rw[←hl]at h;rcases Yg.1 h with h|h
    ·exact Y1 _ h
    ·exact Yq _ (Y4 _ h)
   ·exact Yq _ ZB
def puts(l m:List Int):List Int:=m.foldl rh l
theorem K6:∀(m:List Int) {l:List Int},l.Pairwise (·<·)→(puts l m).Pairwise (·<·)
 |[],_,h=>h
 |x::m,_,h=>K6 m (QU h)
theorem K7:∀(m:List Int) {l:List Int} {x:Int},x∈puts l m↔x∈l∨x∈m
 |[],l,x=>by simp[puts]
 | y::m,l,x=>by
  have:=K7 m (l:=rh l y) (x:=x);unfold puts at this ⊢;rw[Zq,this,QV];simp only[Ya];constructor
  ·rintro((h|h)|h)
   ·exact .inl h
   ·exact .inr (.inl h)
   ·exact .inr (.inr h)
  ·rintro(h|h|h)
   ·exact .inl (.inl h)
   ·exact .inl (.inr h)
   ·exact .inr h
theorem Ga:∀(m l:List Int),(puts l m).length≤l.length+m.length
 |[],l=>by simp[puts]
 | y::m,l=>by have h1:=Ga m (rh l y);have h2:=QT l y;unfold puts at h1 ⊢;rw[Zq,Ys];omega
theorem SC(m:List Int):puts [] m=EM m:=M6 (K6 m .nil) (DT m) λx=>by rw[K7,rv];simp
theorem HL(l m:List Int)(x:Int):puts l (m++[x])=rh (puts l m) x:=by unfold puts;rw[List.foldl_append];rfl
theorem QW(l m r:List Int):puts l (m++r)=puts (puts l m) r:=by unfold puts;rw[List.foldl_append]
theorem Ow(a b:List Int)(ha:a.length<2^40)(hb:b.length<2^40):az Tryz.prog 17 [.lst (a.map aj),.lst (b.map aj)] (.lst ((EM (a++b)).map aj)):=by
 refine af.fz (F8 _ _ _ _ ?_);unfold tX;generalize hQ:(λ(v:AV) (L:SH)=>∃v2 L2,aG [v] L [v2] L2∧v2=AV.lst ((EM (a++b)).map aj)∧L2=[])=Q;refine bW a.length (λi (_:Unit)=>([.lst (a.map aj),.lst (b.map aj),.lst ((puts [] (a.take i)).map aj),.ZO i],[])) (λ_ _=>True) () trivial (aG.vals (.cons (.refl _) (.cons (.refl _) (.cons .nils (.cons (.refl _) .nil))))) ?_;rintro i _ hi _;dsimp only;unfold re;have hpl:=Ga (a.take i) [];have htl:(a.take i).length≤a.length:=by rw[List.length_take];exact Nat.min_le_right _ _
 simp only[YC]at hpl;rcases X9 i a.length with g1|g1
 ·have hd:=bE g1;have hx:=ay (f:=aj) g1;have hp:=Nq (puts [] (a.take i)) a[i] ZJ
  repeat' (first|refine st ?_|(refine pf 27 ?_;refine pm (hp) ?_)|refine sb λnb_ hnb_=>?_|refine s2 (λh=>?_) λh=>?_|fail)
  exact⟨i+1,(),ZJ,ZJ,trivial,eQ (by rw[aA g1 ZJ,Yd g1,HL]<;>rfl) rfl⟩
 ·have hd:=bI g1
  repeat' (first|refine st ?_|refine sb λnb_ hnb_=>?_|refine s2 (λh=>?_) λh=>?_|fail)
  rw[List.take_of_length_le g1]at *;refine qf b.length (λi=>([.lst (b.map aj),.lst ((puts (puts [] a) (b.take i)).map aj),.ZO i],[])) (λ_=>True) trivial rfl rfl ?_;intro j hj _;dsimp only;unfold q9;have hpl2:=Ga (b.take j) (puts [] a);have htl2:(b.take j).length≤b.length:=by rw[List.length_take];exact Nat.min_le_right _ _
  rcases X9 j b.length with g2|g2
  ·have hd:=bE g2;have hx:=ay (f:=aj) g2;have hp:=Nq (puts (puts [] a) (b.take j)) b[j] ZJ
   repeat' (first|refine st ?_|(refine pf 27 ?_;refine pm (hp) ?_)|refine sb λnb_ hnb_=>?_|refine s2 (λh=>?_) λh=>?_|fail)
   exact⟨j+1,ZJ,ZJ,trivial,eQ (by rw[aA g2 ZJ,Yd g2,HL]<;>rfl) rfl⟩
  ·have hd:=bI g2;rw[YL g2,←QW,SC]
   repeat' (first|refine st ?_|refine sb λnb_ hnb_=>?_|refine s2 (λh=>?_) λh=>?_|fail)
   subst hQ;exact⟨_,[],aG.all (.refl _),rfl,rfl⟩
end
section
set_option maxRecDepth 100000
def zX(Q:R)(g:Kn)(a:SH)(c b d:AV):Prop:=(true=true)∧(di [] 2 1 c b a λh e=>dl [] 3 h a λi f=>di [rm 3 f,rm 2 e] 6 1 d b a λj n=>dl [rm 3 f,rm 2 e] 7 j a λk o=>wb .neq 3 i k λl=>wk l (Q (.bool false) a) (wb .add 3 b (.ZO 1) λm=>g [c,d,m] a))
def lm(Q:R)(d:Vs)(a:SH)(e:Kn):Prop:=tI 0 1 5 d λb f c=>W.len b λg=>wb .lss 3 c g λh=>wk h ((zX Q e a b c f)) (Q (.bool true) a)
def mY(a b:AV)(L:SH)(Q:R):Prop:=W.len a λc=>W.len b λd=>wb .neq 3 c d λe=>wk e (Q (.bool false) L) (W.loop (lm Q) [a,b,(.ZO 0)] L)
theorem zY(t0 t1:AV)(L:SH)(Q:R)(h:mY t0 t1 L Q):af Tryz.prog 16 [t0,t1] L Q:=
 fs [] [(4,[0,1,5])] [] [(6,[0,0,3,7,0,0,48,112,255])] Tryz.func16 h
end
section
set_option maxRecDepth 100000
theorem K8(l:List Int)(hl:l.length<2^62):az Tryz.prog 16 [.lst (l.map aj),.lst (l.map aj)] (.bool true):=by
 refine zY _ _ _ _ ?_;unfold mY;generalize hQ:(λ(u:AV) (K:SH)=>u=AV.bool true∧K=[])=Q;have hq:Q (.bool true) []:=by subst hQ;exact⟨rfl,rfl⟩
 clear hQ;have d0:decide ((l.length:Int)≠(l.length:Int))=false:=by simp
 repeat' (first|refine st ?_|refine sb λnb_ hnb_=>?_|refine s2 (λh=>?_) λh=>?_|fail)
 refine mu l.length (λ_=>True) (λi=>[.lst (l.map aj),.lst (l.map aj),.ZO i]) hl trivial rfl (λi h1 hd hi _ nx hn=>?_) (λi h1 hd _ nx=>?_)
 all_goals unfold lm
 ·have hx:=ay (f:=aj) h1;have d1:decide (l[i]≠l[i])=false:=by simp
  repeat' (first|refine st ?_|refine sb λnb_ hnb_=>?_|refine s2 (λh=>?_) λh=>?_|fail)
  exact hn trivial
 ·repeat' (first|refine st ?_|refine sb λnb_ hnb_=>?_|refine s2 (λh=>?_) λh=>?_|fail)
  exact hq
end
section
set_option maxRecDepth 100000
set_option maxHeartbeats 2000000
theorem HM(a:List Int)(ha:a.length<2^40):az Tryz.prog 17 [.lst (a.map aj),.nils] (.lst ((EM (a++[])).map aj)):=
 af.pre (aG.vals (.cons (.refl _) (.cons .nils .nil))) (Ow a [] ha ZN)
theorem Xi(e:aY)(hd:e.deps.length≤2^30)(hf:e.frm.length≤2^30):az Tryz.prog 18 [.agg e.enc] (.lst ((e.deps++e.frm).map aj)):=by
 refine af.fz (KR _ _ _ ?_);unfold FL;generalize hQ:(λ(v:AV) (L:SH)=>∃v2 L2,aG [v] L [v2] L2∧v2=AV.lst ((e.deps++e.frm).map aj)∧L2=[])=Q;have fin:∀(b n:Nat) (L:SH) (r:List (List AV)),(b,(⟨1,r⟩:Blk))∈L→r=(e.deps++e.frm).map aj→n=(e.deps++e.frm).length→Q (.sl b 0 n) L:=λb n L r hm hr hn=>by subst hQ hr;exact⟨_,[],aG.all (Fz.sls hm rfl ZN hn),rfl,rfl⟩
 clear hQ;obtain⟨th,kind,obj,value,site,deps,frm⟩:=e;dsimp only at *;rw[show aY.enc ⟨th,kind,obj,value,site,deps,frm⟩=[.ZO th,.ZO kind,.ZO obj,.ZO value,.ZO site,.lst (deps.map aj),.lst (frm.map aj)]from rfl]
 repeat' (first|refine st ?_|refine qh rp (λ_=>rfl) ZM (by simp;omega) (by simp;omega) (λ_=>rfl) (λnb_ hnb_=>?_)|refine sb λnb_ hnb_=>?_|refine s2 (λh=>?_) λh=>?_|fail)
 exact fin _ _ _ _ (.head _) ZM ZM
end
section
set_option maxRecDepth 100000
set_option maxHeartbeats 4000000
section
variable (a:List aY) (hla:a.length≤400) (hev:∀k (hk:k<a.length),UX (a.take k) a[k]) (x1 x2 x3 x4 xb:AV) (Q:R) (nx:Kn)
include hla hev
theorem QX(k:Nat)(hk:k<a.length)(m:List Int)(hm:m=a[k].deps++a[k].frm)(j:Nat)(hj:j<m.length)
  (hn:nx [x1,x2,x3,x4,.lst (a.map aY.enc),xb,.ZO (k:Int),.lst (m.map aj),.ZO ((j+1:Nat):Int)] []) :
  fQ Q nx [] (.lst (m.map aj)) (.ZO (j:Int)) (.ZO (k:Int)) (.lst (a.map aY.enc)) x1 x2 x3 x4 xb:=by
 have hE:=hev k hk;have hmem:m[j]∈m:=Yr hj;have ht:∃kk:Nat,m[j]=kk∧∃h:kk<(a.take k).length,(a.take k)[kk].kind=3∨(a.take k)[kk].kind=23:=by
  have h2:m[j]∈a[k].deps++a[k].frm:=hm▸hmem;rcases Yg.1 h2 with h|h
  ·exact hE.deps.mem _ h
  ·exact hE.frm.mem _ h
 obtain⟨q,hq,hl,hkd⟩:=ht;have hql:q<k:=by have:=hl;simp at this;omega
 rw[List.getElem_take]at hkd;have hx:=ay (f:=aj) hj;rw[hq]at hx;have hx2:=ay (f:=aY.enc) (show q<a.length by omega);have hmlen:m.length≤800:=by have h1:=hE.deps.len;have h2:=hE.frm.len;rw[Yx]at h1 h2;rw[hm,Yf];omega
 rw[←aA hj ZJ]at hn;clear hm hev hE hmem;generalize a[q]'ZJ=e at *;obtain⟨th,kind,obj,value,site,deps,frm⟩:=e;dsimp only at hkd;have d1:decide ((q:Int)<0)=false:=decide_eq_false ZJ;have d2:decide ((q:Int)≥(k:Int))=false:=decide_eq_false ZJ;unfold fQ;generalize a.map aY.enc=A at *;rcases hkd with rfl|rfl
 ·repeat' (first|refine st ?_|refine sb λnb_ hnb_=>?_|refine s2 (λh=>?_) λh=>?_|fail)
  exact hn
 ·repeat' (first|refine st ?_|refine sb λnb_ hnb_=>?_|refine s2 (λh=>?_) λh=>?_|fail)
  exact hn
theorem QY(k:Nat)(hk:k<a.length)(hn:nx [x1,x2,x3,x4,.lst (a.map aY.enc),xb,.ZO ((k+1:Nat):Int)] []):
  fR Q nx [] (.lst (a.map aY.enc)) (.ZO (k:Int)) x1 x2 x3 x4 xb:=by
 have hE:=hev k hk;have l1:=hE.deps.len;have l2:=hE.frm.len;rw[List.length_take]at l1 l2;have hx:=ay (f:=aY.enc) hk;have u1:=HM a[k].deps ZJ;have u2:=HM a[k].frm ZJ;rw[hE.deps.asc_self]at u1;rw[hE.frm.asc_self]at u2;have s1:=K8 a[k].deps ZJ;have s2:=K8 a[k].frm ZJ;rw[←aA hk ZJ]at hn;clear hE l1 l2 hev;generalize a[k]=e at *;obtain⟨th,kind,obj,value,site,deps,frm⟩:=e;dsimp only at u1 u2 s1 s2;unfold fR;generalize a.map aY.enc=A at *
 repeat' (first|refine st ?_|(refine pf 17 ?_;refine pm (u1) ?_)|(refine pf 17 ?_;refine pm (u2) ?_)|(refine pf 16 ?_;refine pm (s1) ?_)|(refine pf 16 ?_;refine pm (s2) ?_)|refine sb λnb_ hnb_=>?_|refine s2 (λh=>?_) λh=>?_|fail)
 exact hn
theorem QZ(k:Nat)(hk:k<a.length)(m:List Int)(hm:m=a[k].deps++a[k].frm)(hn:nx [x1,x2,x3,x4,.lst (a.map aY.enc),xb,.ZO ((k+1:Nat):Int)] [])(nb n:Nat)(L:SH)(r:List (List AV))(hmm:(nb,(⟨1,r⟩:Blk))∈L)(hr:r=m.map aj)(hnl:n=m.length):
  W.loop (fS Q nx) [x1,x2,x3,x4,.lst (a.map aY.enc),xb,.ZO (k:Int),.sl nb 0 n,.ZO (0:Nat)] L:=by
 refine bW m.length (λj (_:Unit)=>([x1,x2,x3,x4,.lst (a.map aY.enc),xb,.ZO (k:Int),.lst (m.map aj),.ZO (j:Int)],[])) (λ_ _=>True) () trivial (aG.drop (K:=L) ZM rfl (iV.at_ (.cons (.refl _) (.cons (.refl _) (.cons (.refl _) (.cons (.refl _) (.cons (.refl _) (.cons (.refl _) (.cons (.refl _) (.cons (Fz.sls hmm hr ZN hnl) (.cons (.refl _) .nil)))))))))).2) ?_;intro j _ hj _;dsimp only;unfold fS;generalize hnx:(λ(vs':List AV) (L':SH)=>∃(q:Nat) (o':Unit),j<q∧q≤m.length∧True∧_)=n2;rcases Nat.lt_or_ge j m.length with g|g
 ·have hd:=bE g;have z:=QX a hla hev x1 x2 x3 x4 xb Q n2 k hk m hm j g (by subst hnx;exact⟨j+1,(),ZJ,ZJ,trivial,.refl _ _⟩);clear hnx hn hev;generalize a.map aY.enc=A at *
  repeat' (first|with_reducible exact z|refine st ?_|refine sb λnb_ hnb_=>?_|refine s2 (λh=>?_) λh=>?_|fail)
 ·have hd:=bI g;have z:=QY a hla hev x1 x2 x3 x4 xb Q nx k hk hn;clear hnx hn hev;generalize a.map aY.enc=A at *
  repeat' (first|with_reducible exact z|refine st ?_|refine sb λnb_ hnb_=>?_|refine s2 (λh=>?_) λh=>?_|fail)
theorem Q0(k:Nat)(hk:k<a.length)(hn:nx [x1,x2,x3,x4,.lst (a.map aY.enc),xb,.ZO ((k+1:Nat):Int)] []):
  fT Q nx [] (.lst (a.map aY.enc)) (.ZO (k:Int)) x1 x2 x3 x4 xb:=by
 have lp:=QZ a hla hev x1 x2 x3 x4 xb Q nx k hk _ rfl hn;have hE:=hev k hk;have l1:=hE.deps.len;have l2:=hE.frm.len;rw[List.length_take]at l1 l2;have hx:=ay (f:=aY.enc) hk;clear hE hev hn;generalize a[k]=e at *;obtain⟨th,kind,obj,value,site,deps,frm⟩:=e;dsimp only at l1 l2 lp;unfold fT;generalize a.map aY.enc=A at *
 repeat' (first|refine st ?_|refine qh rp (λ_=>rfl) ZM (by simp;omega) (by simp;omega) (λ_=>rfl) (λnb_ hnb_=>?_)|refine sb λnb_ hnb_=>?_|refine s2 (λh=>?_) λh=>?_|fail)
 exact lp _ _ _ _ (.head _) ZM ZM
theorem Q3(hn:W.loop (dZ Q nx) [x1,x2,x3,x4,.lst (a.map aY.enc),xb,.ZO (0:Nat)] []):
  W.loop (ea Q nx) [x1,x2,x3,x4,.lst (a.map aY.enc),xb,.ZO (0:Nat)] []:=by
 refine mu a.length (λ_=>True) (λi=>[x1,x2,x3,x4,.lst (a.map aY.enc),xb,.ZO (i:Int)]) ZJ trivial rfl (λk hk hd hi _ n2 h2=>?_) (λk _ hd _ n2=>?_)
 ·have z:=Q0 a hla hev x1 x2 x3 x4 xb Q n2 k hk (h2 trivial);unfold ea;clear hn hev h2;have len1:∀(K:AV→Prop),K (.ZO (a.length:Int))→W.len (.lst (a.map aY.enc)) K:=λK h=>by have:=xQ (rows:=a.map aY.enc) (K:=K) (by rw[Y9];exact h);exact this
  generalize a.map aY.enc=A at *
  repeat' (first|refine len1 _ ?_|with_reducible exact z|refine st ?_|refine sb λnb_ hnb_=>?_|refine s2 (λh=>?_) λh=>?_|fail)
 ·unfold ea;clear hev;have len1:∀(K:AV→Prop),K (.ZO (a.length:Int))→W.len (.lst (a.map aY.enc)) K:=λK h=>by have:=xQ (rows:=a.map aY.enc) (K:=K) (by rw[Y9];exact h);exact this
  generalize a.map aY.enc=A at *
  repeat' (first|refine len1 _ ?_|refine st ?_|refine sb λnb_ hnb_=>?_|refine s2 (λh=>?_) λh=>?_|fail)
  exact hn
end
end
end Go.Proofs.YtdnpdghlggbklaaGreatDoor.Am
