/- A part of the proof; the statement is proved in the last part. -/
import Derived.Test.YtdnpdghlggbklaaGreatDoorQsE
import Derived.Test.YtdnpdghlggbklaaGreatDoorRows
import Derived.OpenShut
import Derived.MakeChecks
import Derived.FnData
set_option linter.unusedSimpArgs false
set_option linter.unusedVariables false
namespace Go.Proofs.YtdnpdghlggbklaaGreatDoor.Am
section
set_option maxRecDepth 100000
set_option maxHeartbeats 2000000
theorem E7{α:Type}{o:Option Nat}{size:Nat}{l:List α}{f:α→List AV}{L:SH}(h0:o=none→l=[])(hs:0<size)(hm:∀q∈ae o size (l.map f),q∈L):Fz L (am o l.length) (.lst (l.map f)):=by
 cases o with
 |none=>rw[h0 rfl];exact .emp
 |some b=>exact Fz.sls (hm _ (.head _)) rfl hs rfl
theorem AX(o:Option Nat)(n:Nat):(am o n).one=true:=by cases o<;>rfl
theorem JC(o:Option Nat)(n:Nat):(am o n).cells? =some [am o n]:=by cases o<;>rfl
section
variable {n151:Kn} {b2 b6 i:Nat} {oc ol od of ot os:Option Nat} {w:aM} {dl:List (List AV)} {ts:List ah} {Q:R}
theorem QA(hi:i<ts.length)(hi1:IntKind.i64.wrap ((i:Int)+1)=((i+1:Nat):Int))(hw:i=w.threads.length)(hti:i<2^20)(hb:ab.wts ts[i].body<2^20)(hsl:w.sites.length<2^29)(ho:FI b6 oc ol od of ot os w)
  (hn:Re (n151 [.pptr [[.lst dl,.lst (ts.map ah.enc)]] 0 0,.ptr b2 0 0,.ptr b6 0 0,.Xw ((i+1:Nat):Int)]) b2 b6 (dq w ts[i])) :
  jO n151 (Fa b2 b6 oc ol od of ot os w) (.ptr b6 0 0) (.pptr [[.lst dl,.lst (ts.map ah.enc)]] 0 0) (.Xw i) (.ptr b2 0 0):=by
 have hx:=ay (f:=ah.enc) hi;have hcw:=ab.cnts_wt ts[i].body;have hk:=O4 i (2^20) ts[i].body Xr Xr;have ht0:ot=none→w.threads.map aq=[]:=λe=>by rw[ho.t e];rfl
 unfold dq at hn;rw[←hw]at hn;unfold jO Fa
 repeat' (first|refine st ?_|refine cm rp rp Xu (λe=>by first|simp[ht0 e]) Xt Xu (by simp;omega) (by simp;omega) Xt (λnb_ hnb_=>?_)|((with_reducible refine ee 60 ?_);refine m0 ?_;refine KD (t:=i) (n:=0) hk rp rfl rfl ho.s Xr Xr (λo_ ho_ ks_=>?_);simp only[W2,WN,Wq])|refine Ba ?_ (h2:=JC _ _) (h4:=AX _ _)|refine sb λnb_ hnb_=>?_|refine s2 (λh=>?_) λh=>?_|fail)
 exact hn oc ol od of (some nb_) o_ _ _ _ _ _ _ _ _ _ _ _ _ _ ⟨ho.c,ho.l,ho.d,ho.f,nofun,ho_,ho.n⟩ rp (by simp[am]) rfl rfl rfl rfl (by rw[VQ];rfl) rfl
theorem Tf(hts:ts.length<2^20)(hb:∀t∈ts,ab.wts t.body<2^20)(hw0:w.threads=[])(hs0:w.sites=[])(hsl:∀k,(((ts.take k).foldl dq w).sites.length<2^29))(ho:FI b6 oc ol od of ot os w)
  (hq:∀(v:AV) (L:SH),Fz L v (.agg (ts.foldl dq w).enc)→Q v L) :
  W.loop (jP Q) [.pptr [[.lst dl,.lst (ts.map ah.enc)]] 0 0,.ptr b2 0 0,.ptr b6 0 0,.Xw 0] (Fa b2 b6 oc ol od of ot os w):=by
 have hlen:∀k,k≤ts.length→((ts.take k).foldl dq w).threads.length=k:=by
  intro k
  induction k with
  |zero=>intro _;simp[hw0]
  |succ k ih=>intro h;rw[vx (show k<ts.length by omega)];simp[dq,ih Xr]
 refine cb (β:=Option Nat×Option Nat×Option Nat×Option Nat×Option Nat×Option Nat) ts.length (λi q=>([.pptr [[.lst dl,.lst (ts.map ah.enc)]] 0 0,.ptr b2 0 0,.ptr b6 0 0,.Xw i],Fa b2 b6 q.1 q.2.1 q.2.2.1 q.2.2.2.1 q.2.2.2.2.1 q.2.2.2.2.2 ((ts.take i).foldl dq w)))
  (λi q=>FI b6 q.1 q.2.1 q.2.2.1 q.2.2.2.1 q.2.2.2.2.1 q.2.2.2.2.2 ((ts.take i).foldl dq w)) (oc,ol,od,of,ot,os) ho (.refl _ _) ?_
 rintro i ⟨oc,ol,od,of,ot,os⟩ hi ho;dsimp only at ho ⊢;unfold jP;generalize hnx:(λ(vs':List AV) (L':SH)=>∃j o',i<j∧j≤ts.length∧_)=nx;rcases Nat.lt_or_ge i ts.length with g1|g1
 ·have hd:=bK g1;have hi1:=aD g1 Xr;have hgo:Re (nx [.pptr [[.lst dl,.lst (ts.map ah.enc)]] 0 0,.ptr b2 0 0,.ptr b6 0 0,.Xw ((i+1:Nat):Int)]) b2 b6 (dq ((ts.take i).foldl dq w) ts[i]):=.of λoc2 ol2 od2 of2 ot2 os2 L' q1 q2=>by subst hnx;rw[←vx (f:=dq) (a:=w) g1]at q1 q2;exact⟨i+1,(oc2,ol2,od2,of2,ot2,os2),Xr,Xr,q1,aF.pick q2 rfl⟩
  have hr:=QA (dl:=dl) g1 hi1 (hlen i Xr).symm Xr (hb _ (V3 g1)) (hsl i) ho hgo;clear hnx hgo;generalize hW:Fa b2 b6 oc ol od of ot os ((ts.take i).foldl dq w)=LW at *
  repeat' (first|exact hr|refine st ?_|refine sb λnb_ hnb_=>?_|refine s2 (λh=>?_) λh=>?_|fail)
 ·have hd:=bO g1;have e:i=ts.length:=by omega
  subst e;rw[List.take_length]at ho ⊢;unfold Fa
  repeat' (first|refine st ?_|refine sb λnb_ hnb_=>?_|refine s2 (λh=>?_) λh=>?_|fail)
  refine au (cs:=[am oc (List.foldl dq w ts).cells.length,am ol (List.foldl dq w ts).locks.length,am od (List.foldl dq w ts).conds.length,am of (List.foldl dq w ts).futures.length,am ot (List.foldl dq w ts).threads.length,am os (List.foldl dq w ts).sites.length]) (.there _ (.here _)) rfl rfl (by simp[AX]) rfl ?_
  repeat' (first|refine st ?_|refine sb λnb_ hnb_=>?_|refine s2 (λh=>?_) λh=>?_|fail)
  refine hq _ _ (Fz.aggs (.cons (E7 ho.c Xv λq h=>.tail _ (.tail _ (WM _ h))) (.cons (E7 ho.l Xv λq h=>.tail _ (.tail _ (Wa _ (WM _ h)))) (.cons (E7 ho.d Xv λq h=>.tail _ (.tail _ (Wa _ (Wa _ (WM _ h))))) (.cons (E7 ho.f Xv λq h=>.tail _ (.tail _ (Wa _ (Wa _ (Wa _ (WM _ h)))))) (.cons (E7 ho.t Xv λq h=>.tail _ (.tail _ (Wa _ (Wa _ (Wa _ (Wa _ (WM _ h))))))) (.cons (E7 ho.s Xv λq h=>.tail _ (.tail _ (Wa _ (Wa _ (Wa _ (Wa _ (Wa _ h))))))) .nil)))))))
end
theorem MQ(w:aM)(d:aG)(hs:d.size≤4):(bW w d).cells.length≤w.cells.length+4∧(bW w d).locks.length≤w.locks.length+1∧(bW w d).conds.length≤w.conds.length+1∧(bW w d).futures.length≤w.futures.length+1∧(bW w d).threads=w.threads∧(bW w d).sites=w.sites:=by
 unfold bW
 repeat' split
 all_goals simp[aG.celW]
 all_goals omega
theorem Gn(w:aM):∀(l:List aG),(∀d∈l,d.size≤4)→(l.foldl bW w).cells.length≤w.cells.length+4*l.length∧(l.foldl bW w).locks.length≤w.locks.length+l.length∧(l.foldl bW w).conds.length≤w.conds.length+l.length∧(l.foldl bW w).futures.length≤w.futures.length+l.length∧(l.foldl bW w).threads=w.threads∧(l.foldl bW w).sites=w.sites:=by
 intro l
 induction l generalizing w with
 |nil=>intro _;simp
 |cons d l ih=>
  intro h;obtain⟨a1,a2,a3,a4,a5,a6⟩:=MQ w d (h d (.head _));obtain⟨b1,b2,b3,b4,b5,b6⟩:=ih (bW w d) λx hx=>h x (.tail _ hx)
  simp only[Xj,V8];exact⟨Xr,Xr,Xr,Xr,b5.trans a5,b6.trans a6⟩
theorem KH(ts:List ah):∀(w:aM),(ts.foldl dq w).sites.length=w.sites.length+gD (λt=>ab.cnts t.body) ts:=by
 induction ts with
 |nil=>intro w;simp[gD]
 |cons t l ih=>intro w;rw[Xj,ih];simp[dq,sitL_len,gD];omega
theorem MR(p:bQ){ln:Int}(hkind:∀d∈p.decls,(1≤d.kind∧d.kind≤6)∧d.size≤4)(hck:ax Tryz.prog 28 [.agg p.enc] (.tup [.Xw 0,.Xw ln]))(hw:p.wt≤200000):ax Tryz.prog 29 [.agg p.enc] (.agg (lj p).enc):=by
 have hdl:=p.decls_len;have htl:=p.threads_len;refine af.fz (E1 _ _ _ ?_);unfold sC bQ.enc;generalize hQ:(λ(v:AV) (L:SH)=>∃v2 L2,aF [v] L [v2] L2∧v2=.agg (lj p).enc∧L2=[])=Q;have hq:∀v L,Fz L v (.agg (lj p).enc)→Q v L:=λv L h=>by subst hQ;exact⟨_,[],aF.all h,rfl,rfl⟩
 clear hQ
 repeat' (first|refine st ?_|(refine pf 28 ?_;refine pm (hck) ?_)|refine sb λnb_ hnb_=>?_|refine s2 (λh=>?_) λh=>?_|fail)
 rename_i b0 hb0 b2 hb2;have hlen:∀k,((p.decls.take k).foldl bW aM.zero).cells.length<2^30∧((p.decls.take k).foldl bW aM.zero).locks.length<2^30∧((p.decls.take k).foldl bW aM.zero).conds.length<2^30∧((p.decls.take k).foldl bW aM.zero).futures.length<2^30:=λk=>by
  obtain⟨a1,a2,a3,a4,_,_⟩:=Gn aM.zero (p.decls.take k) λd hd=>(hkind d (List.mem_of_mem_take hd)).2
  have:(p.decls.take k).length≤200000:=by rw[We];omega
  simp only[aM.zero,Wg]at a1 a2 a3 a4;exact⟨by show List.length _<_;unfold aM.zero;omega,by show List.length _<_;unfold aM.zero;omega,by show List.length _<_;unfold aM.zero;omega,by show List.length _<_;unfold aM.zero;omega⟩
 obtain⟨_,_,_,_,hth0,hsi0⟩:=Gn aM.zero p.decls λd hd=>(hkind d hd).2
 refine cb (β:=Option Nat×Option Nat×Option Nat×Option Nat×Option Nat×Option Nat) p.decls.length (λi q=>([.pptr [[.lst (p.decls.map aG.enc),.lst (p.threads.map ah.enc)]] 0 0,.ptr b2 0 0,.ptr nb_ 0 0,.Xw i],Fa b2 nb_ q.1 q.2.1 q.2.2.1 q.2.2.2.1 q.2.2.2.2.1 q.2.2.2.2.2 ((p.decls.take i).foldl bW aM.zero)))
  (λi q=>FI nb_ q.1 q.2.1 q.2.2.1 q.2.2.2.1 q.2.2.2.2.1 q.2.2.2.2.2 ((p.decls.take i).foldl bW aM.zero)) (none,none,none,none,none,none) ⟨λ_=>rfl,λ_=>rfl,λ_=>rfl,λ_=>rfl,λ_=>rfl,λ_=>rfl,nofun⟩ ?_ ?_
 ·exact aF.rowA (K:=[]) (A:=[]) (R:=[(b2,⟨6,[S1]⟩)]) (rows:=[[.nils,.nils,.nils,.nils,.nils,.nils]]) (.one (.here _) (.one (.here _) (.nil _))) rfl (cN (.cons .nile (.cons .nile (.cons .nile (.cons .nile (.cons .nile (.cons .nile .nil))))))) rfl
 rintro i ⟨oc,ol,od,of,ot,os⟩ hi ho;dsimp only at ho ⊢;unfold qc;generalize hnx:(λ(vs':List AV) (L':SH)=>∃j o',i<j∧j≤p.decls.length∧_)=nx;rcases Nat.lt_or_ge i p.decls.length with g1|g1
 ·have hd:=bK g1;have hi1:=aD g1 Xr;have hgo:Re (nx [.pptr [[.lst (p.decls.map aG.enc),.lst (p.threads.map ah.enc)]] 0 0,.ptr b2 0 0,.ptr nb_ 0 0,.Xw ((i+1:Nat):Int)]) b2 nb_ (bW ((p.decls.take i).foldl bW aM.zero) p.decls[i]):=.of λoc2 ol2 od2 of2 ot2 os2 L' q1 q2=>by subst hnx;rw[←vx (f:=bW) (a:=aM.zero) g1]at q1 q2;exact⟨i+1,(oc2,ol2,od2,of2,ot2,os2),Xr,Xr,q1,aF.pick q2 rfl⟩
  obtain⟨a1,a2,a3,a4⟩:=hlen i;have hk:=hkind _ (V3 g1);have hr:=S2 (rows:=p.decls.map aG.enc) (tl:=p.threads.map ah.enc) (d:=p.decls[i]) (ay g1) hk.1 Xr hi1 ho a1 a2 a3 a4 hgo;clear hnx hgo;generalize hW:Fa b2 nb_ oc ol od of ot os ((p.decls.take i).foldl bW aM.zero)=LW at *
  repeat' (first|exact hr|refine st ?_|refine sb λnb_ hnb_=>?_|refine s2 (λh=>?_) λh=>?_|fail)
 ·have hd:=bO g1;have e:i=p.decls.length:=by omega
  subst e;rw[List.take_length]at ho ⊢;have hl:=Tf (Q:=Q) (dl:=p.decls.map aG.enc) (ts:=p.threads) (b2:=b2) Xr (λt ht=>?hb) hth0 hsi0 (λk=>?hs) ho hq
  case hb=>
   obtain⟨j,hj,rfl⟩:=WO ht;have:=p.thread_wt hj;unfold ah.wt at this;omega
  case hs=>
   rw[KH,hsi0];have h1:=Es (λt:ah=>ab.cnts t.body) p.threads k;have h2:gD (λt:ah=>ab.cnts t.body) p.threads≤p.wt:=by have:=Jo (f:=λt:ah=>ab.cnts t.body) (g:=ah.wt) (λt=>by have:=ab.cnts_wt t.body;unfold ah.wt;omega) p.threads;unfold bQ.wt;unfold gD at *;omega
   simp only[aM.zero,Wg];omega
  generalize hW:Fa b2 nb_ oc ol od of ot os (p.decls.foldl bW aM.zero)=LW at *
  repeat' (first|exact hl|refine st ?_|refine sb λnb_ hnb_=>?_|refine s2 (λh=>?_) λh=>?_|fail)
end
section
set_option maxRecDepth 100000
def vy(Q:R)(a:SH)(b:AV):Prop:=aB 1 b a λc=>aB 2 b a λd=>aB 3 b a λe=>W.bslice 1 [(.Xw 0)] 3 [(0,c),(1,d),(2,e)] a λf g=>Q f g
def vz(Q:R)(a:SH)(c b:AV):Prop:=wb .eql 3 c (.Xw 9) λd=>wk d (aB 2 b a λe=>aB 3 b a λf=>W.bslice 1 [(.Xw 0)] 2 [(0,e),(1,f)] a λg h=>Q g h) (Q .nils a)
def vA(Q:R)(c:Vs)(a:SH):Prop:=wq 1 4 37 c λb d e=>wk e (aB 2 b a λf=>W.bslice 1 [(.Xw 0)] 1 [(0,f)] a λg h=>Q g h) ((vz Q a d b))
def vC(Q:R)(b:SH)(a c:AV):Prop:=W.join (vA Q) λd=>wb .eql 3 a (.Xw 8) λe=>wk e (d [c,a,e] b) (wb .eql 3 a (.Xw 26) λf=>d [c,a,f] b)
def vD(Q:R)(a:SH)(c b:AV):Prop:=wb .eql 3 c (.Xw 7) λd=>wk d (aB 1 b a λe=>aB 3 b a λf=>W.bslice 1 [(.Xw 0)] 2 [(0,e),(1,f)] a λg h=>Q g h) ((vC Q a c b))
def vF(Q:R)(d:Vs)(a:SH):Prop:=wq 1 4 13 d λb c e=>wk e (aB 1 b a λf=>aB 2 b a λg=>W.bslice 1 [(.Xw 0)] 2 [(0,f),(1,g)] a λh i=>Q h i) (wb .eql 3 c (.Xw 4) λj=>wk j ((vy Q a b)) ((vD Q a c b)))
def vG(Q:R)(b:SH)(a c:AV):Prop:=W.join (vF Q) λd=>wb .eql 3 a (.Xw 2) λe=>wk e (d [c,a,e] b) (wb .eql 3 a (.Xw 3) λf=>d [c,a,f] b)
def vH(Q:R)(c:Vs)(a:SH):Prop:=wq 1 4 5 c λb d e=>wk e (aB 1 b a λf=>W.bslice 1 [(.Xw 0)] 1 [(0,f)] a λg h=>Q g h) ((vG Q a d b))
def vJ(b:Kn)(c:SH)(a d:AV):Prop:=wb .eql 3 a (.Xw 6) λe=>wk e (b [d,a,e] c) (wb .eql 3 a (.Xw 10) λf=>wk f (b [d,a,f] c) (wb .eql 3 a (.Xw 27) λg=>b [d,a,g] c))
def kH(f:AV)(L:SH)(Q:R):Prop:=qo f L λa b=>aB 0 a b λc=>W.join (vH Q) λd=>wb .eql 3 c (.Xw 1) λe=>wk e (d [a,c,e] b) ((vJ d b c a))
theorem vK(t0:AV)(L:SH)(Q:R)(h:kH t0 L Q):af Tryz.prog 32 [t0] L Q:=
 fs [(5,[1,4,5]),(8,[1,4,13]),(15,[1,4,37])] [] [(0,[1])] [] Tryz.func32 h
end
section
set_option maxRecDepth 100000
set_option maxHeartbeats 1000000
theorem QB(i:bj):ax Tryz.prog 32 [.agg i.enc] (.lst ((bY i).map aj)):=by
 obtain⟨op,ia,ib,ic,n,site⟩:=i;refine af.fz (vK _ _ _ ?_);unfold kH;generalize hQ:(λ(v:AV) (L:SH)=>∃v2 L2,aF [v] L [v2] L2∧v2=AV.lst ((bY ⟨op,ia,ib,ic,n,site⟩).map aj)∧L2=[])=Q;have hq:∀(l:List Int),bY ⟨op,ia,ib,ic,n,site⟩=l→∀v L,Fz L v (.lst (l.map aj))→Q v L:=λl hl v L h=>by subst hQ;exact⟨_,[],aF.all h,by rw[hl],rfl⟩
 clear hQ
 repeat' (first|refine st ?_|refine sb λnb_ hnb_=>?_|refine s2 (λh=>?_) λh=>?_|fail)
 all_goals first
  |exact hq [ia] (by simp_all[bY];done) _ _ (Fz.sls (l:=[ia]) (f:=aj) (.head _) rfl Xv rfl)
  |exact hq [ib] (by simp_all[bY];done) _ _ (Fz.sls (l:=[ib]) (f:=aj) (.head _) rfl Xv rfl)
  |exact hq [ia,ib] (by simp_all[bY];done) _ _ (Fz.sls (l:=[ia,ib]) (f:=aj) (.head _) rfl Xv rfl)
  |exact hq [ia,ic] (by simp_all[bY];done) _ _ (Fz.sls (l:=[ia,ic]) (f:=aj) (.head _) rfl Xv rfl)
  |exact hq [ib,ic] (by simp_all[bY];done) _ _ (Fz.sls (l:=[ib,ic]) (f:=aj) (.head _) rfl Xv rfl)
  |exact hq [ia,ib,ic] (by simp_all[bY];done) _ _ (Fz.sls (l:=[ia,ib,ic]) (f:=aj) (.head _) rfl Xv rfl)
  |exact hq [] (by simp_all[bY];done) _ _ .nils
end
section
set_option maxRecDepth 100000
set_option maxHeartbeats 4000000
theorem Pe{α:Type}{f:α→List AV}{l:List α}{n by_:Nat}{L:SH}{KL:AV→SH→Prop}(hn:∀x,(f x).length=n)(h2:2*l.length*by_≤2^48)(h3:2*l.length≤2^62)(h4:∀x,(f x).all AV.one=true)
  (h:l=[]→KL .nils L) (h':∀b,KL (.sl b 0 l.length) ((b,⟨n,l.map f⟩)::L)):W.append n by_ .nils (.lst (l.map f)) L KL:=by
 have h4':((l.map f).all λr=>r.all AV.one)=true:=by rw[V0];intro r hr;obtain⟨x,_,rfl⟩:=Wm.1 hr;exact h4 x
 refine⟨[],l.map f,rfl,wj hn,by simpa using h2,by simpa using h3,h4',λe=>?_,λe b hb=>?_⟩
 ·exact h (by simpa using e)
 ·have:=h' b;simpa using this
theorem Tg{n23:Kn}{bm bt b0 bp nmb bh lb a n i:Nat}{t:List UInt8}{th le:Int}{se tx at_ lo:Bool}{o oT:Option Nat}{ar:List aZ}{ts:List ah}{nm:aZ}
  (ht:t.length<2^40) (ha:a≤t.length) (ho:o=none→ar=[]) (hoT:oT=none→ts=[]) (hts:ts.length≤4)
  (f1:bh≠bm) (f2:bh≠bt) (f3:∀b,o=some b→bh≠b) (hnm:nm.length≤4)
  (hz:decide ((i:Int)=0)=false) (hn:∀(x:ah) (a':Nat) (th' le':Int) (se' tx' at' lo':Bool) (o':Option Nat) (ar':List aZ) (nbT:Nat) (L':SH),(ah.wt x≤40000∧x.name=nm∧x.locals=[[97],[98]])→a'≤t.length→(o'=none→ar'=[])→aF [.ptr b0 0 0,.ptr bm 0 0,.ptr bp 0 0,.Xw n,.sl nmb 0 4,.Xw (IntKind.i64.wrap ((i:Int)+1))] L' [.ptr b0 0 0,.ptr bm 0 0,.ptr bp 0 0,.Xw n,.sl nmb 0 4,.Xw (IntKind.i64.wrap ((i:Int)+1))] (PH bm bt b0 bp nmb t a' th' le' se' tx' at' lo' o' ar' (some nbT) (ts.length+1) (ts++[x]))→aF [.ptr b0 0 0,.ptr bm 0 0,.ptr bp 0 0,.Xw n,.sl nmb 0 4,.Xw (IntKind.i64.wrap ((i:Int)+1))] L' [.ptr b0 0 0,.ptr bm 0 0,.ptr bp 0 0,.Xw n,.sl nmb 0 4,.Xw (IntKind.i64.wrap ((i:Int)+1))] (PZ b0 bp (ts++[x]))→n23 [.ptr b0 0 0,.ptr bm 0 0,.ptr bp 0 0,.Xw n,.sl nmb 0 4,.Xw (IntKind.i64.wrap ((i:Int)+1))] L')
  : cf n23 [.ptr b0 0 0,.ptr bm 0 0,.ptr bp 0 0,.Xw n,.sl nmb 0 4,.Xw (i:Int),.ptr bh 0 0] ((bh,⟨4,[[.str nm,.Xw 0,.sl lb 0 2,AV.nils]]⟩)::(lb,⟨1,[[.str [97]],[.str [98]]]⟩)::(bm,df bt th le se tx at_ lo o 0)::(bt,aO t a)::(b0,⟨2,[[.nils,.nils]]⟩)::(bp,⟨2,[[.lst (bD.map aG.enc),am oT ts.length]]⟩)::(nmb,⟨1,qe.map aq⟩)::(ae oT 4 (ts.map ah.enc)++ae o 1 (ar.map aq))):=by
 unfold cf df me
 repeat' (first|refine mE (sK ?_ (Qx Xr))|refine st ?_|((with_reducible refine aY 34 ?_);(refine fC ht Xs rp (λr_ a_ hr_ ha_=>?_)))|((with_reducible refine ee 34 ?_);refine CI ht Xs rp (λr_ a_ hr_ ha_=>?_))|((with_reducible refine ee 35 ?_);refine JB rfl Xr rp rp rp ht Xs Xs (JA f1 f2 f3) ?_;rintro l_ a_ th_ le_ se_ tx_ at_ lo_ o_ ar_ ks_ hl_ ha_ ho_;have hl9_:=ab.wts_len l_;rcases o_ with _|ob_;all_goals dsimp only[CG,CH,List.nil_append,List.cons_append])|(refine Pe (λx=>by rw[ab.enc_row];rfl) Xr Xr (λx=>by rw[ab.enc_row];rfl) ?_ ?_;all_goals first|(intro e_;subst e_)|intro ob2_)|refine cm rp rp Xu (λe=>by first|simp[hoT e]) Xt Xu (by simp;omega) (by simp;omega) Xt (λnb_ hnb_=>?_)|refine sb λnb_ hnb_=>?_|refine s2 (λh=>?_) λh=>?_|fail)
 all_goals first
  |exact hn ⟨nm,0,[[97],[98]],l_⟩ a_ th_ le_ se_ tx_ at_ lo_ none ar_ nb_ _ ⟨by simp only[ah.wt,ab.wts,VM,Wv,V8,Wg,WJ,W8];omega,rfl,rfl⟩ ha_ ho_ (aF.rowA (A:=[(bm,_),(bt,_),(b0,_),(bp,_),(nmb,_)]) (b:=nb_) (R:=[]) (rows':=(ts++[_]).map ah.enc) rp Xu (cU (f:=ah.enc) (.cons (.refl _) (.cons (.refl _) (.cons (Fz.sls (l:=[[97],[98]]) (f:=aq) (size:=1) (b:=lb) mm Xt Xv Xt) (.cons (Fz.sls (l:=l_) (f:=ab.enc) (size:=11) (b:=ob2_) mm Xt Xv Xt) .nil))))) rfl) (aF.rowA (A:=[(b0,_)]) (b:=bp) (R:=[]) (rows':=[[.lst (bD.map aG.enc),.lst ((ts++[_]).map ah.enc)]]) rp Xt (cN (.cons (.refl _) (.cons (eP (b:=nb_) mm Xt Xt (.cons (.refl _) (.cons (.refl _) (.cons (Fz.sls (l:=[[97],[98]]) (f:=aq) (size:=1) (b:=lb) mm Xt Xv Xt) (.cons (Fz.sls (l:=l_) (f:=ab.enc) (size:=11) (b:=ob2_) mm Xt Xv Xt) .nil))))) .nil))) rfl)
  |exact hn ⟨nm,0,[[97],[98]],[]⟩ a_ th_ le_ se_ tx_ at_ lo_ none ar_ nb_ _ ⟨by simp only[ah.wt,ab.wts,VM,Wv,V8,Wg,WJ,W8];omega,rfl,rfl⟩ ha_ ho_ (aF.rowA (A:=[(bm,_),(bt,_),(b0,_),(bp,_),(nmb,_)]) (b:=nb_) (R:=[]) (rows':=(ts++[_]).map ah.enc) rp Xu (cU (f:=ah.enc) (.cons (.refl _) (.cons (.refl _) (.cons (Fz.sls (l:=[[97],[98]]) (f:=aq) (size:=1) (b:=lb) mm Xt Xv Xt) (.cons .nils .nil))))) rfl) (aF.rowA (A:=[(b0,_)]) (b:=bp) (R:=[]) (rows':=[[.lst (bD.map aG.enc),.lst ((ts++[_]).map ah.enc)]]) rp Xt (cN (.cons (.refl _) (.cons (eP (b:=nb_) mm Xt Xt (.cons (.refl _) (.cons (.refl _) (.cons (Fz.sls (l:=[[97],[98]]) (f:=aq) (size:=1) (b:=lb) mm Xt Xv Xt) (.cons .nils .nil))))) .nil))) rfl)
  |exact hn ⟨nm,0,[[97],[98]],l_⟩ a_ th_ le_ se_ tx_ at_ lo_ (some ob_) ar_ nb_ _ ⟨by simp only[ah.wt,ab.wts,VM,Wv,V8,Wg,WJ,W8];omega,rfl,rfl⟩ ha_ ho_ (aF.rowA (A:=[(bm,_),(bt,_),(b0,_),(bp,_),(nmb,_)]) (b:=nb_) (R:=[(ob_,_)]) (rows':=(ts++[_]).map ah.enc) rp Xu (cU (f:=ah.enc) (.cons (.refl _) (.cons (.refl _) (.cons (Fz.sls (l:=[[97],[98]]) (f:=aq) (size:=1) (b:=lb) mm Xt Xv Xt) (.cons (Fz.sls (l:=l_) (f:=ab.enc) (size:=11) (b:=ob2_) mm Xt Xv Xt) .nil))))) rfl) (aF.rowA (A:=[(b0,_)]) (b:=bp) (R:=[]) (rows':=[[.lst (bD.map aG.enc),.lst ((ts++[_]).map ah.enc)]]) rp Xt (cN (.cons (.refl _) (.cons (eP (b:=nb_) mm Xt Xt (.cons (.refl _) (.cons (.refl _) (.cons (Fz.sls (l:=[[97],[98]]) (f:=aq) (size:=1) (b:=lb) mm Xt Xv Xt) (.cons (Fz.sls (l:=l_) (f:=ab.enc) (size:=11) (b:=ob2_) mm Xt Xv Xt) .nil))))) .nil))) rfl)
  |exact hn ⟨nm,0,[[97],[98]],[]⟩ a_ th_ le_ se_ tx_ at_ lo_ (some ob_) ar_ nb_ _ ⟨by simp only[ah.wt,ab.wts,VM,Wv,V8,Wg,WJ,W8];omega,rfl,rfl⟩ ha_ ho_ (aF.rowA (A:=[(bm,_),(bt,_),(b0,_),(bp,_),(nmb,_)]) (b:=nb_) (R:=[(ob_,_)]) (rows':=(ts++[_]).map ah.enc) rp Xu (cU (f:=ah.enc) (.cons (.refl _) (.cons (.refl _) (.cons (Fz.sls (l:=[[97],[98]]) (f:=aq) (size:=1) (b:=lb) mm Xt Xv Xt) (.cons .nils .nil))))) rfl) (aF.rowA (A:=[(b0,_)]) (b:=bp) (R:=[]) (rows':=[[.lst (bD.map aG.enc),.lst ((ts++[_]).map ah.enc)]]) rp Xt (cN (.cons (.refl _) (.cons (eP (b:=nb_) mm Xt Xt (.cons (.refl _) (.cons (.refl _) (.cons (Fz.sls (l:=[[97],[98]]) (f:=aq) (size:=1) (b:=lb) mm Xt Xv Xt) (.cons .nils .nil))))) .nil))) rfl)
end
section
set_option maxRecDepth 100000
set_option maxHeartbeats 4000000
@[irreducible] def JJ (n23:Kn) (v:List AV) (L:SH):Prop:=cf n23 v L
theorem Rj{n23:Kn}{v:List AV}{L:SH}(h:JJ n23 v L):cf n23 v L:=by unfold JJ at h;exact h
theorem Rk{n23:Kn}{v:List AV}{L:SH}(h:cf n23 v L):JJ n23 v L:=by unfold JJ;exact h
theorem LN(r:Nat):(qe.getD r []).length≤4:=by
 rcases r with _|_|_|_|r
 all_goals simp[qe]
theorem Th{n23:Kn}{bm bt b0 bp nmb bh lb a n:Nat}{t:List UInt8}{th le:Int}{se tx at_ lo:Bool}{o oT:Option Nat}{ar:List aZ}{ts:List ah}{nm:aZ}{m:Nat}(hn4:n≤4)(h1:1≤n)
  (hj:∀(oB:Option Nat) (ps:List (List AV×ab)),(oB=none→ps=[])→ps.length≤4→fK ps→ab.wts (ps.map Prod.snd)≤100→JJ n23 [.ptr b0 0 0,.ptr bm 0 0,.ptr bp 0 0,.Xw n,.sl nmb 0 4,.Xw ((0:Nat):Int),.ptr bh 0 0] ((bh,⟨4,[[.str nm,.Xw 0,.sl lb 0 2,am oB ps.length]]⟩)::(lb,⟨1,[[.str [97]],[.str [98]]]⟩)::(bm,df bt th le se tx at_ lo o 0)::(bt,aO t a)::(b0,⟨2,[[.nils,.nils]]⟩)::(bp,⟨2,[[.lst (bD.map aG.enc),am oT m]]⟩)::(nmb,⟨1,qe.map aq⟩)::(ae oB 11 (ps.map Prod.fst)++(ae oT 4 (ts.map ah.enc)++ae o 1 (ar.map aq))))) :
  W.loop (iy (cf n23)) [.ptr b0 0 0,.ptr bm 0 0,.ptr bp 0 0,.Xw n,.sl nmb 0 4,.Xw ((0:Nat):Int),.ptr bh 0 0,.Xw 1] ((bh,⟨4,[[.str nm,.Xw 0,.sl lb 0 2,.nils]]⟩)::(lb,⟨1,[[.str [97]],[.str [98]]]⟩)::(bm,df bt th le se tx at_ lo o 0)::(bt,aO t a)::(b0,⟨2,[[.nils,.nils]]⟩)::(bp,⟨2,[[.lst (bD.map aG.enc),am oT m]]⟩)::(nmb,⟨1,qe.map aq⟩)::(ae oT 4 (ts.map ah.enc)++ae o 1 (ar.map aq))):=by
 refine cb (β:=Option Nat×List (List AV×ab)) (n-1) (λj ⟨oB,ps⟩=>([.ptr b0 0 0,.ptr bm 0 0,.ptr bp 0 0,.Xw n,.sl nmb 0 4,.Xw ((0:Nat):Int),.ptr bh 0 0,.Xw ((j+1:Nat):Int)],(bh,⟨4,[[.str nm,.Xw 0,.sl lb 0 2,am oB j]]⟩)::(lb,⟨1,[[.str [97]],[.str [98]]]⟩)::(bm,df bt th le se tx at_ lo o 0)::(bt,aO t a)::(b0,⟨2,[[.nils,.nils]]⟩)::(bp,⟨2,[[.lst (bD.map aG.enc),am oT m]]⟩)::(nmb,⟨1,qe.map aq⟩)::(ae oB 11 (ps.map Prod.fst)++(ae oT 4 (ts.map ah.enc)++ae o 1 (ar.map aq)))))
  (λj ⟨oB,ps⟩=>(oB=none→ps=[])∧ps.length=j∧fK ps∧ab.wts (ps.map Prod.snd)≤10*j) (none,[]) ⟨λ_=>rfl,rfl,fK.mk nofun nofun,WF _⟩ ?_ ?_
 ·refine aF.row (R:=_) (K:=[]) (rows:=[[.str nm,.Xw 0,.sl lb 0 2,.nils]]) (rows':=[[.str nm,.Xw 0,.sl lb 0 2,am none 0]]) (.refl _) Xt (λj r r' q1 q2=>?_)
  match j with
   |0=>cases q1;cases q2;exact .cons (.refl _) (.cons (.refl _) (.cons (.refl _) (.cons .nile .nil)))
   |j+1=>simp at q1
 rintro j ⟨oB,ps⟩ hjn ⟨hoB,hl,hg,hw⟩;dsimp only at hoB hl hg hw ⊢;unfold iy;generalize hnx:(λ(vs':List AV) (L':SH)=>_)=nx;subst hl;rcases Nat.lt_or_ge (ps.length+1) n with g|g
 ·have hd1:=bK g;have hi1:=aD g Xr;unfold df me
  repeat' (first|refine st ?_|refine eH (l:=qe) ?_ mm rfl (by simp[qe];omega)|refine dx ?_ Xr|refine cm rp rp Xu (λe=>by first|simp[hoB e]) Xt Xu (by simp;omega) (by simp;omega) Xt (λnb_ hnb_=>?_)|refine sb λnb_ hnb_=>?_|refine s2 (λh=>?_) λh=>?_|fail)
  subst hnx;have hnl:=LN (ps.length+1);generalize qe.getD (ps.length+1) []=w at hnl ⊢;refine⟨ps.length+1,(some nb_,ps++[(FJ 12 w,lm 12 w)]),Xr,Xr,⟨nofun,Xu,hg.raw 12 w,?_⟩,aF.pickE (R:=(bh,_)::(lb,_)::(bm,_)::(bt,_)::(b0,_)::(bp,_)::(nmb,_)::(nb_,⟨11,ps.map Prod.fst++[FJ 12 w]⟩)::(ae oT 4 (ts.map ah.enc)++ae o 1 (ar.map aq))) (.one (.there _ (.there _ (.here _))) (.one (.there _ (.there _ (.here _))) (.one (.there _ (.there _ (.here _))) (.one (.there _ (.there _ (.here _))) (.one (.there _ (.there _ (.here _))) (.one (.there _ (.there _ (.here _))) (.one (.there _ (.there _ (.here _))) (.one (.here _) (.slot (.there _ (.here _)) (.slotl (.there _ .last))))))))))) rfl ?_⟩
  ·rw[VQ,iT];simp only[VM,Wv,lm,wz,Wg];omega
  ·dsimp only;rw[List.map_append];rfl
 ·have hd1:=bO g;clear hnx;unfold df me at *
  repeat' (first|(with_reducible refine Rj ?_)|refine st ?_|refine sb λnb_ hnb_=>?_|refine s2 (λh=>?_) λh=>?_|fail)
  exact hj oB ps hoB Xr hg Xr
theorem ml{b c:Nat}{L:SH}{y:Blk}(h:¬b∈SH.names L)(hm:(c,y)∈L):b≠c:=λe=>h (by subst e;exact Wm.2 ⟨_,hm,rfl⟩)
theorem JD{o:Option Nat}{b n:Nat}{rows:List (List AV)}(h:o=some b):(b,(⟨n,rows⟩:Blk))∈ae o n rows:=by subst h;exact .head _
theorem MS{Q:R}{n23:Kn}{bm bt b0 bp nmb a n i:Nat}{t:List UInt8}{th le:Int}{se tx at_ lo:Bool}{o oT:Option Nat}{ar:List aZ}{ts:List ah}
  (ht:t.length<2^40) (ha:a≤t.length) (ho:o=none→ar=[]) (hoT:oT=none→ts=[]) (hts:ts.length=i) (hi:i<n) (hn4:n≤4)
  (hn:∀(x:ah) (a':Nat) (th' le':Int) (se' tx' at' lo':Bool) (o':Option Nat) (ar':List aZ) (nbT:Nat) (L':SH),(ah.wt x≤40000∧x.name=qe.getD i []∧x.locals=[[97],[98]])→a'≤t.length→(o'=none→ar'=[])→aF [.ptr b0 0 0,.ptr bm 0 0,.ptr bp 0 0,.Xw n,.sl nmb 0 4,.Xw (IntKind.i64.wrap ((i:Int)+1))] L' [.ptr b0 0 0,.ptr bm 0 0,.ptr bp 0 0,.Xw n,.sl nmb 0 4,.Xw (IntKind.i64.wrap ((i:Int)+1))] (PH bm bt b0 bp nmb t a' th' le' se' tx' at' lo' o' ar' (some nbT) (ts.length+1) (ts++[x]))→aF [.ptr b0 0 0,.ptr bm 0 0,.ptr bp 0 0,.Xw n,.sl nmb 0 4,.Xw (IntKind.i64.wrap ((i:Int)+1))] L' [.ptr b0 0 0,.ptr bm 0 0,.ptr bp 0 0,.Xw n,.sl nmb 0 4,.Xw (IntKind.i64.wrap ((i:Int)+1))] (PZ b0 bp (ts++[x]))→n23 [.ptr b0 0 0,.ptr bm 0 0,.ptr bp 0 0,.Xw n,.sl nmb 0 4,.Xw (IntKind.i64.wrap ((i:Int)+1))] L') :
  fo Q [.ptr b0 0 0,.ptr bm 0 0,.ptr bp 0 0,.Xw n,.sl nmb 0 4,.Xw (i:Int)] (PH bm bt b0 bp nmb t a th le se tx at_ lo o ar oT ts.length ts) n23:=by
 have hd1:=bK hi;unfold fo PH df me;rcases i with _|i
 ·repeat' (first|refine st ?_|refine eH (l:=qe) ?_ mm rfl (by simp[qe])|refine dx ?_ Xr|refine sb λnb_ hnb_=>?_|refine s2 (λh=>?_) λh=>?_|fail)
  have f1:nb_≠bm:=ml hnb_ (.tail _ (.head _));have f2:nb_≠bt:=ml hnb_ (.tail _ (.tail _ (.head _)));have f3:∀b,o=some b→nb_≠b:=λb e=>ml hnb_ (.tail _ (.tail _ (.tail _ (.tail _ (.tail _ (.tail _ (Wa _ (JD e))))))))
  exact Th hn4 Xr λoB ps hoB hps hg hw=>Rk (Te ht ha ho hoT hoB Xr hps f1 f2 f3 hg Xv hw hn)
 ·have hz:decide (((i+1:Nat):Int)=0)=false:=by simp;omega
  repeat' (first|(with_reducible refine Rj ?_)|refine st ?_|refine eH (l:=qe) ?_ mm rfl (by simp[qe];omega)|refine dx ?_ Xr|refine sb λnb_ hnb_=>?_|refine s2 (λh=>?_) λh=>?_|fail)
  have f1:nb_≠bm:=ml hnb_ (.tail _ (.head _));have f2:nb_≠bt:=ml hnb_ (.tail _ (.tail _ (.head _)));have f3:∀b,o=some b→nb_≠b:=λb e=>ml hnb_ (.tail _ (.tail _ (.tail _ (.tail _ (.tail _ (.tail _ (Wa _ (JD e))))))))
  exact Rk (Tg ht ha ho hoT Xr f1 f2 f3 (LN (i+1)) hz hn)
theorem VG{r:Nat}(h:r<100):IntKind.i64.wrap (2+(r:Int))=((2+r:Nat):Int):=by rw[WA _ Xr];omega
inductive MT (K:SH):SH→SH→Prop where
 |nil:MT K [] []
 |same (p:Nat×Blk) {R R2:SH}:MT K R R2→MT K (p::R) (p::R2)
 |box {b n:Nat} {r r':List AV} {R R2:SH}:iU K r r'→MT K R R2→MT K ((b,⟨n,[r]⟩)::R) ((b,⟨n,[r']⟩)::R2)
theorem aF.blks{vs vs2:List AV}{L K R R2:SH}(hL:L.Perm (K++R))(h:MT K R R2)(hv:vs=vs2):aF vs L vs2 R2:=by
 subst hv;refine⟨K,R,hL,⟨rfl,λi a a2 h1 h2=>by rw[h1]at h2;cases h2;exact .refl _⟩,?_,?_⟩
 ·clear hL
  induction h with
  |nil=>rfl
  |same p h ih=>simp[ih]
  |box h1 h ih=>simp[ih]
 ·clear hL
  induction h with
  |nil=>intro i p q h1;simp at h1
  |same p h ih=>
   intro i x y h1 h2
   match i with
   |0=>cases h1;cases h2;exact⟨rfl,rfl,rfl,λj r r2 h3 h4=>by rw[h3]at h4;cases h4;exact⟨rfl,λk a a2 h5 h6=>by rw[h5]at h6;cases h6;exact .refl _⟩⟩
   |i+1=>exact ih i x y (by simpa using h1) (by simpa using h2)
  |box hr h ih=>
   intro i x y h1 h2
   match i with
   |0=>cases h1;cases h2;exact⟨rfl,rfl,rfl,λj r r2 h3 h4=>(cN hr j r r2 h3 h4).at_⟩
   |i+1=>exact ih i x y (by simpa using h1) (by simpa using h2)
theorem MU{L R K:SH}(h:Dl L R K)(hK:K=[]:=by rfl):L.Perm ([]++R):=by subst hK;exact h.perm
end
section
set_option maxRecDepth 100000
set_option maxHeartbeats 4000000
theorem Pf(t:List UInt8)(ht:t.length<2^40):af Tryz.prog 20 [.lst (t.map fj)] [] λv K=>∃p:bQ,v=.agg p.enc∧K=[]∧p.wt≤200000∧p.decls=bD:=by
 refine af.fz (Cz _ _ _ ?_);unfold p8;generalize hQ:(λ(v:AV) (L:SH)=>∃v2 L2,aF [v] L [v2] L2∧∃p:bQ,v2=.agg p.enc∧L2=[]∧p.wt≤200000∧p.decls=bD)=Q;have hq:∀(p:bQ) (v:AV) (L:SH),Fz L v (.agg p.enc)→p.wt≤200000→p.decls=bD→Q v L:=λp v L h1 h2 h3=>by subst hQ;exact⟨_,_,aF.all h1,p,rfl,rfl,h2,h3⟩
 clear hQ
 repeat' (first|refine mE (sK (c:=((2+_:Nat):Int)) ?_ (VG Xr))|refine st ?_|(refine pf 33 ?_;refine pm (yB) ?_)|((with_reducible refine aY 34 ?_);(refine fC (t:=t) (a:=0) ht (WF _) rp (λr_ a_ hr_ ha_=>?_)))|refine sb λnb_ hnb_=>?_|refine s2 (λh=>?_) λh=>?_|fail)
 rename_i b0 hb0 bt hbt bm hbm bp hbp;refine cb (β:=Nat×Int×Int×Bool×Bool×Bool×Bool×Option Nat×List aZ×Option Nat×List ah) (2+r_) (λi ⟨a,th,le,se,tx,at_,lo,o,ar,oT,ts⟩=>([.ptr b0 0 0,.ptr bm 0 0,.ptr bp 0 0,.Xw ((2+r_:Nat):Int),.sl nb_ 0 4,.Xw (i:Int)],if i=2+r_ then PZ b0 bp ts else PH bm bt b0 bp nb_ t a th le se tx at_ lo o ar oT ts.length ts))
  (λi ⟨a,th,le,se,tx,at_,lo,o,ar,oT,ts⟩=>a≤t.length∧(o=none→ar=[])∧(oT=none→ts=[])∧ts.length=i∧(∀x∈ts,ah.wt x≤40000)) (a_,0,20,false,false,false,false,none,[],none,[]) ⟨ha_,λ_=>rfl,λ_=>rfl,rfl,nofun⟩ ?_ ?_
 ·show aF _ _ _ (if 0=2+r_ then PZ b0 bp []else _);rw[if_neg Xr];exact aF.blks (K:=[]) (R:=(bm,⟨8,[[.ptr bt 0 0,.Xw 0,.Xw 20,.bool false,.bool false,.bool false,.bool false,.nils]]⟩)::(bt,aO t a_)::(b0,⟨2,[[.nils,.nils]]⟩)::(bp,⟨2,[[.lst (bD.map aG.enc),.nils]]⟩)::(nb_,⟨1,qe.map aq⟩)::[]) (MU (.one (.there _ (.there _ (.there _ (.here _)))) (.one (.there _ (.here _)) (.one (.there _ (.there _ (.here _))) (.one (.there _ (.here _)) (.one (.here _) (.nil _))))))) (.box (.cons (.refl _) (.cons (.refl _) (.cons (.refl _) (.cons (.refl _) (.cons (.refl _) (.cons (.refl _) (.cons (.refl _) (.cons .nile .nil)))))))) (.same _ (.same _ (.box (.cons (.refl _) (.cons .nile .nil)) (.same _ .nil))))) rfl
 ·rintro i ⟨a,th,le,se,tx,at_,lo,o,ar,oT,ts⟩ hi ⟨ha,ho,hoT,hts,hw⟩;dsimp only at ha ho hoT hts hw ⊢;rcases Nat.lt_or_eq_of_le hi with g|g
  ·rw[if_neg Xr];refine MS ht ha ho hoT hts g Xr ?_;intro x a' th' le' se' tx' at' lo' o' ar' nbT L' ⟨q1,_,_⟩ q2 q3 q4 q5;have e:IntKind.i64.wrap ((i:Int)+1)=((i+1:Nat):Int):=aD g Xr;rw[e]at q4 q5 ⊢;refine⟨i+1,(a',th',le',se',tx',at',lo',o',ar',some nbT,ts++[x]),Xr,Xr,⟨q2,q3,nofun,by simp[hts],?_⟩,?_⟩
   ·intro y hy;rcases VY.1 hy with hy|hy
    ·exact hw y hy
    ·rw[VR.1 hy];exact q1
   ·dsimp only;by_cases z:i+1=2+r_
    ·rw[if_pos z];exact q5
    ·rw[if_neg z,VT];exact q4
  ·rw[if_pos g];subst g;have hd1:decide (((2+r_:Nat):Int)<((2+r_:Nat):Int))=false:=by simp
   have hpw:bQ.wt ⟨bD,ts⟩≤200000:=by
    have h1:(ts.map ah.wt).sum≤ts.length*40000:=by
     clear hts hi hoT
     induction ts with
     |nil=>simp
     |cons y l ih=>
      have:=hw y (.head _);have:=ih λz hz=>hw z (.tail _ hz)
      simp only[VM,WJ,V8];omega
    have h2:(bD.map aG.wt).sum=19:=by decide
    show(bD.map aG.wt).sum+(ts.map ah.wt).sum≤200000;rw[h2];omega
   have hc1:=Gj ⟨bD,ts⟩ Xr;unfold fo PZ
   repeat' (first|refine st ?_|(refine pf 28 ?_;refine pm (hc1) ?_)|(refine pf 33 ?_;refine pm (yB) ?_)|(refine pf 37 ?_;refine pm (Hu _) ?_)|(refine pf 36 ?_;refine pm (cB _ _) ?_)|refine sb λnb_ hnb_=>?_|refine s2 (λh=>?_) λh=>?_|fail)
   ·exact hq ⟨bD,[⟨[109,97,105,110],0,[[97],[98]],[cy [120] (Ht 1)]⟩]⟩ _ _ (Fz.aggs (.cons (.refl _) (.cons (eP (ts:=[]) (b:=nb_) mm Xt Xt (.cons (.refl _) (.cons (.refl _) (.cons (Fz.sls (l:=[[97],[98]]) (f:=aq) (size:=1) mm Xt Xv Xt) (.cons (Fz.sls (l:=[cy [120] (Ht 1)]) (f:=ab.enc) (size:=11) mm (by simp[ab.enc_row]) Xv Xt) .nil))))) .nil))) Xv rfl
   ·exact hq ⟨bD,ts⟩ _ _ (.refl _) hpw rfl
end
section
set_option maxRecDepth 100000
set_option maxHeartbeats 4000000
section
variable {w:aM} {loc:List aZ}
theorem KI(l:List ab)(hll:l.length<2^40)(h:∀i (hi:i<l.length),mi 61 [.agg l[i].row] w loc (3*l[i].wt)):mi 30 [.lst (l.map ab.enc)] w loc (3*ab.wts l):=by
 intro bg o out site next h0 hl
 refine af.fz (vw _ _ _ _ ?_);unfold kD;generalize hQ:(λ(v:AV) (L:SH)=>∃v2 L2,aF [v] L [v2] L2∧∃(o':Option Nat) (out':List bj) (site' next':Int),_)=Q;have fin:=AU hQ;clear hQ;refine cb l.length (λi (q:Option Nat×Int×Int×List bj)=>([.ptr bg 0 0,.lst (l.map ab.enc),.Xw i],(bg,gp w loc (am q.1 q.2.2.2.length) q.2.1 q.2.2.1)::ae q.1 6 (q.2.2.2.map bj.enc)))
  (λi q=>(q.1=none→q.2.2.2=[])∧out.length≤q.2.2.2.length∧q.2.2.2.length≤out.length+3*ab.wts (l.take i)) (o,site,next,out) ⟨h0,VL _,Wk _ _⟩ (.refl _ _) ?_
 rintro i ⟨o1,s1,n1,out1⟩ hi ⟨q1,q2,q3⟩;dsimp only at q1 q2 q3 ⊢;unfold jS;generalize hnx:(λ(vs':List AV) (L':SH)=>∃j o',i<j∧j≤l.length∧_)=nx;rcases Nat.lt_or_ge i l.length with g1|g1
 ·have hd:=bK g1;have hi1:=aD g1 Xr;have hx:=F1 g1;have hwi:=ab.wts_succ g1;have hwt:=ab.wts_take l (i+1);have hK:=h i g1;have hn:∀(o':Option Nat) (out':List bj) (s' n':Int),(o'=none→out'=[])→out1.length≤out'.length→out'.length≤out1.length+3*l[i].wt→nx [.ptr bg 0 0,.lst (l.map ab.enc),.Xw ((i+1:Nat):Int)] ((bg,gp w loc (am o' out'.length) s' n')::([]++ae o' 6 (out'.map bj.enc))):=by intro o' out' s' n' h1 h2 h3;subst hnx;exact⟨i+1,(o',s',n',out'),Xr,Xr,⟨h1,by dsimp only;omega,by dsimp only;omega⟩,.refl _ _⟩
  clear hnx h;generalize l[i]=x at *
  repeat' (first|refine st ?_|((with_reducible refine aY 61 ?_);(refine cX hK rp rp om an om (λo_ out_ s_ n_ ho_ hl_ hm_=>?_)))|refine sb λnb_ hnb_=>?_|refine s2 (λh=>?_) λh=>?_|fail)
  exact hn _ _ _ _ ho_ hl_ hm_
 ·have hd:=bO g1;have e:i=l.length:=by omega
  subst e;rw[List.take_length]at q3
  repeat' (first|refine st ?_|refine sb λnb_ hnb_=>?_|refine s2 (λh=>?_) λh=>?_|fail)
  exact fin _ _ _ _ _ _ (.one (.here _) (.slotl .last)) om an om om
theorem QC(hw:WQ w)(hlo:loc.length<2^40):∀(n:Nat) (l:List ab),ab.wts l≤n→n<2^27→mi 30 [.lst (l.map ab.enc)] w loc (3*ab.wts l):=by
 intro n
 induction n using Nat.strongRecOn with
 |_ n ih=>
 intro l hl hn;refine KI l (by have:=ab.wts_len l;omega) λi hi=>?_
 have h1:=ab.wts_get l i hi;have h2:=(l[i]).wt_eq;exact(S0 hw hlo l[i] Xr (ih _ Xr l[i].body (VL _) Xr) (ih _ Xr l[i].els (VL _) Xr)).mono Xr
end
theorem af.fzL{P:Program}{f:FuncId}{args args2:List AV}{L L2:SH}{Q:AV→SH→Prop}(hz:aF args L args2 L2)(h:af P f args2 L2 Q):af P f args L Q:=⟨h.1,λH hb hs=>by
 obtain⟨H2,f1,f2,f3,f4⟩:=lD hz hs hb;obtain⟨v,H',L',h1,h2,h3⟩:=h.2 H2 f1.bd f1.sub;refine⟨v,H',L',λw σ vs hW hvs=>?_,f1.trans (h2.low (by rw[f2];exact VL _)) (VL _),h3⟩;obtain⟨g1,g2,g3⟩:=f3 w σ hW;refine(h1 w σ vs g1 (g3 vs hvs)).mono ?_;rintro e w' ⟨v',σ',rfl,k1,k2,e1,k4⟩;exact⟨v',σ',rfl,k1,k2,⟨e1.os,e1.tape,e1.output,e1.size,λc hc hT=>e1.keep c hc (λh=>hT (g2 c h)),e1.shape,e1.sig,e1.eqfr,e1.frame,λc hc=>(e1.own c hc).imp (g2 c) id⟩,λc pl hc=>by rw[←f2];exact k4 c pl hc⟩⟩
section
variable {n81:Kn} {x1 x2 x3 x4 x5 x6:AV} {bt bg k:Nat} {v:AV} {R:SH}
theorem QD(l:List Int)(hl:l.length<2^30)(hk1:IntKind.i64.wrap ((k:Int)+1)=((k+1:Nat):Int))
  (hn:∀a:Int,n81 [x1,x2,x3,x4,x5,x6,.ptr bt 0 0,.Xw ((k+1:Nat):Int)] ((bt,⟨2,[[.Xw a,v]]⟩)::R)) (a:Int) :
  W.loop (gS n81) [x1,x2,x3,x4,x5,x6,.ptr bt 0 0,.Xw k,.lst (l.map aj),.Xw 0] ((bt,⟨2,[[.Xw a,v]]⟩)::R):=by
 refine cb (β:=Int) l.length (λj a=>([x1,x2,x3,x4,x5,x6,.ptr bt 0 0,.Xw k,.lst (l.map aj),.Xw j],(bt,⟨2,[[.Xw a,v]]⟩)::R)) (λ_ _=>True) a trivial (.refl _ _) λj a hj _=>?_
 dsimp only;unfold gS;generalize hnx:(λ(vs':List AV) (L':SH)=>∃i o',j<i∧i≤l.length∧_)=nx;rcases Nat.lt_or_ge j l.length with g|g
 ·have hd:=bK g;have hi1:=aD g Xr;have hx:=ay (f:=aj) g;have hgo:∀a:Int,nx [x1,x2,x3,x4,x5,x6,.ptr bt 0 0,.Xw k,.lst (l.map aj),.Xw ((j+1:Nat):Int)] ((bt,⟨2,[[.Xw a,v]]⟩)::R):=λa=>by subst hnx;exact⟨j+1,a,Xr,Xr,trivial,.refl _ _⟩
  clear hnx
  repeat' (first|refine st ?_|refine Kv ?_|refine sb λnb_ hnb_=>?_|refine s2 (λh=>?_) λh=>?_|fail)
  exact hgo _
 ·have hd:=bO g
  repeat' (first|refine st ?_|refine sb λnb_ hnb_=>?_|refine s2 (λh=>?_) λh=>?_|fail)
  exact hn _
theorem QE{n23:Kn}{w:aM}{loc:List aZ}{b:Nat}{site next:Int}{M L0:SH}(out:List bj)(a:Int)(hl:out.length<2^30)
  (hn:∀a:Int,gT n23 ((bt,⟨2,[[.Xw a,v]]⟩)::(bg,gp w loc (am (some b) out.length) site next)::(b,⟨6,out.map bj.enc⟩)::M) x3 (.ptr bt 0 0) x5 x1 x2 x4) :
  gq L0 ((bt,⟨2,[[.Xw a,v]]⟩)::(bg,gp w loc (am (some b) out.length) site next)::(b,⟨6,out.map bj.enc⟩)::M)→W.loop (gU n23) [x1,x2,x3,x4,x5,.ptr bg 0 0,.ptr bt 0 0,.Xw 0] L0:=by
 intro hp;refine cb (β:=Int) out.length (λj a=>([x1,x2,x3,x4,x5,.ptr bg 0 0,.ptr bt 0 0,.Xw j],(bt,⟨2,[[.Xw a,v]]⟩)::(bg,gp w loc (am (some b) out.length) site next)::(b,⟨6,out.map bj.enc⟩)::M)) (λ_ _=>True) a trivial (aF.pick hp rfl) ?_;intro j a hj0 _;dsimp only;unfold gU;generalize hnx:(λ(vs':List AV) (L':SH)=>∃k o',j<k∧k≤out.length∧_)=nx;rcases Nat.lt_or_ge j out.length with h|h
 ·have hd:=bK h;have hi:=aD h Xr;have hj:=ay (f:=bj.enc) h;have hlen:(bY out[j]).length<2^30:=by
   generalize out[j]=i;unfold bY
   repeat' split
   all_goals simp
  have hrun:=QD (n81:=nx) (x1:=x1) (x2:=x2) (x3:=x3) (x4:=x4) (x5:=x5) (x6:=.ptr bg 0 0) (bt:=bt) (v:=v) (R:=(bg,gp w loc (am (some b) out.length) site next)::(b,⟨6,out.map bj.enc⟩)::M) (bY out[j]) hlen hi (λa=>by
   subst hnx;exact⟨j+1,a,Xr,Xr,trivial,.refl _ _⟩) a
  clear hnx
  repeat' (first|exact hrun|refine st ?_|(refine pf 32 ?_;refine pm (QB out[j]) ?_)|refine sb λnb_ hnb_=>?_|refine s2 (λh=>?_) λh=>?_|fail)
 ·have hd:=bO h;clear hnx
  repeat' (first|exact hn _|refine st ?_|refine sb λnb_ hnb_=>?_|refine s2 (λh=>?_) λh=>?_|fail)
end
def Ve(b19:Nat)(w:aM)(v:AV):Nat×Blk:=(b19,⟨7,[[.lst (w.cells.map aV.enc),.lst (w.locks.map bV.enc),.lst (w.conds.map cI.enc),.lst (w.futures.map aq),.lst (w.threads.map aq),.lst (w.sites.map cz.enc),v]]⟩)
def Rl(b2 b19:Nat)(w:aM)(oT:Option Nat)(ts:List gL):SH:=Ve b19 w (am oT ts.length)::(b2,⟨7,[[.nils,.nils,.nils,.nils,.nils,.nils,.nils]]⟩)::ae oT 2 (ts.map gL.enc)
section
variable {n23:Kn} {b2 b19 i:Nat} {n:Int} {w:aM} {oT:Option Nat} {ts:List gL} {dl:List (List AV)} {th:List ah} {kb:Nat}
theorem QF(hi:i<th.length)(hi1:IntKind.i64.wrap ((i:Int)+1)=((i+1:Nat):Int))(hT:oT=none→ts=[])(hts:ts.length<2^20)(hK:mi 30 [.lst (th[i].body.map ab.enc)] w th[i].locals kb)(hkb:kb<2^28)
  (hn:∀(nb:Nat) (L':SH) (n2:Int) (tc:gL),tc.ins.length<2^30→aF [.pptr [[.lst dl,.lst (th.map ah.enc)]] 0 0,.ptr b2 0 0,.ptr b19 0 0,.Xw n2,.Xw ((i+1:Nat):Int)] L' [.pptr [[.lst dl,.lst (th.map ah.enc)]] 0 0,.ptr b2 0 0,.ptr b19 0 0,.Xw n2,.Xw ((i+1:Nat):Int)] (Rl b2 b19 w (some nb) (ts++[tc]))→n23 [.pptr [[.lst dl,.lst (th.map ah.enc)]] 0 0,.ptr b2 0 0,.ptr b19 0 0,.Xw n2,.Xw ((i+1:Nat):Int)] L') :
  gV n23 (Rl b2 b19 w oT ts) (.ptr b19 0 0) (.pptr [[.lst dl,.lst (th.map ah.enc)]] 0 0) (.Xw i) (.Xw n) (.ptr b2 0 0):=by
 have hx:=ay (f:=ah.enc) hi;have hT0:oT=none→ts.map gL.enc=[]:=λe=>by rw[hT e];rfl
 have h00:([]:List bj).length=0:=rfl;unfold gV Rl Ve
 repeat' (first|refine st ?_|((with_reducible refine aY 30 ?_);(refine⟨af.fzL (aF.row (K:=[]) (rows':=(gp w th[i].locals (am none 0) 0 n).rows) (.refl _) rfl (cN (.cons (.refl _) (.cons (.refl _) (.cons (.refl _) (.cons (.refl _) (.cons (.refl _) (.cons (.refl _) (.cons (.refl _) (.cons .nile (.cons (.refl _) (.cons (.refl _) .nil)))))))))))) (cX (o:=none) (out:=[]) (m:=0) (site:=0) (next:=n) hK rp (.here _) rfl (λ_=>rfl) om (λo_ out_ s_ n_ ho_ hl_ hm_=>?_)).1⟩;dsimp only[List.nil_append,List.cons_append]))|((with_reducible refine aY 31 ?_);(refine dw (site:=-1) rp rp om an om (λb_ out_ hl_=>?_);simp only[List.cons_append,List.append_assoc,List.nil_append,List.append_nil]))|refine sb λnb_ hnb_=>?_|refine s2 (λh=>?_) λh=>?_|fail)
 refine QE (out:=out_) (b:=b_) (w:=w) (loc:=th[i].locals) (site:=-1) (next:=n_) (M:=(b19,⟨7,[[.lst (w.cells.map aV.enc),.lst (w.locks.map bV.enc),.lst (w.conds.map cI.enc),.lst (w.futures.map aq),.lst (w.threads.map aq),.lst (w.sites.map cz.enc),am oT ts.length]]⟩)::(b2,⟨7,[[.nils,.nils,.nils,.nils,.nils,.nils,.nils]]⟩)::ae oT 2 (ts.map gL.enc)) th[i].locals.length Xr (λa=>?_) (.one (.here _) (.one (.here _) (gq.slot (o:=some b_) (n:=6) (.there _ (.there _ (.skip _ _ _ .last))) (.one (.here _) (.one (.here _) (.slotl rp))))));unfold gT
 repeat' (first|refine st ?_|refine cm rp rp Xu (λe=>by first|simp[hT0 e]) Xt Xu (by simp;omega) (by simp;omega) Xt (λnb_ hnb_=>?_)|refine sb λnb_ hnb_=>?_|refine s2 (λh=>?_) λh=>?_|fail)
 have e:Rl b2 b19 w (some nb_) (ts++[gL.mk a out_])=[Ve b19 w (.sl nb_ 0 (ts.length+1)),(b2,⟨7,[[.nils,.nils,.nils,.nils,.nils,.nils,.nils]]⟩)]++(nb_,⟨2,(ts++[gL.mk a out_]).map gL.enc⟩)::[]:=by unfold Rl;rw[VT];rfl
 refine hn nb_ _ _ (.mk a out_) (by show out_.length<_;omega) ?_;rw[e];refine aF.rowA (rows:=ts.map gL.enc++[[.Xw a,.sl b_ 0 out_.length]]) (.one (.there _ (.there _ (.there _ (.there _ (.there _ (.here _)))))) (.one (.there _ (.there _ (.there _ (.there _ (.there _ (.here _)))))) (.one (.here _) (.nil _)))) Xu (cU (f:=gL.enc) (x:=.mk a out_) (.cons (.refl _) (.cons (Fz.sls (l:=out_) (f:=bj.enc) (size:=6) mm rfl Xv rfl) .nil))) rfl
end
end
section
set_option maxRecDepth 100000
set_option maxHeartbeats 4000000
theorem U6(ts:List ah):∀(w:aM),(ts.foldl dq w).cells=w.cells∧(ts.foldl dq w).locks=w.locks∧(ts.foldl dq w).conds=w.conds∧(ts.foldl dq w).futures=w.futures∧(ts.foldl dq w).threads=w.threads++ts.map ah.name:=by
 induction ts with
 |nil=>intro w;simp
 |cons t l ih=>intro w;rw[Xj];obtain⟨a,b,c,d,e⟩:=ih (dq w t);exact⟨a,b,c,d,by rw[e];simp[dq]⟩
theorem U7{p:bQ}(hd:p.decls=bD)(hl:p.threads.length≤200000):WQ (lj p):=by
 obtain⟨a,b,c,d,e⟩:=U6 p.threads (p.decls.foldl bW aM.zero);unfold lj;have hw0:p.decls.foldl bW aM.zero=bD.foldl bW aM.zero:=by rw[hd]
 have z:(bD.foldl bW aM.zero).cells.length=5∧(bD.foldl bW aM.zero).locks.length=3∧(bD.foldl bW aM.zero).conds.length=1∧(bD.foldl bW aM.zero).futures.length=1∧(bD.foldl bW aM.zero).threads.length=0∧wY (bD.foldl bW aM.zero).cells [113]=3:=by decide
 rw[hw0]at a b c d e ⊢;obtain⟨z1,z2,z3,z4,z5,z6⟩:=z;refine⟨by rw[a,z1];decide,by rw[b,z2];decide,by rw[c,z3];decide,by rw[d,z4];decide,by rw[e];simp[z5];omega,3,by rw[a,z1];decide,by rw[a,z6];rfl⟩
theorem KJ:∀d∈bD,(1≤d.kind∧d.kind≤6)∧d.size≤4:=by decide
theorem bI.pure(c:bI):aX (.agg c.enc):=.aggs (eg (.lmap λx _=>by unfold aV.enc;exact pv) (eg (.lmap λx _=>by unfold bV.enc;exact pv) (eg (.lmap λx _=>by unfold cI.enc;exact pv) (eg (.lmap λx _=>lZ x) (eg (.lmap λx _=>lZ x) (eg (.lmap λx _=>by unfold cz.enc;exact pv) (eg (.lmap λx _=>by unfold gL.enc;exact eg (.int _ _) (eg (.lmap λx _=>by unfold bj.enc;exact pv) Et)) Et)))))))
theorem JE(p:bQ){e ln:Int}(hd:p.decls=bD)(hck:ax Tryz.prog 28 [.agg p.enc] (.tup [.Xw e,.Xw ln]))(hw:p.wt≤200000):
  ∃(c:bI) (a b:Int),((∀x∈c.ts,x.ins.length<2^40)∧c.w.locks.length<2^40∧c.ts.length<2^40)∧ax Tryz.prog 19 [.agg p.enc] (.tup [.agg c.enc,.Xw a,.Xw b]):=by
 have htl:=p.threads_len
 suffices h:af Tryz.prog 19 [.agg p.enc] [] λv K=>∃(c:bI) (a b:Int),v=.tup [.agg c.enc,.Xw a,.Xw b]∧(∀x∈c.ts,x.ins.length<2^40)∧c.w.locks.length<2^40∧c.ts.length<2^40 by obtain⟨v,K,⟨c,a,b,rfl,hc⟩,hp⟩:=h.pure pv (by rintro _ _ ⟨c,a,b,rfl,_⟩;exact .tups (eg (bI.pure c) (eg (.int _ _) (eg (.int _ _) Et))));exact⟨c,a,b,hc,hp⟩
 refine af.fz (AT _ _ _ ?_);unfold nR bQ.enc;generalize hQ:(λ(v:AV) (L:SH)=>∃v2 L2,aF [v] L [v2] L2∧∃(c:bI) (a b:Int),_)=Q;have hq:∀(c:bI) (v:AV) (a b:Int) (L:SH),Fz L v (.agg c.enc)→(∀x∈c.ts,x.ins.length<2^40)∧c.w.locks.length<2^40∧c.ts.length<2^40→Q (.tup [v,.Xw a,.Xw b]) L:=λc v a b L h h2=>by subst hQ;exact⟨_,[],aF.all (.tups (.cons h (.cons (.refl _) (.cons (.refl _) .nil)))),c,a,b,rfl,h2⟩
 clear hQ;by_cases he:e=0
 case neg=>
  have d0:decide (e≠0)=true:=decide_eq_true he
  repeat' (first|refine st ?_|(refine pf 28 ?_;refine pm (hck) ?_)|refine sb λnb_ hnb_=>?_|refine s2 (λh=>?_) λh=>?_|fail)
  exact hq ⟨⟨[],[],[],[],[],[]⟩,[]⟩ _ _ _ _ (Fz.aggs (.cons .nils (.cons .nils (.cons .nils (.cons .nils (.cons .nils (.cons .nils (.cons .nils .nil)))))))) ⟨λx hx=>(Wi hx).elim,Xv,Xv⟩
 subst he;have hW:=MR p (by rw[hd];exact KJ) hck hw;have hQ2:=U7 hd Xr
 repeat' (first|refine st ?_|(refine pf 28 ?_;refine pm (hck) ?_)|(refine pf 29 ?_;refine pm (hW) ?_)|refine sb λnb_ hnb_=>?_|refine s2 (λh=>?_) λh=>?_|fail)
 rename_i b0 hb0 b2 hb2;refine cb (β:=Option Nat×List gL×Int) p.threads.length (λi q=>([.pptr [[.lst (p.decls.map aG.enc),.lst (p.threads.map ah.enc)]] 0 0,.ptr b2 0 0,.ptr nb_ 0 0,.Xw q.2.2,.Xw i],Rl b2 nb_ (lj p) q.1 q.2.1)) (λi q=>(q.1=none→q.2.1=[])∧q.2.1.length=i∧∀x∈q.2.1,x.ins.length<2^40) (none,[],0) ⟨λ_=>rfl,rfl,nofun⟩ ?_ ?_
 ·dsimp only;refine aF.row (K:=[]) (b:=nb_) (n:=7) (rows:=[bA [.nils,.nils,.nils,.nils,.nils,.nils,.nils] 0 (lj p).enc]) (rows':=[[.lst ((lj p).cells.map aV.enc),.lst ((lj p).locks.map bV.enc),.lst ((lj p).conds.map cI.enc),.lst ((lj p).futures.map aq),.lst ((lj p).threads.map aq),.lst ((lj p).sites.map cz.enc),.emp]]) (.refl _) rfl ?_;refine cN ?_;show iU [] [.lst ((lj p).cells.map aV.enc),.lst ((lj p).locks.map bV.enc),.lst ((lj p).conds.map cI.enc),.lst ((lj p).futures.map aq),.lst ((lj p).threads.map aq),.lst ((lj p).sites.map cz.enc),.nils] _;exact .cons (.refl _) (.cons (.refl _) (.cons (.refl _) (.cons (.refl _) (.cons (.refl _) (.cons (.refl _) (.cons .nile .nil))))))
 rintro i ⟨oT,ts,nx⟩ hi ⟨hG,hts,hin⟩;dsimp only at hG hts hin ⊢;unfold mh;generalize hnx:(λ(vs':List AV) (L':SH)=>∃j o',i<j∧j≤p.threads.length∧_)=nxt;rcases Nat.lt_or_ge i p.threads.length with g1|g1
 ·have hd1:=bK g1;have hi1:=aD g1 Xr;have hwt:=p.thread_wt g1;have hwe:(p.threads[i]).wt=1+(p.threads[i]).name.length+(p.threads[i]).locals.length+((p.threads[i]).locals.map List.length).sum+ab.wts (p.threads[i]).body:=rfl;have hK:=QC (loc:=p.threads[i].locals) hQ2 Xr _ p.threads[i].body (VL _) Xr;have hr:=QF (n23:=nxt) (b2:=b2) (b19:=nb_) (n:=nx) (dl:=p.decls.map aG.enc) (oT:=oT) (ts:=ts) g1 hi1 hG Xr hK Xr (λnb L' n2 tc h1 hz=>by
   subst hnx;refine⟨i+1,(some nb,ts++[tc],n2),Xr,Xr,⟨nofun,by simp[hts],λx hx=>?_⟩,hz⟩;rcases VY.1 hx with hx|hx
   ·exact hin x hx
   ·rw[VR.1 hx];omega)
  clear hnx;generalize hL:Rl b2 nb_ (lj p) oT ts=LW at *
  repeat' (first|exact hr|refine st ?_|refine sb λnb_ hnb_=>?_|refine s2 (λh=>?_) λh=>?_|fail)
 ·have hd1:=bO g1;unfold Rl Ve
  repeat' (first|refine st ?_|refine sb λnb_ hnb_=>?_|refine s2 (λh=>?_) λh=>?_|fail)
  refine au (.there _ (.here _)) rfl rfl (by simp[AX];exact⟨rfl,rfl,rfl,rfl,rfl,rfl⟩) rfl ?_
  repeat' (first|refine st ?_|refine sb λnb_ hnb_=>?_|refine s2 (λh=>?_) λh=>?_|fail)
  exact hq ⟨lj p,ts⟩ _ _ _ _ (Fz.aggs (.cons (.refl _) (.cons (.refl _) (.cons (.refl _) (.cons (.refl _) (.cons (.refl _) (.cons (.refl _) (.cons (E7 hG Xv λq h=>.tail _ (.tail _ h)) .nil)))))))) ⟨hin,hQ2.l,by show ts.length<_;omega⟩
theorem KK(s:UInt8):∀a∈fj s,aX a:=λa h=>by rw[VR.1 h];exact .int _ _
theorem MV(t:List UInt8)(ht:t.length<2^40):∃c:bI,ax Tryz.prog 7 [.lst (t.map fj)] (.agg c.enc)∧(∀x∈c.ts,x.ins.length<2^40)∧c.w.locks.length<2^40∧c.ts.length<2^40:=by
 obtain⟨v,K,⟨p,rfl,rfl,hw,hd⟩,hprog⟩:=(Pf t ht).pure (eg (.lmap λx _=>KK x) Et) (λu K ⟨p,h1,_⟩=>by rw[h1];exact p.pure);obtain⟨c,a,b,hc,hP⟩:=JE p hd (Gj p Xr) hw;refine⟨c,?_,hc⟩;refine af.fz (Hs _ _ _ ?_);unfold Bk;generalize hQ:(λ(v:AV) (L:SH)=>∃v2 L2,aF [v] L [v2] L2∧v2=AV.agg c.enc∧L2=[])=Q;have hq:∀L,Q (.agg c.enc) L:=λL=>by subst hQ;exact⟨_,[],aF.all (.refl _),rfl,rfl⟩
 clear hQ
 repeat' (first|refine st ?_|(refine pf 20 ?_;refine pm (hprog) ?_)|(refine pf 19 ?_;refine pm (hP) ?_)|refine sb λnb_ hnb_=>?_|refine s2 (λh=>?_) λh=>?_|fail)
 exact hq _
end
theorem Pg(t s:List UInt8)(k:Int):ax Tryz.prog 4 [.lst (t.map fj),.lst (s.map fj),.int .i8 k] (.bool true):=O0 t s k λh=>(MV t h).imp λc h=>⟨h.1,h.2.1,h.2.2.2⟩
section
open Go.ChangeShapes Go.WideShapes Go.ChangeAt Go.RowKit
def KM:bb:=⟨λ_=>none,λ_=>False⟩
def KO:Nat→Prop:=λ_=>False
def Vf{α:Type}(e:α→List AV)(G:α→Prop):Rel α:=λw _ x cs=>G x∧eh w KM KO (e x) cs
theorem E8{w:World}{σ:bb}{T:Nat→Prop}{a:AV}{v:Value}(h:aT w σ T a v):eh w σ T [a] [v]:=⟨rfl,λi x u h1 h2=>by
 match i with
 |0=>cases h1;cases h2;exact h
 |i+1=>simp at h1⟩
theorem AY{w:World}{σ:bb}{T:Nat→Prop}{a:AV}{v:Value}{l:List AV}{m:List Value}(h:eh w σ T [a] [v])(hl:eh w σ T l m):eh w σ T (a::l) (v::m):=⟨by simp[hl.1],λi x u h1 h2=>by
 match i with
 |0=>exact h.2 0 x u h1 h2
 |i+1=>exact hl.2 i x u (by simpa using h1) (by simpa using h2)⟩
theorem Ph{w:World}{σ:bb}{T:Nat→Prop}:eh w σ T [] []:=⟨rfl,λi x u h1 h2=>by simp at h1⟩
section
variable {H:Type} {enc:TypeId×Value→H} {P:Program} {w:World} {base:Nat} {spare:Nat→Bool} {held:Bool}
theorem Ti{t:TypeId}{k:IntKind}(ht:P.underlying t=some (.int k)):Opens H enc P w base spare held t (Vf (λn:Int=>[.int k n]) λn=>(Lit.int k n).wf=true):=λfuel cs x h=>by obtain⟨n,rfl,hn⟩:=opens_int ht fuel cs x h;exact⟨n,hn,E8 (.int k n)⟩
theorem Pi{α:Type}{t e:TypeId}{size:Nat}{f:α→List AV}{G:α→Prop}(ht:P.underlying t=some (.slice e))(hc:P.cellsOf e=size)(hs:0<size)(he:Opens H enc P w base spare held e (Vf f G)):
  Opens H enc P w base spare held t (Vf (λl:List α=>[.lst (l.map f)]) λl=>l.length≤maxLen∧∀x∈l,G x):=λfuel cs x h=>by
 obtain⟨l,A,c,rfl,h1,h2,h3⟩:=opens_slice ht hc hs he fuel cs x h;refine⟨l,⟨Xr,λx hx=>?_⟩,E8 ?_⟩
 ·obtain⟨i,hi,rfl⟩:=WO hx;obtain⟨b,o,_,_,hall⟩:=h3 Xr;obtain⟨cs',_,hR,_⟩:=hall i l[i] (VK hi);exact hR.1
 ·rcases WE l.length with h0|h0
  ·have:l=[]:=WS.1 h0;subst this;exact .lst0 A c h2
  ·obtain⟨b,o,rfl,hb,hall⟩:=h3 h0;have:=aT.lst (w:=w) (σ:=KM) (T:=KO) (l.map f) b o size c ⟨λh=>h,λi r hr=>?_,λi j hi hj=>?_,hs,by simpa using h0⟩ (by simpa using h1) h2 (λi r j a u hr ha hu=>?_)
   ·simpa using this
   ·rw[VZ]at hr;cases hx:l[i]? with
    |none=>rw[hx]at hr;cases hr
    |some y=>rw[hx]at hr;cases hr;obtain⟨cs',k1,k2,_⟩:=hall i y hx;rw[k2.2.1,k1]
   ·have hi':i<l.length:=by simpa using hi
    obtain⟨cs',k1,k2,k3⟩:=hall i l[i] (VK hi');exact⟨cs'[j],k3 j _ (VK Xr)⟩
   ·rw[VZ]at hr;cases hx:l[i]? with
    |none=>rw[hx]at hr;cases hr
    |some y=>
     rw[hx]at hr;cases hr;obtain⟨cs',k1,k2,k3⟩:=hall i y hx;have hj:j<cs'.length:=by rw[←k2.2.1];exact aA ha
     have hu':=k3 j _ (VK hj);rw[hu]at hu';cases hu';exact k2.2.2 j a _ ha (VK hj)
end
theorem MW{P:Program}{f:FuncId}{args:List AV}{vs:List Value}(h:ax P f args (.bool true))(w:World)(hv:eh w KM KO args vs)(hG:ij w KO:=by exact λg r h=>by cases h):Calls P f vs.toArray w λe w'=>e=.returned (.bool true)∧Below w.heap.size w w':=by
 obtain⟨v,H',L',h1,h2,rfl,rfl⟩:=h.2 ac.empty (λb _=>cS b) ⟨WT,λp hp=>by simp at hp⟩;have hown:aH KM ac.empty=KO:=by
  funext c;apply propext;constructor
  ·rintro(h|⟨b,x,pl,h4,_,_⟩)
   ·exact h
   ·rw[cS]at h4;cases h4
  ·exact λh=>h.elim
 have hW:aW w KM ac.empty:=⟨λb pl hb=>(by cases hb),λb pl hb=>(by cases hb),λb x hb=>(by rw[cS]at hb;cases hb),λc hc=>hc.elim,λb b' x x' pl pl' hb=>(by rw[cS]at hb;cases hb),by rw[hown];exact hG⟩;refine(h1 w KM vs hW (by rw[hown];exact hv)).mono ?_;rintro e w' ⟨v',σ',rfl,k1,k2,k3,_⟩;cases k1;rw[hown]at k3;exact⟨rfl,k3.os,k3.tape,k3.output,k3.size,λk hk=>k3.keep k hk λh=>h⟩
end
section
open Go.ChangeShapes Go.WideShapes Go.ChangeAt Go.RowKit
def Vg(n:Int):List AV:=[.int .u8 n]
def VI(l:List Int):List UInt8:=l.map λx=>UInt8.ofNat x.toNat
theorem Rm{x:Int}(h:(Lit.int .u8 x).wf=true):0≤x∧x<256:=by
 simp only[Lit.wf,V5,decide_eq_true_eq]at h;have h1:IntKind.u8.min=0:=by decide
 have h2:IntKind.u8.max=255:=by decide
 omega
theorem LO{l:List Int}(h:∀x∈l,0≤x∧x<256):(VI l).map fj=l.map Vg:=by
 unfold VI;rw[List.map_map];refine List.map_congr_left λx hx=>?_
 have:=h x hx;show [AV.int .u8 (((UInt8.ofNat x.toNat).toNat:Nat):Int)]=[AV.int .u8 x];rw[UInt8.toNat_ofNat_of_lt' (by show x.toNat<256;omega),Int.toNat_of_nonneg this.1]
section
variable {H:Type} {enc:TypeId×Value→H} {w:World} {base:Nat} {spare:Nat→Bool} {held:Bool}
theorem Pj:Opens H enc Tryz.prog w base spare held 22 (Vf (λl:List Int=>[.lst (l.map Vg)]) λl=>l.length≤maxLen∧∀x∈l,(Lit.int .u8 x).wf=true):=
 Pi (size:=1) Tryz.underlying22 (by kernel_rfl) Xv (Ti (by kernel_rfl))
end
end
section
open Go.ChangeShapes Go.WideShapes Go.ChangeAt Go.RowKit
set_option maxRecDepth 100000
theorem Pk{H:Type}{enc:TypeId×Value→H}{P:Program}{w:World}{base:Nat}{spare:Nat→Bool}{held:Bool}{fuel:Nat}{t e:TypeId}{n:Nat}{cs:List Value}{ds:List (DataW H)}{q:List MemPlace}(ht:P.underlying t=some (.array n e))(hc:P.cellsOf e=1)(hn:P.cellsOf t=n)(h:DataW.trod enc P w base spare held fuel t cs=some (.agg ds,q)){i:Nat}{d:DataW H}(hd:ds[i]? =some d):
  ∃m c y,cs[i]? =some c∧DataW.trod enc P w base spare held m e [c]=some (d,y):=by
 obtain⟨xs,m,_,hx,hl,hxn,hel⟩:=DataW.trod_array ht h;simp only[Prod.mk.injEq,DataW.agg.injEq]at hx;rw[hx.1,VZ]at hd;cases hxi:xs[i]? with
 |none=>rw[hxi]at hd;cases hd
 |some x=>
  rw[hxi]at hd;cases hd;have hi:i<n:=by rw[←hxn];exact(Wt.1 hxi).1
  have hi2:i<cs.length:=by omega
  have h2:=hel i hi;rw[hc,Nat.mul_one,hxi,W6 hi2,List.take_succ_cons,List.take_zero]at h2;exact⟨m,cs[i],x.2,VK hi2,h2⟩
theorem QG{P:Program}{w:World}{fuel:Nat}{t e:TypeId}{n:Nat}{cs:Array Value}{l:List Int}{q:List MemPlace}{g:Nat}{nm:String}(hg:P.globalNamed nm=some g)(hv:w.var? P nm=some cs)(ht:P.underlying t=some (.array n e))(hc:P.cellsOf e=1)(hn:P.cellsOf t=n)(he:P.underlying e=some (.int .i64))(h:DataW.trod (λ_=>()) P w 0 (λ_=>true) false fuel t cs.toList=some (.agg (l.map λn=>.lit (.int .i64 n)),q))(j:Nat)(a:AV)(ha:(l.map λn=>AV.int .i64 n)[j]? =some a):∃u,w.cell? ⟨g,j,none⟩=some u∧HI u=some a:=by
 rw[VZ]at ha;cases hj:l[j]? with
 |none=>rw[hj]at ha;cases ha
 |some v=>
  rw[hj]at ha;cases ha;obtain⟨m,c,y,hcj,htr⟩:=Pk ht hc hn h (i:=j) (d:=.lit (.int .i64 v)) (by rw[VZ,hj];rfl);obtain⟨k,e1,e2,_⟩:=DataW.trod_int he htr;simp only[List.cons.injEq,and_true]at e1;simp only[Prod.mk.injEq,DataW.lit.injEq,Lit.int.injEq,true_and]at e2;refine⟨c,?_,?_⟩
  ·rw[World.var?_cell hg hv j,←V9,hcj]
  ·rw[e1,←e2.1];rfl
theorem QH{P:Program}{w:World}{fuel:Nat}{t e:TypeId}{n:Nat}{cs:Array Value}{l:List (List UInt8)}{q:List MemPlace}{g:Nat}{nm:String}(hg:P.globalNamed nm=some g)(hv:w.var? P nm=some cs)(ht:P.underlying t=some (.array n e))(hc:P.cellsOf e=1)(hn:P.cellsOf t=n)(he:P.underlying e=some .string)(h:DataW.trod (λ_=>()) P w 0 (λ_=>true) false fuel t cs.toList=some (.agg (l.map λn=>.lit (.string n)),q))(j:Nat)(a:AV)(ha:(l.map AV.str)[j]? =some a):∃u,w.cell? ⟨g,j,none⟩=some u∧HI u=some a:=by
 rw[VZ]at ha;cases hj:l[j]? with
 |none=>rw[hj]at ha;cases ha
 |some v=>
  rw[hj]at ha;cases ha;obtain⟨m,c,y,hcj,htr⟩:=Pk ht hc hn h (i:=j) (d:=.lit (.string v)) (by rw[VZ,hj];rfl);obtain⟨k,e1,e2,_⟩:=DataW.trod_string he htr;simp only[List.cons.injEq,and_true]at e1;simp only[Prod.mk.injEq,DataW.lit.injEq,Lit.string.injEq]at e2;refine⟨c,?_,?_⟩
  ·rw[World.var?_cell hg hv j,←V9,hcj]
  ·rw[e1,e2.1];rfl
theorem U8:(Tryz.prog.globals[1]?).map (·.type)=some 238:=by kernel_rfl
theorem Tj:(Tryz.prog.globals[0]?).map (·.type)=some 149:=by kernel_rfl
theorem Va : Tryz.prog.globalNamed "interleave/token.keywords" = some 1 := by kernel_rfl
theorem Tk : Tryz.prog.globalNamed "interleave/run.kinds" = some 0 := by kernel_rfl
theorem QI {W : World} (h : laidMetH Tryz.prog [("interleave/token.keywords", Rows.laid_interleave_token_keywords), ("interleave/run.kinds", Rows.laid_interleave_run_kinds)] W) : ij W KO := by
 rw[MakeChecks.laidMetH_plain _ _ _ (by kernel_rfl)]at h;obtain⟨ps,⟨g0,t0,cs0,f0,p0,q0,hg0,ht0,hv0,hd0,⟨g1,t1,cs1,f1,p1,q1,hg1,ht1,hv1,hd1,_,_⟩,_⟩,_,_⟩:=h;obtain rfl:=Xm (Va.symm.trans hg0);obtain rfl:=Xm (Tk.symm.trans hg1);obtain rfl:=Xm (U8.symm.trans ht0);obtain rfl:=Xm (Tj.symm.trans ht1);intro g r hg;unfold Vc at hg;split at hg
 ·rename_i e;subst e;cases hg;exact⟨λh=>h,Xv,QG hg1 hv1 Tryz.underlying149 (by kernel_rfl) (by kernel_rfl) Tryz.underlying3 hd1⟩
 ·split at hg
  ·rename_i e;subst e;cases hg;exact⟨λh=>h,Xv,QH hg0 hv0 Tryz.underlying238 (by kernel_rfl) (by kernel_rfl) Tryz.underlying9 hd0⟩
  ·cases hg
end
end Go.Proofs.YtdnpdghlggbklaaGreatDoor.Am
