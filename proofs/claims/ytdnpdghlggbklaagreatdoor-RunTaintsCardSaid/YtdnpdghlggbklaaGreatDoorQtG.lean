/- A part of the proof; the statement is proved in the last part. -/
import Derived.Test.YtdnpdghlggbklaaGreatDoorQtF
import Derived.Test.YtdnpdghlggbklaaGreatDoorRows
import Derived.OpenShut
import Derived.MakeChecks
import Derived.FnData
set_option linter.unusedSimpArgs false
set_option linter.unusedVariables false
namespace Go.Proofs.YtdnpdghlggbklaaGreatDoor.Am
section
set_option maxRecDepth 100000
set_option maxHeartbeats 2000000
theorem Gw{α:Type}{o:Option Nat}{size:Nat}{l:List α}{f:α→List AV}{L:SH}(h0:o=none→l=[])(hs:0<size)(hm:∀q∈ae o size (l.map f),q∈L):Fz L (ao o l.length) (.lst (l.map f)):=by
 cases o with
 |none=>rw[h0 rfl];exact .emp
 |some b=>exact Fz.sls (hm _ (.head _)) rfl hs rfl
theorem Ca(o:Option Nat)(n:Nat):(ao o n).one=true:=by cases o<;>rfl
theorem Lc(o:Option Nat)(n:Nat):(ao o n).cells? =some [ao o n]:=by cases o<;>rfl
section
variable {n151:Kn} {b2 b6 i:Nat} {oc ol od of ot os:Option Nat} {w:aO} {dl:List (List AV)} {ts:List ah} {Q:R}
theorem SL(hi:i<ts.length)(hi1:IntKind.i64.wrap ((i:Int)+1)=((i+1:Nat):Int))(hw:i=w.threads.length)(hti:i<2^20)(hb:ab.wts ts[i].body<2^20)(hsl:w.sites.length<2^29)(ho:G1 b6 oc ol od of ot os w)
  (hn:Tp (n151 [.pptr [[.lst dl,.lst (ts.map ah.enc)]] 0 0,.ptr b2 0 0,.ptr b6 0 0,.ZO ((i+1:Nat):Int)]) b2 b6 (dE w ts[i])) :
  ku n151 (Gy b2 b6 oc ol od of ot os w) (.ptr b6 0 0) (.pptr [[.lst dl,.lst (ts.map ah.enc)]] 0 0) (.ZO i) (.ptr b2 0 0):=by
 have hx:=ay (f:=ah.enc) hi;have hcw:=ab.cnts_wt ts[i].body;have hk:=Ra i (2^20) ts[i].body ZJ ZJ;have ht0:ot=none→w.threads.map av=[]:=λe=>by rw[ho.t e];rfl
 unfold dE at hn;rw[←hw]at hn;unfold ku Gy
 repeat' (first|refine st ?_|refine cx rp rp ZM (λe=>by first|simp[ht0 e]) ZL ZM (by simp;omega) (by simp;omega) ZL (λnb_ hnb_=>?_)|((with_reducible refine eD 60 ?_);refine ou ?_;refine Mn (t:=i) (n:=0) hk rp rfl rfl ho.s ZJ ZJ (λo_ ho_ ks_=>?_);simp only[Zn,Za,YP])|refine Cl ?_ (h2:=Lc _ _) (h4:=Ca _ _)|refine sb λnb_ hnb_=>?_|refine s2 (λh=>?_) λh=>?_|fail)
 exact hn oc ol od of (some nb_) o_ _ _ _ _ _ _ _ _ _ _ _ _ _ ⟨ho.c,ho.l,ho.d,ho.f,nofun,ho_,ho.n⟩ rp (by simp[ao]) rfl rfl rfl rfl (by rw[Yc];rfl) rfl
theorem Vr(hts:ts.length<2^20)(hb:∀t∈ts,ab.wts t.body<2^20)(hw0:w.threads=[])(hs0:w.sites=[])(hsl:∀k,(((ts.take k).foldl dE w).sites.length<2^29))(ho:G1 b6 oc ol od of ot os w)
  (hq:∀(v:AV) (L:SH),Fz L v (.agg (ts.foldl dE w).enc)→Q v L) :
  W.loop (kv Q) [.pptr [[.lst dl,.lst (ts.map ah.enc)]] 0 0,.ptr b2 0 0,.ptr b6 0 0,.ZO 0] (Gy b2 b6 oc ol od of ot os w):=by
 have hlen:∀k,k≤ts.length→((ts.take k).foldl dE w).threads.length=k:=by
  intro k
  induction k with
  |zero=>intro _;simp[hw0]
  |succ k ih=>intro h;rw[xl (show k<ts.length by omega)];simp[dE,ih ZJ]
 refine bW (β:=Option Nat×Option Nat×Option Nat×Option Nat×Option Nat×Option Nat) ts.length (λi q=>([.pptr [[.lst dl,.lst (ts.map ah.enc)]] 0 0,.ptr b2 0 0,.ptr b6 0 0,.ZO i],Gy b2 b6 q.1 q.2.1 q.2.2.1 q.2.2.2.1 q.2.2.2.2.1 q.2.2.2.2.2 ((ts.take i).foldl dE w)))
  (λi q=>G1 b6 q.1 q.2.1 q.2.2.1 q.2.2.2.1 q.2.2.2.2.1 q.2.2.2.2.2 ((ts.take i).foldl dE w)) (oc,ol,od,of,ot,os) ho (.refl _ _) ?_
 rintro i ⟨oc,ol,od,of,ot,os⟩ hi ho;dsimp only at ho ⊢;unfold kv;generalize hnx:(λ(vs':List AV) (L':SH)=>∃j o',i<j∧j≤ts.length∧_)=nx;rcases Nat.lt_or_ge i ts.length with g1|g1
 ·have hd:=bE g1;have hi1:=aA g1 ZJ;have hgo:Tp (nx [.pptr [[.lst dl,.lst (ts.map ah.enc)]] 0 0,.ptr b2 0 0,.ptr b6 0 0,.ZO ((i+1:Nat):Int)]) b2 b6 (dE ((ts.take i).foldl dE w) ts[i]):=.of λoc2 ol2 od2 of2 ot2 os2 L' q1 q2=>by subst hnx;rw[←xl (f:=dE) (a:=w) g1]at q1 q2;exact⟨i+1,(oc2,ol2,od2,of2,ot2,os2),ZJ,ZJ,q1,aG.pick q2 rfl⟩
  have hr:=SL (dl:=dl) g1 hi1 (hlen i ZJ).symm ZJ (hb _ (Yr g1)) (hsl i) ho hgo;clear hnx hgo;generalize hW:Gy b2 b6 oc ol od of ot os ((ts.take i).foldl dE w)=LW at *
  repeat' (first|exact hr|refine st ?_|refine sb λnb_ hnb_=>?_|refine s2 (λh=>?_) λh=>?_|fail)
 ·have hd:=bI g1;have e:i=ts.length:=by omega
  subst e;rw[List.take_length]at ho ⊢;unfold Gy
  repeat' (first|refine st ?_|refine sb λnb_ hnb_=>?_|refine s2 (λh=>?_) λh=>?_|fail)
  refine au (cs:=[ao oc (List.foldl dE w ts).cells.length,ao ol (List.foldl dE w ts).locks.length,ao od (List.foldl dE w ts).conds.length,ao of (List.foldl dE w ts).futures.length,ao ot (List.foldl dE w ts).threads.length,ao os (List.foldl dE w ts).sites.length]) (.there _ (.here _)) rfl rfl (by simp[Ca]) rfl ?_
  repeat' (first|refine st ?_|refine sb λnb_ hnb_=>?_|refine s2 (λh=>?_) λh=>?_|fail)
  refine hq _ _ (Fz.aggs (.cons (Gw ho.c ZN λq h=>.tail _ (.tail _ (Y1 _ h))) (.cons (Gw ho.l ZN λq h=>.tail _ (.tail _ (Yq _ (Y1 _ h)))) (.cons (Gw ho.d ZN λq h=>.tail _ (.tail _ (Yq _ (Yq _ (Y1 _ h))))) (.cons (Gw ho.f ZN λq h=>.tail _ (.tail _ (Yq _ (Yq _ (Yq _ (Y1 _ h)))))) (.cons (Gw ho.t ZN λq h=>.tail _ (.tail _ (Yq _ (Yq _ (Yq _ (Yq _ (Y1 _ h))))))) (.cons (Gw ho.s ZN λq h=>.tail _ (.tail _ (Yq _ (Yq _ (Yq _ (Yq _ (Yq _ h))))))) .nil)))))))
end
theorem Oz(w:aO)(d:aJ)(hs:d.size≤4):(cb w d).cells.length≤w.cells.length+4∧(cb w d).locks.length≤w.locks.length+1∧(cb w d).conds.length≤w.conds.length+1∧(cb w d).futures.length≤w.futures.length+1∧(cb w d).threads=w.threads∧(cb w d).sites=w.sites:=by
 unfold cb
 repeat' split
 all_goals simp[aJ.celW]
 all_goals omega
theorem HO(w:aO):∀(l:List aJ),(∀d∈l,d.size≤4)→(l.foldl cb w).cells.length≤w.cells.length+4*l.length∧(l.foldl cb w).locks.length≤w.locks.length+l.length∧(l.foldl cb w).conds.length≤w.conds.length+l.length∧(l.foldl cb w).futures.length≤w.futures.length+l.length∧(l.foldl cb w).threads=w.threads∧(l.foldl cb w).sites=w.sites:=by
 intro l
 induction l generalizing w with
 |nil=>intro _;simp
 |cons d l ih=>
  intro h;obtain⟨a1,a2,a3,a4,a5,a6⟩:=Oz w d (h d (.head _));obtain⟨b1,b2,b3,b4,b5,b6⟩:=ih (cb w d) λx hx=>h x (.tail _ hx)
  simp only[Zq,Ys];exact⟨ZJ,ZJ,ZJ,ZJ,b5.trans a5,b6.trans a6⟩
theorem Mq(ts:List ah):∀(w:aO),(ts.foldl dE w).sites.length=w.sites.length+gV (λt=>ab.cnts t.body) ts:=by
 induction ts with
 |nil=>intro w;simp[gV]
 |cons t l ih=>intro w;rw[Zq,ih];simp[dE,sitL_len,gV];omega
theorem OA(p:bZ){ln:Int}(hkind:∀d∈p.decls,(1≤d.kind∧d.kind≤6)∧d.size≤4)(hck:az Tryz.prog 28 [.agg p.enc] (.tup [.ZO 0,.ZO ln]))(hw:p.wt≤200000):az Tryz.prog 29 [.agg p.enc] (.agg (lY p).enc):=by
 have hdl:=p.decls_len;have htl:=p.threads_len;refine af.fz (Gq _ _ _ ?_);unfold tZ bZ.enc;generalize hQ:(λ(v:AV) (L:SH)=>∃v2 L2,aG [v] L [v2] L2∧v2=.agg (lY p).enc∧L2=[])=Q;have hq:∀v L,Fz L v (.agg (lY p).enc)→Q v L:=λv L h=>by subst hQ;exact⟨_,[],aG.all h,rfl,rfl⟩
 clear hQ
 repeat' (first|refine st ?_|(refine pf 28 ?_;refine pm (hck) ?_)|refine sb λnb_ hnb_=>?_|refine s2 (λh=>?_) λh=>?_|fail)
 rename_i b0 hb0 b2 hb2;have hlen:∀k,((p.decls.take k).foldl cb aO.zero).cells.length<2^30∧((p.decls.take k).foldl cb aO.zero).locks.length<2^30∧((p.decls.take k).foldl cb aO.zero).conds.length<2^30∧((p.decls.take k).foldl cb aO.zero).futures.length<2^30:=λk=>by
  obtain⟨a1,a2,a3,a4,_,_⟩:=HO aO.zero (p.decls.take k) λd hd=>(hkind d (List.mem_of_mem_take hd)).2
  have:(p.decls.take k).length≤200000:=by rw[Yx];omega
  simp only[aO.zero,YC]at a1 a2 a3 a4;exact⟨by show List.length _<_;unfold aO.zero;omega,by show List.length _<_;unfold aO.zero;omega,by show List.length _<_;unfold aO.zero;omega,by show List.length _<_;unfold aO.zero;omega⟩
 obtain⟨_,_,_,_,hth0,hsi0⟩:=HO aO.zero p.decls λd hd=>(hkind d hd).2
 refine bW (β:=Option Nat×Option Nat×Option Nat×Option Nat×Option Nat×Option Nat) p.decls.length (λi q=>([.pptr [[.lst (p.decls.map aJ.enc),.lst (p.threads.map ah.enc)]] 0 0,.ptr b2 0 0,.ptr nb_ 0 0,.ZO i],Gy b2 nb_ q.1 q.2.1 q.2.2.1 q.2.2.2.1 q.2.2.2.2.1 q.2.2.2.2.2 ((p.decls.take i).foldl cb aO.zero)))
  (λi q=>G1 nb_ q.1 q.2.1 q.2.2.1 q.2.2.2.1 q.2.2.2.2.1 q.2.2.2.2.2 ((p.decls.take i).foldl cb aO.zero)) (none,none,none,none,none,none) ⟨λ_=>rfl,λ_=>rfl,λ_=>rfl,λ_=>rfl,λ_=>rfl,λ_=>rfl,nofun⟩ ?_ ?_
 ·exact aG.rowA (K:=[]) (A:=[]) (R:=[(b2,⟨6,[Vd]⟩)]) (rows:=[[.nils,.nils,.nils,.nils,.nils,.nils]]) (.one (.here _) (.one (.here _) (.nil _))) rfl (cR (.cons .nile (.cons .nile (.cons .nile (.cons .nile (.cons .nile (.cons .nile .nil))))))) rfl
 rintro i ⟨oc,ol,od,of,ot,os⟩ hi ho;dsimp only at ho ⊢;unfold rk;generalize hnx:(λ(vs':List AV) (L':SH)=>∃j o',i<j∧j≤p.decls.length∧_)=nx;rcases Nat.lt_or_ge i p.decls.length with g1|g1
 ·have hd:=bE g1;have hi1:=aA g1 ZJ;have hgo:Tp (nx [.pptr [[.lst (p.decls.map aJ.enc),.lst (p.threads.map ah.enc)]] 0 0,.ptr b2 0 0,.ptr nb_ 0 0,.ZO ((i+1:Nat):Int)]) b2 nb_ (cb ((p.decls.take i).foldl cb aO.zero) p.decls[i]):=.of λoc2 ol2 od2 of2 ot2 os2 L' q1 q2=>by subst hnx;rw[←xl (f:=cb) (a:=aO.zero) g1]at q1 q2;exact⟨i+1,(oc2,ol2,od2,of2,ot2,os2),ZJ,ZJ,q1,aG.pick q2 rfl⟩
  obtain⟨a1,a2,a3,a4⟩:=hlen i;have hk:=hkind _ (Yr g1);have hr:=Ve (rows:=p.decls.map aJ.enc) (tl:=p.threads.map ah.enc) (d:=p.decls[i]) (ay g1) hk.1 ZJ hi1 ho a1 a2 a3 a4 hgo;clear hnx hgo;generalize hW:Gy b2 nb_ oc ol od of ot os ((p.decls.take i).foldl cb aO.zero)=LW at *
  repeat' (first|exact hr|refine st ?_|refine sb λnb_ hnb_=>?_|refine s2 (λh=>?_) λh=>?_|fail)
 ·have hd:=bI g1;have e:i=p.decls.length:=by omega
  subst e;rw[List.take_length]at ho ⊢;have hl:=Vr (Q:=Q) (dl:=p.decls.map aJ.enc) (ts:=p.threads) (b2:=b2) ZJ (λt ht=>?hb) hth0 hsi0 (λk=>?hs) ho hq
  case hb=>
   obtain⟨j,hj,rfl⟩:=Zc ht;have:=p.thread_wt hj;unfold ah.wt at this;omega
  case hs=>
   rw[Mq,hsi0];have h1:=FM (λt:ah=>ab.cnts t.body) p.threads k;have h2:gV (λt:ah=>ab.cnts t.body) p.threads≤p.wt:=by have:=KU (f:=λt:ah=>ab.cnts t.body) (g:=ah.wt) (λt=>by have:=ab.cnts_wt t.body;unfold ah.wt;omega) p.threads;unfold bZ.wt;unfold gV at *;omega
   simp only[aO.zero,YC];omega
  generalize hW:Gy b2 nb_ oc ol od of ot os (p.decls.foldl cb aO.zero)=LW at *
  repeat' (first|exact hl|refine st ?_|refine sb λnb_ hnb_=>?_|refine s2 (λh=>?_) λh=>?_|fail)
end
section
set_option maxRecDepth 100000
def xm(Q:R)(a:SH)(b:AV):Prop:=aC 1 b a λc=>aC 2 b a λd=>aC 3 b a λe=>W.bslice 1 [(.ZO 0)] 3 [(0,c),(1,d),(2,e)] a λf g=>Q f g
def xn(Q:R)(a:SH)(c b:AV):Prop:=wb .eql 3 c (.ZO 9) λd=>wk d (aC 2 b a λe=>aC 3 b a λf=>W.bslice 1 [(.ZO 0)] 2 [(0,e),(1,f)] a λg h=>Q g h) (Q .nils a)
def xo(Q:R)(c:Vs)(a:SH):Prop:=tI 1 4 37 c λb d e=>wk e (aC 2 b a λf=>W.bslice 1 [(.ZO 0)] 1 [(0,f)] a λg h=>Q g h) ((xn Q a d b))
def xp(Q:R)(b:SH)(a c:AV):Prop:=W.join (xo Q) λd=>wb .eql 3 a (.ZO 8) λe=>wk e (d [c,a,e] b) (wb .eql 3 a (.ZO 26) λf=>d [c,a,f] b)
def xq(Q:R)(a:SH)(c b:AV):Prop:=wb .eql 3 c (.ZO 7) λd=>wk d (aC 1 b a λe=>aC 3 b a λf=>W.bslice 1 [(.ZO 0)] 2 [(0,e),(1,f)] a λg h=>Q g h) ((xp Q a c b))
def xr(Q:R)(d:Vs)(a:SH):Prop:=tI 1 4 13 d λb c e=>wk e (aC 1 b a λf=>aC 2 b a λg=>W.bslice 1 [(.ZO 0)] 2 [(0,f),(1,g)] a λh i=>Q h i) (wb .eql 3 c (.ZO 4) λj=>wk j ((xm Q a b)) ((xq Q a c b)))
def xt(Q:R)(b:SH)(a c:AV):Prop:=W.join (xr Q) λd=>wb .eql 3 a (.ZO 2) λe=>wk e (d [c,a,e] b) (wb .eql 3 a (.ZO 3) λf=>d [c,a,f] b)
def xu(Q:R)(c:Vs)(a:SH):Prop:=tI 1 4 5 c λb d e=>wk e (aC 1 b a λf=>W.bslice 1 [(.ZO 0)] 1 [(0,f)] a λg h=>Q g h) ((xt Q a d b))
def xv(b:Kn)(c:SH)(a d:AV):Prop:=wb .eql 3 a (.ZO 6) λe=>wk e (b [d,a,e] c) (wb .eql 3 a (.ZO 10) λf=>wk f (b [d,a,f] c) (wb .eql 3 a (.ZO 27) λg=>b [d,a,g] c))
def ly(f:AV)(L:SH)(Q:R):Prop:=rF f L λa b=>aC 0 a b λc=>W.join (xu Q) λd=>wb .eql 3 c (.ZO 1) λe=>wk e (d [a,c,e] b) ((xv d b c a))
theorem xw(t0:AV)(L:SH)(Q:R)(h:ly t0 L Q):af Tryz.prog 32 [t0] L Q:=
 fs [(5,[1,4,5]),(8,[1,4,13]),(15,[1,4,37])] [] [(0,[1])] [] Tryz.func32 h
end
section
set_option maxRecDepth 100000
set_option maxHeartbeats 1000000
theorem SM(i:bq):az Tryz.prog 32 [.agg i.enc] (.lst ((cf i).map aj)):=by
 obtain⟨op,ia,ib,ic,n,site⟩:=i;refine af.fz (xw _ _ _ ?_);unfold ly;generalize hQ:(λ(v:AV) (L:SH)=>∃v2 L2,aG [v] L [v2] L2∧v2=AV.lst ((cf ⟨op,ia,ib,ic,n,site⟩).map aj)∧L2=[])=Q;have hq:∀(l:List Int),cf ⟨op,ia,ib,ic,n,site⟩=l→∀v L,Fz L v (.lst (l.map aj))→Q v L:=λl hl v L h=>by subst hQ;exact⟨_,[],aG.all h,by rw[hl],rfl⟩
 clear hQ
 repeat' (first|refine st ?_|refine sb λnb_ hnb_=>?_|refine s2 (λh=>?_) λh=>?_|fail)
 all_goals first
  |exact hq [ia] (by simp_all[cf];done) _ _ (Fz.sls (l:=[ia]) (f:=aj) (.head _) rfl ZN rfl)
  |exact hq [ib] (by simp_all[cf];done) _ _ (Fz.sls (l:=[ib]) (f:=aj) (.head _) rfl ZN rfl)
  |exact hq [ia,ib] (by simp_all[cf];done) _ _ (Fz.sls (l:=[ia,ib]) (f:=aj) (.head _) rfl ZN rfl)
  |exact hq [ia,ic] (by simp_all[cf];done) _ _ (Fz.sls (l:=[ia,ic]) (f:=aj) (.head _) rfl ZN rfl)
  |exact hq [ib,ic] (by simp_all[cf];done) _ _ (Fz.sls (l:=[ib,ic]) (f:=aj) (.head _) rfl ZN rfl)
  |exact hq [ia,ib,ic] (by simp_all[cf];done) _ _ (Fz.sls (l:=[ia,ib,ic]) (f:=aj) (.head _) rfl ZN rfl)
  |exact hq [] (by simp_all[cf];done) _ _ .nils
end
section
set_option maxRecDepth 100000
set_option maxHeartbeats 4000000
theorem Rk{α:Type}{f:α→List AV}{l:List α}{n by_:Nat}{L:SH}{KL:AV→SH→Prop}(hn:∀x,(f x).length=n)(h2:2*l.length*by_≤2^48)(h3:2*l.length≤2^62)(h4:∀x,(f x).all AV.one=true)
  (h:l=[]→KL .nils L) (h':∀b,KL (.sl b 0 l.length) ((b,⟨n,l.map f⟩)::L)):W.append n by_ .nils (.lst (l.map f)) L KL:=by
 have h4':((l.map f).all λr=>r.all AV.one)=true:=by rw[Yo];intro r hr;obtain⟨x,_,rfl⟩:=YH.1 hr;exact h4 x
 refine⟨[],l.map f,rfl,xR hn,by simpa using h2,by simpa using h3,h4',λe=>?_,λe b hb=>?_⟩
 ·exact h (by simpa using e)
 ·have:=h' b;simpa using this
theorem Vt{n23:Kn}{bm bt b0 bp nmb bh lb a n i:Nat}{t:List UInt8}{th le:Int}{se tx at_ lo:Bool}{o oT:Option Nat}{ar:List bC}{ts:List ah}{nm:bC}
  (ht:t.length<2^40) (ha:a≤t.length) (ho:o=none→ar=[]) (hoT:oT=none→ts=[]) (hts:ts.length≤4)
  (f1:bh≠bm) (f2:bh≠bt) (f3:∀b,o=some b→bh≠b) (hnm:nm.length≤4)
  (hz:decide ((i:Int)=0)=false) (hn:∀(x:ah) (a':Nat) (th' le':Int) (se' tx' at' lo':Bool) (o':Option Nat) (ar':List bC) (nbT:Nat) (L':SH),(ah.wt x≤40000∧x.name=nm∧x.locals=[[97],[98]])→a'≤t.length→(o'=none→ar'=[])→aG [.ptr b0 0 0,.ptr bm 0 0,.ptr bp 0 0,.ZO n,.sl nmb 0 4,.ZO (IntKind.i64.wrap ((i:Int)+1))] L' [.ptr b0 0 0,.ptr bm 0 0,.ptr bp 0 0,.ZO n,.sl nmb 0 4,.ZO (IntKind.i64.wrap ((i:Int)+1))] (PH bm bt b0 bp nmb t a' th' le' se' tx' at' lo' o' ar' (some nbT) (ts.length+1) (ts++[x]))→aG [.ptr b0 0 0,.ptr bm 0 0,.ptr bp 0 0,.ZO n,.sl nmb 0 4,.ZO (IntKind.i64.wrap ((i:Int)+1))] L' [.ptr b0 0 0,.ptr bm 0 0,.ptr bp 0 0,.ZO n,.sl nmb 0 4,.ZO (IntKind.i64.wrap ((i:Int)+1))] (PZ b0 bp (ts++[x]))→n23 [.ptr b0 0 0,.ptr bm 0 0,.ptr bp 0 0,.ZO n,.sl nmb 0 4,.ZO (IntKind.i64.wrap ((i:Int)+1))] L')
  : cl n23 [.ptr b0 0 0,.ptr bm 0 0,.ptr bp 0 0,.ZO n,.sl nmb 0 4,.ZO (i:Int),.ptr bh 0 0] ((bh,⟨4,[[.str nm,.ZO 0,.sl lb 0 2,AV.nils]]⟩)::(lb,⟨1,[[.str [97]],[.str [98]]]⟩)::(bm,dx bt th le se tx at_ lo o 0)::(bt,aR t a)::(b0,⟨2,[[.nils,.nils]]⟩)::(bp,⟨2,[[.lst (bM.map aJ.enc),ao oT ts.length]]⟩)::(nmb,⟨1,rn.map av⟩)::(ae oT 4 (ts.map ah.enc)++ae o 1 (ar.map av))):=by
 unfold cl dx mX
 repeat' (first|refine nK (ue ?_ (SI ZJ))|refine st ?_|((with_reducible refine bz 34 ?_);(refine fW ht ZK rp (λr_ a_ hr_ ha_=>?_)))|((with_reducible refine eD 34 ?_);refine DY ht ZK rp (λr_ a_ hr_ ha_=>?_))|((with_reducible refine eD 35 ?_);refine Lb rfl ZJ rp rp rp ht ZK ZK (La f1 f2 f3) ?_;rintro l_ a_ th_ le_ se_ tx_ at_ lo_ o_ ar_ ks_ hl_ ha_ ho_;have hl9_:=ab.wts_len l_;rcases o_ with _|ob_;all_goals dsimp only[DW,DX,List.nil_append,List.cons_append])|(refine Rk (λx=>by rw[ab.enc_row];rfl) ZJ ZJ (λx=>by rw[ab.enc_row];rfl) ?_ ?_;all_goals first|(intro e_;subst e_)|intro ob2_)|refine cx rp rp ZM (λe=>by first|simp[hoT e]) ZL ZM (by simp;omega) (by simp;omega) ZL (λnb_ hnb_=>?_)|refine sb λnb_ hnb_=>?_|refine s2 (λh=>?_) λh=>?_|fail)
 all_goals first
  |exact hn ⟨nm,0,[[97],[98]],l_⟩ a_ th_ le_ se_ tx_ at_ lo_ none ar_ nb_ _ ⟨by simp only[ah.wt,ab.wts,Yb,YT,Ys,YC,Y8,Zt];omega,rfl,rfl⟩ ha_ ho_ (aG.rowA (A:=[(bm,_),(bt,_),(b0,_),(bp,_),(nmb,_)]) (b:=nb_) (R:=[]) (rows':=(ts++[_]).map ah.enc) rp ZM (cZ (f:=ah.enc) (.cons (.refl _) (.cons (.refl _) (.cons (Fz.sls (l:=[[97],[98]]) (f:=av) (size:=1) (b:=lb) mm ZL ZN ZL) (.cons (Fz.sls (l:=l_) (f:=ab.enc) (size:=11) (b:=ob2_) mm ZL ZN ZL) .nil))))) rfl) (aG.rowA (A:=[(b0,_)]) (b:=bp) (R:=[]) (rows':=[[.lst (bM.map aJ.enc),.lst ((ts++[_]).map ah.enc)]]) rp ZL (cR (.cons (.refl _) (.cons (fj (b:=nb_) mm ZL ZL (.cons (.refl _) (.cons (.refl _) (.cons (Fz.sls (l:=[[97],[98]]) (f:=av) (size:=1) (b:=lb) mm ZL ZN ZL) (.cons (Fz.sls (l:=l_) (f:=ab.enc) (size:=11) (b:=ob2_) mm ZL ZN ZL) .nil))))) .nil))) rfl)
  |exact hn ⟨nm,0,[[97],[98]],[]⟩ a_ th_ le_ se_ tx_ at_ lo_ none ar_ nb_ _ ⟨by simp only[ah.wt,ab.wts,Yb,YT,Ys,YC,Y8,Zt];omega,rfl,rfl⟩ ha_ ho_ (aG.rowA (A:=[(bm,_),(bt,_),(b0,_),(bp,_),(nmb,_)]) (b:=nb_) (R:=[]) (rows':=(ts++[_]).map ah.enc) rp ZM (cZ (f:=ah.enc) (.cons (.refl _) (.cons (.refl _) (.cons (Fz.sls (l:=[[97],[98]]) (f:=av) (size:=1) (b:=lb) mm ZL ZN ZL) (.cons .nils .nil))))) rfl) (aG.rowA (A:=[(b0,_)]) (b:=bp) (R:=[]) (rows':=[[.lst (bM.map aJ.enc),.lst ((ts++[_]).map ah.enc)]]) rp ZL (cR (.cons (.refl _) (.cons (fj (b:=nb_) mm ZL ZL (.cons (.refl _) (.cons (.refl _) (.cons (Fz.sls (l:=[[97],[98]]) (f:=av) (size:=1) (b:=lb) mm ZL ZN ZL) (.cons .nils .nil))))) .nil))) rfl)
  |exact hn ⟨nm,0,[[97],[98]],l_⟩ a_ th_ le_ se_ tx_ at_ lo_ (some ob_) ar_ nb_ _ ⟨by simp only[ah.wt,ab.wts,Yb,YT,Ys,YC,Y8,Zt];omega,rfl,rfl⟩ ha_ ho_ (aG.rowA (A:=[(bm,_),(bt,_),(b0,_),(bp,_),(nmb,_)]) (b:=nb_) (R:=[(ob_,_)]) (rows':=(ts++[_]).map ah.enc) rp ZM (cZ (f:=ah.enc) (.cons (.refl _) (.cons (.refl _) (.cons (Fz.sls (l:=[[97],[98]]) (f:=av) (size:=1) (b:=lb) mm ZL ZN ZL) (.cons (Fz.sls (l:=l_) (f:=ab.enc) (size:=11) (b:=ob2_) mm ZL ZN ZL) .nil))))) rfl) (aG.rowA (A:=[(b0,_)]) (b:=bp) (R:=[]) (rows':=[[.lst (bM.map aJ.enc),.lst ((ts++[_]).map ah.enc)]]) rp ZL (cR (.cons (.refl _) (.cons (fj (b:=nb_) mm ZL ZL (.cons (.refl _) (.cons (.refl _) (.cons (Fz.sls (l:=[[97],[98]]) (f:=av) (size:=1) (b:=lb) mm ZL ZN ZL) (.cons (Fz.sls (l:=l_) (f:=ab.enc) (size:=11) (b:=ob2_) mm ZL ZN ZL) .nil))))) .nil))) rfl)
  |exact hn ⟨nm,0,[[97],[98]],[]⟩ a_ th_ le_ se_ tx_ at_ lo_ (some ob_) ar_ nb_ _ ⟨by simp only[ah.wt,ab.wts,Yb,YT,Ys,YC,Y8,Zt];omega,rfl,rfl⟩ ha_ ho_ (aG.rowA (A:=[(bm,_),(bt,_),(b0,_),(bp,_),(nmb,_)]) (b:=nb_) (R:=[(ob_,_)]) (rows':=(ts++[_]).map ah.enc) rp ZM (cZ (f:=ah.enc) (.cons (.refl _) (.cons (.refl _) (.cons (Fz.sls (l:=[[97],[98]]) (f:=av) (size:=1) (b:=lb) mm ZL ZN ZL) (.cons .nils .nil))))) rfl) (aG.rowA (A:=[(b0,_)]) (b:=bp) (R:=[]) (rows':=[[.lst (bM.map aJ.enc),.lst ((ts++[_]).map ah.enc)]]) rp ZL (cR (.cons (.refl _) (.cons (fj (b:=nb_) mm ZL ZL (.cons (.refl _) (.cons (.refl _) (.cons (Fz.sls (l:=[[97],[98]]) (f:=av) (size:=1) (b:=lb) mm ZL ZN ZL) (.cons .nils .nil))))) .nil))) rfl)
end
section
set_option maxRecDepth 100000
set_option maxHeartbeats 4000000
@[irreducible] def JJ (n23:Kn) (v:List AV) (L:SH):Prop:=cl n23 v L
theorem Tv{n23:Kn}{v:List AV}{L:SH}(h:JJ n23 v L):cl n23 v L:=by unfold JJ at h;exact h
theorem Tw{n23:Kn}{v:List AV}{L:SH}(h:cl n23 v L):JJ n23 v L:=by unfold JJ;exact h
theorem Nv(r:Nat):(rn.getD r []).length≤4:=by
 rcases r with _|_|_|_|r
 all_goals simp[rn]
theorem Vu{n23:Kn}{bm bt b0 bp nmb bh lb a n:Nat}{t:List UInt8}{th le:Int}{se tx at_ lo:Bool}{o oT:Option Nat}{ar:List bC}{ts:List ah}{nm:bC}{m:Nat}(hn4:n≤4)(h1:1≤n)
  (hj:∀(oB:Option Nat) (ps:List (List AV×ab)),(oB=none→ps=[])→ps.length≤4→gh ps→ab.wts (ps.map Prod.snd)≤100→JJ n23 [.ptr b0 0 0,.ptr bm 0 0,.ptr bp 0 0,.ZO n,.sl nmb 0 4,.ZO ((0:Nat):Int),.ptr bh 0 0] ((bh,⟨4,[[.str nm,.ZO 0,.sl lb 0 2,ao oB ps.length]]⟩)::(lb,⟨1,[[.str [97]],[.str [98]]]⟩)::(bm,dx bt th le se tx at_ lo o 0)::(bt,aR t a)::(b0,⟨2,[[.nils,.nils]]⟩)::(bp,⟨2,[[.lst (bM.map aJ.enc),ao oT m]]⟩)::(nmb,⟨1,rn.map av⟩)::(ae oB 11 (ps.map Prod.fst)++(ae oT 4 (ts.map ah.enc)++ae o 1 (ar.map av))))) :
  W.loop (iS (cl n23)) [.ptr b0 0 0,.ptr bm 0 0,.ptr bp 0 0,.ZO n,.sl nmb 0 4,.ZO ((0:Nat):Int),.ptr bh 0 0,.ZO 1] ((bh,⟨4,[[.str nm,.ZO 0,.sl lb 0 2,.nils]]⟩)::(lb,⟨1,[[.str [97]],[.str [98]]]⟩)::(bm,dx bt th le se tx at_ lo o 0)::(bt,aR t a)::(b0,⟨2,[[.nils,.nils]]⟩)::(bp,⟨2,[[.lst (bM.map aJ.enc),ao oT m]]⟩)::(nmb,⟨1,rn.map av⟩)::(ae oT 4 (ts.map ah.enc)++ae o 1 (ar.map av))):=by
 refine bW (β:=Option Nat×List (List AV×ab)) (n-1) (λj ⟨oB,ps⟩=>([.ptr b0 0 0,.ptr bm 0 0,.ptr bp 0 0,.ZO n,.sl nmb 0 4,.ZO ((0:Nat):Int),.ptr bh 0 0,.ZO ((j+1:Nat):Int)],(bh,⟨4,[[.str nm,.ZO 0,.sl lb 0 2,ao oB j]]⟩)::(lb,⟨1,[[.str [97]],[.str [98]]]⟩)::(bm,dx bt th le se tx at_ lo o 0)::(bt,aR t a)::(b0,⟨2,[[.nils,.nils]]⟩)::(bp,⟨2,[[.lst (bM.map aJ.enc),ao oT m]]⟩)::(nmb,⟨1,rn.map av⟩)::(ae oB 11 (ps.map Prod.fst)++(ae oT 4 (ts.map ah.enc)++ae o 1 (ar.map av)))))
  (λj ⟨oB,ps⟩=>(oB=none→ps=[])∧ps.length=j∧gh ps∧ab.wts (ps.map Prod.snd)≤10*j) (none,[]) ⟨λ_=>rfl,rfl,gh.mk nofun nofun,YK _⟩ ?_ ?_
 ·refine aG.row (R:=_) (K:=[]) (rows:=[[.str nm,.ZO 0,.sl lb 0 2,.nils]]) (rows':=[[.str nm,.ZO 0,.sl lb 0 2,ao none 0]]) (.refl _) ZL (λj r r' q1 q2=>?_)
  match j with
   |0=>cases q1;cases q2;exact .cons (.refl _) (.cons (.refl _) (.cons (.refl _) (.cons .nile .nil)))
   |j+1=>simp at q1
 rintro j ⟨oB,ps⟩ hjn ⟨hoB,hl,hg,hw⟩;dsimp only at hoB hl hg hw ⊢;unfold iS;generalize hnx:(λ(vs':List AV) (L':SH)=>_)=nx;subst hl;rcases Nat.lt_or_ge (ps.length+1) n with g|g
 ·have hd1:=bE g;have hi1:=aA g ZJ;unfold dx mX
  repeat' (first|refine st ?_|refine eZ (l:=rn) ?_ mm rfl (by simp[rn];omega)|refine dJ ?_ ZJ|refine cx rp rp ZM (λe=>by first|simp[hoB e]) ZL ZM (by simp;omega) (by simp;omega) ZL (λnb_ hnb_=>?_)|refine sb λnb_ hnb_=>?_|refine s2 (λh=>?_) λh=>?_|fail)
  subst hnx;have hnl:=Nv (ps.length+1);generalize rn.getD (ps.length+1) []=w at hnl ⊢;refine⟨ps.length+1,(some nb_,ps++[(G2 12 w,lZ 12 w)]),ZJ,ZJ,⟨nofun,ZM,hg.raw 12 w,?_⟩,aG.pickE (R:=(bh,_)::(lb,_)::(bm,_)::(bt,_)::(b0,_)::(bp,_)::(nmb,_)::(nb_,⟨11,ps.map Prod.fst++[G2 12 w]⟩)::(ae oT 4 (ts.map ah.enc)++ae o 1 (ar.map av))) (.one (.there _ (.there _ (.here _))) (.one (.there _ (.there _ (.here _))) (.one (.there _ (.there _ (.here _))) (.one (.there _ (.there _ (.here _))) (.one (.there _ (.there _ (.here _))) (.one (.there _ (.there _ (.here _))) (.one (.there _ (.there _ (.here _))) (.one (.here _) (.slot (.there _ (.here _)) (.slotl (.there _ .last))))))))))) rfl ?_⟩
  ·rw[Yc,jr];simp only[Yb,YT,lZ,wz,YC];omega
  ·dsimp only;rw[List.map_append];rfl
 ·have hd1:=bI g;clear hnx;unfold dx mX at *
  repeat' (first|(with_reducible refine Tv ?_)|refine st ?_|refine sb λnb_ hnb_=>?_|refine s2 (λh=>?_) λh=>?_|fail)
  exact hj oB ps hoB ZJ hg ZJ
theorem nu{b c:Nat}{L:SH}{y:Blk}(h:¬b∈SH.names L)(hm:(c,y)∈L):b≠c:=λe=>h (by subst e;exact YH.2 ⟨_,hm,rfl⟩)
theorem Ld{o:Option Nat}{b n:Nat}{rows:List (List AV)}(h:o=some b):(b,(⟨n,rows⟩:Blk))∈ae o n rows:=by subst h;exact .head _
theorem OB{Q:R}{n23:Kn}{bm bt b0 bp nmb a n i:Nat}{t:List UInt8}{th le:Int}{se tx at_ lo:Bool}{o oT:Option Nat}{ar:List bC}{ts:List ah}
  (ht:t.length<2^40) (ha:a≤t.length) (ho:o=none→ar=[]) (hoT:oT=none→ts=[]) (hts:ts.length=i) (hi:i<n) (hn4:n≤4)
  (hn:∀(x:ah) (a':Nat) (th' le':Int) (se' tx' at' lo':Bool) (o':Option Nat) (ar':List bC) (nbT:Nat) (L':SH),(ah.wt x≤40000∧x.name=rn.getD i []∧x.locals=[[97],[98]])→a'≤t.length→(o'=none→ar'=[])→aG [.ptr b0 0 0,.ptr bm 0 0,.ptr bp 0 0,.ZO n,.sl nmb 0 4,.ZO (IntKind.i64.wrap ((i:Int)+1))] L' [.ptr b0 0 0,.ptr bm 0 0,.ptr bp 0 0,.ZO n,.sl nmb 0 4,.ZO (IntKind.i64.wrap ((i:Int)+1))] (PH bm bt b0 bp nmb t a' th' le' se' tx' at' lo' o' ar' (some nbT) (ts.length+1) (ts++[x]))→aG [.ptr b0 0 0,.ptr bm 0 0,.ptr bp 0 0,.ZO n,.sl nmb 0 4,.ZO (IntKind.i64.wrap ((i:Int)+1))] L' [.ptr b0 0 0,.ptr bm 0 0,.ptr bp 0 0,.ZO n,.sl nmb 0 4,.ZO (IntKind.i64.wrap ((i:Int)+1))] (PZ b0 bp (ts++[x]))→n23 [.ptr b0 0 0,.ptr bm 0 0,.ptr bp 0 0,.ZO n,.sl nmb 0 4,.ZO (IntKind.i64.wrap ((i:Int)+1))] L') :
  fK Q [.ptr b0 0 0,.ptr bm 0 0,.ptr bp 0 0,.ZO n,.sl nmb 0 4,.ZO (i:Int)] (PH bm bt b0 bp nmb t a th le se tx at_ lo o ar oT ts.length ts) n23:=by
 have hd1:=bE hi;unfold fK PH dx mX;rcases i with _|i
 ·repeat' (first|refine st ?_|refine eZ (l:=rn) ?_ mm rfl (by simp[rn])|refine dJ ?_ ZJ|refine sb λnb_ hnb_=>?_|refine s2 (λh=>?_) λh=>?_|fail)
  have f1:nb_≠bm:=nu hnb_ (.tail _ (.head _));have f2:nb_≠bt:=nu hnb_ (.tail _ (.tail _ (.head _)));have f3:∀b,o=some b→nb_≠b:=λb e=>nu hnb_ (.tail _ (.tail _ (.tail _ (.tail _ (.tail _ (.tail _ (Yq _ (Ld e))))))))
  exact Vu hn4 ZJ λoB ps hoB hps hg hw=>Tw (Vq ht ha ho hoT hoB ZJ hps f1 f2 f3 hg ZN hw hn)
 ·have hz:decide (((i+1:Nat):Int)=0)=false:=by simp;omega
  repeat' (first|(with_reducible refine Tv ?_)|refine st ?_|refine eZ (l:=rn) ?_ mm rfl (by simp[rn];omega)|refine dJ ?_ ZJ|refine sb λnb_ hnb_=>?_|refine s2 (λh=>?_) λh=>?_|fail)
  have f1:nb_≠bm:=nu hnb_ (.tail _ (.head _));have f2:nb_≠bt:=nu hnb_ (.tail _ (.tail _ (.head _)));have f3:∀b,o=some b→nb_≠b:=λb e=>nu hnb_ (.tail _ (.tail _ (.tail _ (.tail _ (.tail _ (.tail _ (Yq _ (Ld e))))))))
  exact Tw (Vt ht ha ho hoT ZJ f1 f2 f3 (Nv (i+1)) hz hn)
theorem X2{r:Nat}(h:r<100):IntKind.i64.wrap (2+(r:Int))=((2+r:Nat):Int):=by rw[YU _ ZJ];omega
inductive OC (K:SH):SH→SH→Prop where
 |nil:OC K [] []
 |same (p:Nat×Blk) {R R2:SH}:OC K R R2→OC K (p::R) (p::R2)
 |box {b n:Nat} {r r':List AV} {R R2:SH}:iV K r r'→OC K R R2→OC K ((b,⟨n,[r]⟩)::R) ((b,⟨n,[r']⟩)::R2)
theorem aG.blks{vs vs2:List AV}{L K R R2:SH}(hL:L.Perm (K++R))(h:OC K R R2)(hv:vs=vs2):aG vs L vs2 R2:=by
 subst hv;refine⟨K,R,hL,⟨rfl,λi a a2 h1 h2=>by rw[h1]at h2;cases h2;exact .refl _⟩,?_,?_⟩
 ·clear hL
  induction h with
  |nil=>rfl
  |same p h ih=>simp[ih]
  |box h1 h ih=>simp[ih]
 ·clear hL
  induction h with
  |nil=>intro i p q h1;simp at h1
  |same p h ih=>
   intro i x y h1 h2
   match i with
   |0=>cases h1;cases h2;exact⟨rfl,rfl,rfl,λj r r2 h3 h4=>by rw[h3]at h4;cases h4;exact⟨rfl,λk a a2 h5 h6=>by rw[h5]at h6;cases h6;exact .refl _⟩⟩
   |i+1=>exact ih i x y (by simpa using h1) (by simpa using h2)
  |box hr h ih=>
   intro i x y h1 h2
   match i with
   |0=>cases h1;cases h2;exact⟨rfl,rfl,rfl,λj r r2 h3 h4=>(cR hr j r r2 h3 h4).at_⟩
   |i+1=>exact ih i x y (by simpa using h1) (by simpa using h2)
theorem OD{L R K:SH}(h:EC L R K)(hK:K=[]:=by rfl):L.Perm ([]++R):=by subst hK;exact h.perm
end
section
set_option maxRecDepth 100000
set_option maxHeartbeats 4000000
theorem Rl(t:List UInt8)(ht:t.length<2^40):af Tryz.prog 20 [.lst (t.map eX)] [] λv K=>∃p:bZ,v=.agg p.enc∧K=[]∧p.wt≤200000∧p.decls=bM:=by
 refine af.fz (DN _ _ _ ?_);unfold q8;generalize hQ:(λ(v:AV) (L:SH)=>∃v2 L2,aG [v] L [v2] L2∧∃p:bZ,v2=.agg p.enc∧L2=[]∧p.wt≤200000∧p.decls=bM)=Q;have hq:∀(p:bZ) (v:AV) (L:SH),Fz L v (.agg p.enc)→p.wt≤200000→p.decls=bM→Q v L:=λp v L h1 h2 h3=>by subst hQ;exact⟨_,_,aG.all h1,p,rfl,rfl,h2,h3⟩
 clear hQ
 repeat' (first|refine nK (ue (c:=((2+_:Nat):Int)) ?_ (X2 ZJ))|refine st ?_|(refine pf 33 ?_;refine pm (zT) ?_)|((with_reducible refine bz 34 ?_);(refine fW (t:=t) (a:=0) ht (YK _) rp (λr_ a_ hr_ ha_=>?_)))|refine sb λnb_ hnb_=>?_|refine s2 (λh=>?_) λh=>?_|fail)
 rename_i b0 hb0 bt hbt bm hbm bp hbp;refine bW (β:=Nat×Int×Int×Bool×Bool×Bool×Bool×Option Nat×List bC×Option Nat×List ah) (2+r_) (λi ⟨a,th,le,se,tx,at_,lo,o,ar,oT,ts⟩=>([.ptr b0 0 0,.ptr bm 0 0,.ptr bp 0 0,.ZO ((2+r_:Nat):Int),.sl nb_ 0 4,.ZO (i:Int)],if i=2+r_ then PZ b0 bp ts else PH bm bt b0 bp nb_ t a th le se tx at_ lo o ar oT ts.length ts))
  (λi ⟨a,th,le,se,tx,at_,lo,o,ar,oT,ts⟩=>a≤t.length∧(o=none→ar=[])∧(oT=none→ts=[])∧ts.length=i∧(∀x∈ts,ah.wt x≤40000)) (a_,0,20,false,false,false,false,none,[],none,[]) ⟨ha_,λ_=>rfl,λ_=>rfl,rfl,nofun⟩ ?_ ?_
 ·show aG _ _ _ (if 0=2+r_ then PZ b0 bp []else _);rw[if_neg ZJ];exact aG.blks (K:=[]) (R:=(bm,⟨8,[[.ptr bt 0 0,.ZO 0,.ZO 20,.bool false,.bool false,.bool false,.bool false,.nils]]⟩)::(bt,aR t a_)::(b0,⟨2,[[.nils,.nils]]⟩)::(bp,⟨2,[[.lst (bM.map aJ.enc),.nils]]⟩)::(nb_,⟨1,rn.map av⟩)::[]) (OD (.one (.there _ (.there _ (.there _ (.here _)))) (.one (.there _ (.here _)) (.one (.there _ (.there _ (.here _))) (.one (.there _ (.here _)) (.one (.here _) (.nil _))))))) (.box (.cons (.refl _) (.cons (.refl _) (.cons (.refl _) (.cons (.refl _) (.cons (.refl _) (.cons (.refl _) (.cons (.refl _) (.cons .nile .nil)))))))) (.same _ (.same _ (.box (.cons (.refl _) (.cons .nile .nil)) (.same _ .nil))))) rfl
 ·rintro i ⟨a,th,le,se,tx,at_,lo,o,ar,oT,ts⟩ hi ⟨ha,ho,hoT,hts,hw⟩;dsimp only at ha ho hoT hts hw ⊢;rcases Nat.lt_or_eq_of_le hi with g|g
  ·rw[if_neg ZJ];refine OB ht ha ho hoT hts g ZJ ?_;intro x a' th' le' se' tx' at' lo' o' ar' nbT L' ⟨q1,_,_⟩ q2 q3 q4 q5;have e:IntKind.i64.wrap ((i:Int)+1)=((i+1:Nat):Int):=aA g ZJ;rw[e]at q4 q5 ⊢;refine⟨i+1,(a',th',le',se',tx',at',lo',o',ar',some nbT,ts++[x]),ZJ,ZJ,⟨q2,q3,nofun,by simp[hts],?_⟩,?_⟩
   ·intro y hy;rcases Yg.1 hy with hy|hy
    ·exact hw y hy
    ·rw[Ye.1 hy];exact q1
   ·dsimp only;by_cases z:i+1=2+r_
    ·rw[if_pos z];exact q5
    ·rw[if_neg z,Yf];exact q4
  ·rw[if_pos g];subst g;have hd1:decide (((2+r_:Nat):Int)<((2+r_:Nat):Int))=false:=by simp
   have hpw:bZ.wt ⟨bM,ts⟩≤200000:=by
    have h1:(ts.map ah.wt).sum≤ts.length*40000:=by
     clear hts hi hoT
     induction ts with
     |nil=>simp
     |cons y l ih=>
      have:=hw y (.head _);have:=ih λz hz=>hw z (.tail _ hz)
      simp only[Yb,Y8,Ys];omega
    have h2:(bM.map aJ.wt).sum=19:=by decide
    show(bM.map aJ.wt).sum+(ts.map ah.wt).sum≤200000;rw[h2];omega
   have hc1:=HI ⟨bM,ts⟩ ZJ;unfold fK PZ
   repeat' (first|refine st ?_|(refine pf 28 ?_;refine pm (hc1) ?_)|(refine pf 33 ?_;refine pm (zT) ?_)|(refine pf 37 ?_;refine pm (IZ _) ?_)|(refine pf 36 ?_;refine pm (cG _ _) ?_)|refine sb λnb_ hnb_=>?_|refine s2 (λh=>?_) λh=>?_|fail)
   ·exact hq ⟨bM,[⟨[109,97,105,110],0,[[97],[98]],[cF [120] (IY 1)]⟩]⟩ _ _ (Fz.aggs (.cons (.refl _) (.cons (fj (ts:=[]) (b:=nb_) mm ZL ZL (.cons (.refl _) (.cons (.refl _) (.cons (Fz.sls (l:=[[97],[98]]) (f:=av) (size:=1) mm ZL ZN ZL) (.cons (Fz.sls (l:=[cF [120] (IY 1)]) (f:=ab.enc) (size:=11) mm (by simp[ab.enc_row]) ZN ZL) .nil))))) .nil))) ZN rfl
   ·exact hq ⟨bM,ts⟩ _ _ (.refl _) hpw rfl
end
section
set_option maxRecDepth 100000
set_option maxHeartbeats 4000000
section
variable {w:aO} {loc:List bC}
theorem Mr(l:List ab)(hll:l.length<2^40)(h:∀i (hi:i<l.length),nq 61 [.agg l[i].row] w loc (3*l[i].wt)):nq 30 [.lst (l.map ab.enc)] w loc (3*ab.wts l):=by
 intro bg o out site next h0 hl
 refine af.fz (xk _ _ _ _ ?_);unfold lu;generalize hQ:(λ(v:AV) (L:SH)=>∃v2 L2,aG [v] L [v2] L2∧∃(o':Option Nat) (out':List bq) (site' next':Int),_)=Q;have fin:=B8 hQ;clear hQ;refine bW l.length (λi (q:Option Nat×Int×Int×List bq)=>([.ptr bg 0 0,.lst (l.map ab.enc),.ZO i],(bg,gI w loc (ao q.1 q.2.2.2.length) q.2.1 q.2.2.1)::ae q.1 6 (q.2.2.2.map bq.enc)))
  (λi q=>(q.1=none→q.2.2.2=[])∧out.length≤q.2.2.2.length∧q.2.2.2.length≤out.length+3*ab.wts (l.take i)) (o,site,next,out) ⟨h0,X7 _,YI _ _⟩ (.refl _ _) ?_
 rintro i ⟨o1,s1,n1,out1⟩ hi ⟨q1,q2,q3⟩;dsimp only at q1 q2 q3 ⊢;unfold kB;generalize hnx:(λ(vs':List AV) (L':SH)=>∃j o',i<j∧j≤l.length∧_)=nx;rcases Nat.lt_or_ge i l.length with g1|g1
 ·have hd:=bE g1;have hi1:=aA g1 ZJ;have hx:=Hp g1;have hwi:=ab.wts_succ g1;have hwt:=ab.wts_take l (i+1);have hK:=h i g1;have hn:∀(o':Option Nat) (out':List bq) (s' n':Int),(o'=none→out'=[])→out1.length≤out'.length→out'.length≤out1.length+3*l[i].wt→nx [.ptr bg 0 0,.lst (l.map ab.enc),.ZO ((i+1:Nat):Int)] ((bg,gI w loc (ao o' out'.length) s' n')::([]++ae o' 6 (out'.map bq.enc))):=by intro o' out' s' n' h1 h2 h3;subst hnx;exact⟨i+1,(o',s',n',out'),ZJ,ZJ,⟨h1,by dsimp only;omega,by dsimp only;omega⟩,.refl _ _⟩
  clear hnx h;generalize l[i]=x at *
  repeat' (first|refine st ?_|((with_reducible refine bz 61 ?_);(refine df hK rp rp om an om (λo_ out_ s_ n_ ho_ hl_ hm_=>?_)))|refine sb λnb_ hnb_=>?_|refine s2 (λh=>?_) λh=>?_|fail)
  exact hn _ _ _ _ ho_ hl_ hm_
 ·have hd:=bI g1;have e:i=l.length:=by omega
  subst e;rw[List.take_length]at q3
  repeat' (first|refine st ?_|refine sb λnb_ hnb_=>?_|refine s2 (λh=>?_) λh=>?_|fail)
  exact fin _ _ _ _ _ _ (.one (.here _) (.slotl .last)) om an om om
theorem SN(hw:WQ w)(hlo:loc.length<2^40):∀(n:Nat) (l:List ab),ab.wts l≤n→n<2^27→nq 30 [.lst (l.map ab.enc)] w loc (3*ab.wts l):=by
 intro n
 induction n using Nat.strongRecOn with
 |_ n ih=>
 intro l hl hn;refine Mr l (by have:=ab.wts_len l;omega) λi hi=>?_
 have h1:=ab.wts_get l i hi;have h2:=(l[i]).wt_eq;exact(Vc hw hlo l[i] ZJ (ih _ ZJ l[i].body (X7 _) ZJ) (ih _ ZJ l[i].els (X7 _) ZJ)).mono ZJ
end
theorem af.fzL{P:Program}{f:FuncId}{args args2:List AV}{L L2:SH}{Q:AV→SH→Prop}(hz:aG args L args2 L2)(h:af P f args2 L2 Q):af P f args L Q:=⟨h.1,λH hb hs=>by
 obtain⟨H2,f1,f2,f3,f4⟩:=mn hz hs hb;obtain⟨v,H',L',h1,h2,h3⟩:=h.2 H2 f1.bd f1.sub;refine⟨v,H',L',λw σ vs hW hvs=>?_,f1.trans (h2.low (by rw[f2];exact X7 _)) (X7 _),h3⟩;obtain⟨g1,g2,g3⟩:=f3 w σ hW;refine(h1 w σ vs g1 (g3 vs hvs)).mono ?_;rintro e w' ⟨v',σ',rfl,k1,k2,e1,k4⟩;exact⟨v',σ',rfl,k1,k2,⟨e1.os,e1.tape,e1.output,e1.size,λc hc hT=>e1.keep c hc (λh=>hT (g2 c h)),e1.shape,e1.sig,e1.eqfr,e1.frame,λc hc=>(e1.own c hc).imp (g2 c) id⟩,λc pl hc=>by rw[←f2];exact k4 c pl hc⟩⟩
section
variable {n81:Kn} {x1 x2 x3 x4 x5 x6:AV} {bt bg k:Nat} {v:AV} {R:SH}
theorem SO(l:List Int)(hl:l.length<2^30)(hk1:IntKind.i64.wrap ((k:Int)+1)=((k+1:Nat):Int))
  (hn:∀a:Int,n81 [x1,x2,x3,x4,x5,x6,.ptr bt 0 0,.ZO ((k+1:Nat):Int)] ((bt,⟨2,[[.ZO a,v]]⟩)::R)) (a:Int) :
  W.loop (il n81) [x1,x2,x3,x4,x5,x6,.ptr bt 0 0,.ZO k,.lst (l.map aj),.ZO 0] ((bt,⟨2,[[.ZO a,v]]⟩)::R):=by
 refine bW (β:=Int) l.length (λj a=>([x1,x2,x3,x4,x5,x6,.ptr bt 0 0,.ZO k,.lst (l.map aj),.ZO j],(bt,⟨2,[[.ZO a,v]]⟩)::R)) (λ_ _=>True) a trivial (.refl _ _) λj a hj _=>?_
 dsimp only;unfold il;generalize hnx:(λ(vs':List AV) (L':SH)=>∃i o',j<i∧i≤l.length∧_)=nx;rcases Nat.lt_or_ge j l.length with g|g
 ·have hd:=bE g;have hi1:=aA g ZJ;have hx:=ay (f:=aj) g;have hgo:∀a:Int,nx [x1,x2,x3,x4,x5,x6,.ptr bt 0 0,.ZO k,.lst (l.map aj),.ZO ((j+1:Nat):Int)] ((bt,⟨2,[[.ZO a,v]]⟩)::R):=λa=>by subst hnx;exact⟨j+1,a,ZJ,ZJ,trivial,.refl _ _⟩
  clear hnx
  repeat' (first|refine st ?_|refine Me ?_|refine sb λnb_ hnb_=>?_|refine s2 (λh=>?_) λh=>?_|fail)
  exact hgo _
 ·have hd:=bI g
  repeat' (first|refine st ?_|refine sb λnb_ hnb_=>?_|refine s2 (λh=>?_) λh=>?_|fail)
  exact hn _
theorem SP{n23:Kn}{w:aO}{loc:List bC}{b:Nat}{site next:Int}{M L0:SH}(out:List bq)(a:Int)(hl:out.length<2^30)
  (hn:∀a:Int,im n23 ((bt,⟨2,[[.ZO a,v]]⟩)::(bg,gI w loc (ao (some b) out.length) site next)::(b,⟨6,out.map bq.enc⟩)::M) x3 (.ptr bt 0 0) x5 x1 x2 x4) :
  gJ L0 ((bt,⟨2,[[.ZO a,v]]⟩)::(bg,gI w loc (ao (some b) out.length) site next)::(b,⟨6,out.map bq.enc⟩)::M)→W.loop (io n23) [x1,x2,x3,x4,x5,.ptr bg 0 0,.ptr bt 0 0,.ZO 0] L0:=by
 intro hp;refine bW (β:=Int) out.length (λj a=>([x1,x2,x3,x4,x5,.ptr bg 0 0,.ptr bt 0 0,.ZO j],(bt,⟨2,[[.ZO a,v]]⟩)::(bg,gI w loc (ao (some b) out.length) site next)::(b,⟨6,out.map bq.enc⟩)::M)) (λ_ _=>True) a trivial (aG.pick hp rfl) ?_;intro j a hj0 _;dsimp only;unfold io;generalize hnx:(λ(vs':List AV) (L':SH)=>∃k o',j<k∧k≤out.length∧_)=nx;rcases Nat.lt_or_ge j out.length with h|h
 ·have hd:=bE h;have hi:=aA h ZJ;have hj:=ay (f:=bq.enc) h;have hlen:(cf out[j]).length<2^30:=by
   generalize out[j]=i;unfold cf
   repeat' split
   all_goals simp
  have hrun:=SO (n81:=nx) (x1:=x1) (x2:=x2) (x3:=x3) (x4:=x4) (x5:=x5) (x6:=.ptr bg 0 0) (bt:=bt) (v:=v) (R:=(bg,gI w loc (ao (some b) out.length) site next)::(b,⟨6,out.map bq.enc⟩)::M) (cf out[j]) hlen hi (λa=>by
   subst hnx;exact⟨j+1,a,ZJ,ZJ,trivial,.refl _ _⟩) a
  clear hnx
  repeat' (first|exact hrun|refine st ?_|(refine pf 32 ?_;refine pm (SM out[j]) ?_)|refine sb λnb_ hnb_=>?_|refine s2 (λh=>?_) λh=>?_|fail)
 ·have hd:=bI h;clear hnx
  repeat' (first|exact hn _|refine st ?_|refine sb λnb_ hnb_=>?_|refine s2 (λh=>?_) λh=>?_|fail)
end
def Xz(b19:Nat)(w:aO)(v:AV):Nat×Blk:=(b19,⟨7,[[.lst (w.cells.map bA.enc),.lst (w.locks.map cq.enc),.lst (w.conds.map db.enc),.lst (w.futures.map av),.lst (w.threads.map av),.lst (w.sites.map cQ.enc),v]]⟩)
def Tx(b2 b19:Nat)(w:aO)(oT:Option Nat)(ts:List hY):SH:=Xz b19 w (ao oT ts.length)::(b2,⟨7,[[.nils,.nils,.nils,.nils,.nils,.nils,.nils]]⟩)::ae oT 2 (ts.map hY.enc)
section
variable {n23:Kn} {b2 b19 i:Nat} {n:Int} {w:aO} {oT:Option Nat} {ts:List hY} {dl:List (List AV)} {th:List ah} {kb:Nat}
theorem SQ(hi:i<th.length)(hi1:IntKind.i64.wrap ((i:Int)+1)=((i+1:Nat):Int))(hT:oT=none→ts=[])(hts:ts.length<2^20)(hK:nq 30 [.lst (th[i].body.map ab.enc)] w th[i].locals kb)(hkb:kb<2^28)
  (hn:∀(nb:Nat) (L':SH) (n2:Int) (tc:hY),tc.ins.length<2^30→aG [.pptr [[.lst dl,.lst (th.map ah.enc)]] 0 0,.ptr b2 0 0,.ptr b19 0 0,.ZO n2,.ZO ((i+1:Nat):Int)] L' [.pptr [[.lst dl,.lst (th.map ah.enc)]] 0 0,.ptr b2 0 0,.ptr b19 0 0,.ZO n2,.ZO ((i+1:Nat):Int)] (Tx b2 b19 w (some nb) (ts++[tc]))→n23 [.pptr [[.lst dl,.lst (th.map ah.enc)]] 0 0,.ptr b2 0 0,.ptr b19 0 0,.ZO n2,.ZO ((i+1:Nat):Int)] L') :
  ip n23 (Tx b2 b19 w oT ts) (.ptr b19 0 0) (.pptr [[.lst dl,.lst (th.map ah.enc)]] 0 0) (.ZO i) (.ZO n) (.ptr b2 0 0):=by
 have hx:=ay (f:=ah.enc) hi;have hT0:oT=none→ts.map hY.enc=[]:=λe=>by rw[hT e];rfl
 have h00:([]:List bq).length=0:=rfl;unfold ip Tx Xz
 repeat' (first|refine st ?_|((with_reducible refine bz 30 ?_);(refine⟨af.fzL (aG.row (K:=[]) (rows':=(gI w th[i].locals (ao none 0) 0 n).rows) (.refl _) rfl (cR (.cons (.refl _) (.cons (.refl _) (.cons (.refl _) (.cons (.refl _) (.cons (.refl _) (.cons (.refl _) (.cons (.refl _) (.cons .nile (.cons (.refl _) (.cons (.refl _) .nil)))))))))))) (df (o:=none) (out:=[]) (m:=0) (site:=0) (next:=n) hK rp (.here _) rfl (λ_=>rfl) om (λo_ out_ s_ n_ ho_ hl_ hm_=>?_)).1⟩;dsimp only[List.nil_append,List.cons_append]))|((with_reducible refine bz 31 ?_);(refine dH (site:=-1) rp rp om an om (λb_ out_ hl_=>?_);simp only[List.cons_append,List.append_assoc,List.nil_append,List.append_nil]))|refine sb λnb_ hnb_=>?_|refine s2 (λh=>?_) λh=>?_|fail)
 refine SP (out:=out_) (b:=b_) (w:=w) (loc:=th[i].locals) (site:=-1) (next:=n_) (M:=(b19,⟨7,[[.lst (w.cells.map bA.enc),.lst (w.locks.map cq.enc),.lst (w.conds.map db.enc),.lst (w.futures.map av),.lst (w.threads.map av),.lst (w.sites.map cQ.enc),ao oT ts.length]]⟩)::(b2,⟨7,[[.nils,.nils,.nils,.nils,.nils,.nils,.nils]]⟩)::ae oT 2 (ts.map hY.enc)) th[i].locals.length ZJ (λa=>?_) (.one (.here _) (.one (.here _) (gJ.slot (o:=some b_) (n:=6) (.there _ (.there _ (.skip _ _ _ .last))) (.one (.here _) (.one (.here _) (.slotl rp))))));unfold im
 repeat' (first|refine st ?_|refine cx rp rp ZM (λe=>by first|simp[hT0 e]) ZL ZM (by simp;omega) (by simp;omega) ZL (λnb_ hnb_=>?_)|refine sb λnb_ hnb_=>?_|refine s2 (λh=>?_) λh=>?_|fail)
 have e:Tx b2 b19 w (some nb_) (ts++[hY.mk a out_])=[Xz b19 w (.sl nb_ 0 (ts.length+1)),(b2,⟨7,[[.nils,.nils,.nils,.nils,.nils,.nils,.nils]]⟩)]++(nb_,⟨2,(ts++[hY.mk a out_]).map hY.enc⟩)::[]:=by unfold Tx;rw[Yf];rfl
 refine hn nb_ _ _ (.mk a out_) (by show out_.length<_;omega) ?_;rw[e];refine aG.rowA (rows:=ts.map hY.enc++[[.ZO a,.sl b_ 0 out_.length]]) (.one (.there _ (.there _ (.there _ (.there _ (.there _ (.here _)))))) (.one (.there _ (.there _ (.there _ (.there _ (.there _ (.here _)))))) (.one (.here _) (.nil _)))) ZM (cZ (f:=hY.enc) (x:=.mk a out_) (.cons (.refl _) (.cons (Fz.sls (l:=out_) (f:=bq.enc) (size:=6) mm rfl ZN rfl) .nil))) rfl
end
end
section
set_option maxRecDepth 100000
set_option maxHeartbeats 4000000
theorem Xq(ts:List ah):∀(w:aO),(ts.foldl dE w).cells=w.cells∧(ts.foldl dE w).locks=w.locks∧(ts.foldl dE w).conds=w.conds∧(ts.foldl dE w).futures=w.futures∧(ts.foldl dE w).threads=w.threads++ts.map ah.name:=by
 induction ts with
 |nil=>intro w;simp
 |cons t l ih=>intro w;rw[Zq];obtain⟨a,b,c,d,e⟩:=ih (dE w t);exact⟨a,b,c,d,by rw[e];simp[dE]⟩
theorem Xr{p:bZ}(hd:p.decls=bM)(hl:p.threads.length≤200000):WQ (lY p):=by
 obtain⟨a,b,c,d,e⟩:=Xq p.threads (p.decls.foldl cb aO.zero);unfold lY;have hw0:p.decls.foldl cb aO.zero=bM.foldl cb aO.zero:=by rw[hd]
 have z:(bM.foldl cb aO.zero).cells.length=5∧(bM.foldl cb aO.zero).locks.length=3∧(bM.foldl cb aO.zero).conds.length=1∧(bM.foldl cb aO.zero).futures.length=1∧(bM.foldl cb aO.zero).threads.length=0∧yu (bM.foldl cb aO.zero).cells [113]=3:=by decide
 rw[hw0]at a b c d e ⊢;obtain⟨z1,z2,z3,z4,z5,z6⟩:=z;refine⟨by rw[a,z1];decide,by rw[b,z2];decide,by rw[c,z3];decide,by rw[d,z4];decide,by rw[e];simp[z5];omega,3,by rw[a,z1];decide,by rw[a,z6];rfl⟩
theorem Ms:∀d∈bM,(1≤d.kind∧d.kind≤6)∧d.size≤4:=by decide
theorem bB.pure(c:bB):bv (.agg c.enc):=.aggs (eG (.lmap λx _=>by unfold bA.enc;exact pv) (eG (.lmap λx _=>by unfold cq.enc;exact pv) (eG (.lmap λx _=>by unfold db.enc;exact pv) (eG (.lmap λx _=>mN x) (eG (.lmap λx _=>mN x) (eG (.lmap λx _=>by unfold cQ.enc;exact pv) (eG (.lmap λx _=>by unfold hY.enc;exact eG (.int _ _) (eG (.lmap λx _=>by unfold bq.enc;exact pv) FN)) FN)))))))
theorem Le(p:bZ){e ln:Int}(hd:p.decls=bM)(hck:az Tryz.prog 28 [.agg p.enc] (.tup [.ZO e,.ZO ln]))(hw:p.wt≤200000):
  ∃(c:bB) (a b:Int),((∀x∈c.ts,x.ins.length<2^40)∧c.w.locks.length<2^40∧c.ts.length<2^40)∧az Tryz.prog 19 [.agg p.enc] (.tup [.agg c.enc,.ZO a,.ZO b]):=by
 have htl:=p.threads_len
 suffices h:af Tryz.prog 19 [.agg p.enc] [] λv K=>∃(c:bB) (a b:Int),v=.tup [.agg c.enc,.ZO a,.ZO b]∧(∀x∈c.ts,x.ins.length<2^40)∧c.w.locks.length<2^40∧c.ts.length<2^40 by obtain⟨v,K,⟨c,a,b,rfl,hc⟩,hp⟩:=h.pure pv (by rintro _ _ ⟨c,a,b,rfl,_⟩;exact .tups (eG (bB.pure c) (eG (.int _ _) (eG (.int _ _) FN))));exact⟨c,a,b,hc,hp⟩
 refine af.fz (B7 _ _ _ ?_);unfold pn bZ.enc;generalize hQ:(λ(v:AV) (L:SH)=>∃v2 L2,aG [v] L [v2] L2∧∃(c:bB) (a b:Int),_)=Q;have hq:∀(c:bB) (v:AV) (a b:Int) (L:SH),Fz L v (.agg c.enc)→(∀x∈c.ts,x.ins.length<2^40)∧c.w.locks.length<2^40∧c.ts.length<2^40→Q (.tup [v,.ZO a,.ZO b]) L:=λc v a b L h h2=>by subst hQ;exact⟨_,[],aG.all (.tups (.cons h (.cons (.refl _) (.cons (.refl _) .nil)))),c,a,b,rfl,h2⟩
 clear hQ;by_cases he:e=0
 case neg=>
  have d0:decide (e≠0)=true:=decide_eq_true he
  repeat' (first|refine st ?_|(refine pf 28 ?_;refine pm (hck) ?_)|refine sb λnb_ hnb_=>?_|refine s2 (λh=>?_) λh=>?_|fail)
  exact hq ⟨⟨[],[],[],[],[],[]⟩,[]⟩ _ _ _ _ (Fz.aggs (.cons .nils (.cons .nils (.cons .nils (.cons .nils (.cons .nils (.cons .nils (.cons .nils .nil)))))))) ⟨λx hx=>(YF hx).elim,ZN,ZN⟩
 subst he;have hW:=OA p (by rw[hd];exact Ms) hck hw;have hQ2:=Xr hd ZJ
 repeat' (first|refine st ?_|(refine pf 28 ?_;refine pm (hck) ?_)|(refine pf 29 ?_;refine pm (hW) ?_)|refine sb λnb_ hnb_=>?_|refine s2 (λh=>?_) λh=>?_|fail)
 rename_i b0 hb0 b2 hb2;refine bW (β:=Option Nat×List hY×Int) p.threads.length (λi q=>([.pptr [[.lst (p.decls.map aJ.enc),.lst (p.threads.map ah.enc)]] 0 0,.ptr b2 0 0,.ptr nb_ 0 0,.ZO q.2.2,.ZO i],Tx b2 nb_ (lY p) q.1 q.2.1)) (λi q=>(q.1=none→q.2.1=[])∧q.2.1.length=i∧∀x∈q.2.1,x.ins.length<2^40) (none,[],0) ⟨λ_=>rfl,rfl,nofun⟩ ?_ ?_
 ·dsimp only;refine aG.row (K:=[]) (b:=nb_) (n:=7) (rows:=[bK [.nils,.nils,.nils,.nils,.nils,.nils,.nils] 0 (lY p).enc]) (rows':=[[.lst ((lY p).cells.map bA.enc),.lst ((lY p).locks.map cq.enc),.lst ((lY p).conds.map db.enc),.lst ((lY p).futures.map av),.lst ((lY p).threads.map av),.lst ((lY p).sites.map cQ.enc),.emp]]) (.refl _) rfl ?_;refine cR ?_;show iV [] [.lst ((lY p).cells.map bA.enc),.lst ((lY p).locks.map cq.enc),.lst ((lY p).conds.map db.enc),.lst ((lY p).futures.map av),.lst ((lY p).threads.map av),.lst ((lY p).sites.map cQ.enc),.nils] _;exact .cons (.refl _) (.cons (.refl _) (.cons (.refl _) (.cons (.refl _) (.cons (.refl _) (.cons (.refl _) (.cons .nile .nil))))))
 rintro i ⟨oT,ts,nx⟩ hi ⟨hG,hts,hin⟩;dsimp only at hG hts hin ⊢;unfold np;generalize hnx:(λ(vs':List AV) (L':SH)=>∃j o',i<j∧j≤p.threads.length∧_)=nxt;rcases Nat.lt_or_ge i p.threads.length with g1|g1
 ·have hd1:=bE g1;have hi1:=aA g1 ZJ;have hwt:=p.thread_wt g1;have hwe:(p.threads[i]).wt=1+(p.threads[i]).name.length+(p.threads[i]).locals.length+((p.threads[i]).locals.map List.length).sum+ab.wts (p.threads[i]).body:=rfl;have hK:=SN (loc:=p.threads[i].locals) hQ2 ZJ _ p.threads[i].body (X7 _) ZJ;have hr:=SQ (n23:=nxt) (b2:=b2) (b19:=nb_) (n:=nx) (dl:=p.decls.map aJ.enc) (oT:=oT) (ts:=ts) g1 hi1 hG ZJ hK ZJ (λnb L' n2 tc h1 hz=>by
   subst hnx;refine⟨i+1,(some nb,ts++[tc],n2),ZJ,ZJ,⟨nofun,by simp[hts],λx hx=>?_⟩,hz⟩;rcases Yg.1 hx with hx|hx
   ·exact hin x hx
   ·rw[Ye.1 hx];omega)
  clear hnx;generalize hL:Tx b2 nb_ (lY p) oT ts=LW at *
  repeat' (first|exact hr|refine st ?_|refine sb λnb_ hnb_=>?_|refine s2 (λh=>?_) λh=>?_|fail)
 ·have hd1:=bI g1;unfold Tx Xz
  repeat' (first|refine st ?_|refine sb λnb_ hnb_=>?_|refine s2 (λh=>?_) λh=>?_|fail)
  refine au (.there _ (.here _)) rfl rfl (by simp[Ca];exact⟨rfl,rfl,rfl,rfl,rfl,rfl⟩) rfl ?_
  repeat' (first|refine st ?_|refine sb λnb_ hnb_=>?_|refine s2 (λh=>?_) λh=>?_|fail)
  exact hq ⟨lY p,ts⟩ _ _ _ _ (Fz.aggs (.cons (.refl _) (.cons (.refl _) (.cons (.refl _) (.cons (.refl _) (.cons (.refl _) (.cons (.refl _) (.cons (Gw hG ZN λq h=>.tail _ (.tail _ h)) .nil)))))))) ⟨hin,hQ2.l,by show ts.length<_;omega⟩
theorem Mt(s:UInt8):∀a∈eX s,bv a:=λa h=>by rw[Ye.1 h];exact .int _ _
theorem OE(t:List UInt8)(ht:t.length<2^40):∃c:bB,az Tryz.prog 7 [.lst (t.map eX)] (.agg c.enc)∧(∀x∈c.ts,x.ins.length<2^40)∧c.w.locks.length<2^40∧c.ts.length<2^40:=by
 obtain⟨v,K,⟨p,rfl,rfl,hw,hd⟩,hprog⟩:=(Rl t ht).pure (eG (.lmap λx _=>Mt x) FN) (λu K ⟨p,h1,_⟩=>by rw[h1];exact p.pure);obtain⟨c,a,b,hc,hP⟩:=Le p hd (HI p ZJ) hw;refine⟨c,?_,hc⟩;refine af.fz (IX _ _ _ ?_);unfold Cw;generalize hQ:(λ(v:AV) (L:SH)=>∃v2 L2,aG [v] L [v2] L2∧v2=AV.agg c.enc∧L2=[])=Q;have hq:∀L,Q (.agg c.enc) L:=λL=>by subst hQ;exact⟨_,[],aG.all (.refl _),rfl,rfl⟩
 clear hQ
 repeat' (first|refine st ?_|(refine pf 20 ?_;refine pm (hprog) ?_)|(refine pf 19 ?_;refine pm (hP) ?_)|refine sb λnb_ hnb_=>?_|refine s2 (λh=>?_) λh=>?_|fail)
 exact hq _
end
theorem OF(t s o:List UInt8):az Tryz.prog 5 [.lst (t.map eX),.lst (s.map eX),.lst (o.map eX)] (.bool true):=Ox t s o λh=>(OE t h).imp λc h=>⟨h.1,h.2.1,h.2.2.2⟩
section
open Go.ChangeShapes Go.WideShapes Go.ChangeAt Go.RowKit
def OG:bD:=⟨λ_=>none,λ_=>False⟩
def OH:Nat→Prop:=λ_=>False
def XA{α:Type}(e:α→List AV)(G:α→Prop):Rel α:=λw _ x cs=>G x∧eH w OG OH (e x) cs
theorem Lf{w:World}{σ:bD}{T:Nat→Prop}{a:AV}{v:Value}(h:bb w σ T a v):eH w σ T [a] [v]:=⟨rfl,λi x u h1 h2=>by
 match i with
 |0=>cases h1;cases h2;exact h
 |i+1=>simp at h1⟩
theorem Cb{w:World}{σ:bD}{T:Nat→Prop}{a:AV}{v:Value}{l:List AV}{m:List Value}(h:eH w σ T [a] [v])(hl:eH w σ T l m):eH w σ T (a::l) (v::m):=⟨by simp[hl.1],λi x u h1 h2=>by
 match i with
 |0=>exact h.2 0 x u h1 h2
 |i+1=>exact hl.2 i x u (by simpa using h1) (by simpa using h2)⟩
theorem Rm{w:World}{σ:bD}{T:Nat→Prop}:eH w σ T [] []:=⟨rfl,λi x u h1 h2=>by simp at h1⟩
section
variable {H:Type} {enc:TypeId×Value→H} {P:Program} {w:World} {base:Nat} {spare:Nat→Bool} {held:Bool}
theorem Vv{t:TypeId}{k:IntKind}(ht:P.underlying t=some (.int k)):Opens H enc P w base spare held t (XA (λn:Int=>[.int k n]) λn=>(Lit.int k n).wf=true):=λfuel cs x h=>by obtain⟨n,rfl,hn⟩:=opens_int ht fuel cs x h;exact⟨n,hn,Lf (.int k n)⟩
theorem Rn{α:Type}{t e:TypeId}{size:Nat}{f:α→List AV}{G:α→Prop}(ht:P.underlying t=some (.slice e))(hc:P.cellsOf e=size)(hs:0<size)(he:Opens H enc P w base spare held e (XA f G)):
  Opens H enc P w base spare held t (XA (λl:List α=>[.lst (l.map f)]) λl=>l.length≤maxLen∧∀x∈l,G x):=λfuel cs x h=>by
 obtain⟨l,A,c,rfl,h1,h2,h3⟩:=opens_slice ht hc hs he fuel cs x h;refine⟨l,⟨ZJ,λx hx=>?_⟩,Lf ?_⟩
 ·obtain⟨i,hi,rfl⟩:=Zc hx;obtain⟨b,o,_,_,hall⟩:=h3 ZJ;obtain⟨cs',_,hR,_⟩:=hall i l[i] (X6 hi);exact hR.1
 ·rcases Y0 l.length with h0|h0
  ·have:l=[]:=Y5.1 h0;subst this;exact .lst0 A c h2
  ·obtain⟨b,o,rfl,hb,hall⟩:=h3 h0;have:=bb.lst (w:=w) (σ:=OG) (T:=OH) (l.map f) b o size c ⟨λh=>h,λi r hr=>?_,λi j hi hj=>?_,hs,by simpa using h0⟩ (by simpa using h1) h2 (λi r j a u hr ha hu=>?_)
   ·simpa using this
   ·rw[Ym]at hr;cases hx:l[i]? with
    |none=>rw[hx]at hr;cases hr
    |some y=>rw[hx]at hr;cases hr;obtain⟨cs',k1,k2,_⟩:=hall i y hx;rw[k2.2.1,k1]
   ·have hi':i<l.length:=by simpa using hi
    obtain⟨cs',k1,k2,k3⟩:=hall i l[i] (X6 hi');exact⟨cs'[j],k3 j _ (X6 ZJ)⟩
   ·rw[Ym]at hr;cases hx:l[i]? with
    |none=>rw[hx]at hr;cases hr
    |some y=>
     rw[hx]at hr;cases hr;obtain⟨cs',k1,k2,k3⟩:=hall i y hx;have hj:j<cs'.length:=by rw[←k2.2.1];exact aB ha
     have hu':=k3 j _ (X6 hj);rw[hu]at hu';cases hu';exact k2.2.2 j a _ ha (X6 hj)
end
theorem OI{P:Program}{f:FuncId}{args:List AV}{vs:List Value}(h:az P f args (.bool true))(w:World)(hv:eH w OG OH args vs)(hG:iG w OH:=by exact λg r h=>by cases h):Calls P f vs.toArray w λe w'=>e=.returned (.bool true)∧Below w.heap.size w w':=by
 obtain⟨v,H',L',h1,h2,rfl,rfl⟩:=h.2 ac.empty (λb _=>cX b) ⟨Zd,λp hp=>by simp at hp⟩;have hown:aK OG ac.empty=OH:=by
  funext c;apply propext;constructor
  ·rintro(h|⟨b,x,pl,h4,_,_⟩)
   ·exact h
   ·rw[cX]at h4;cases h4
  ·exact λh=>h.elim
 have hW:bu w OG ac.empty:=⟨λb pl hb=>(by cases hb),λb pl hb=>(by cases hb),λb x hb=>(by rw[cX]at hb;cases hb),λc hc=>hc.elim,λb b' x x' pl pl' hb=>(by rw[cX]at hb;cases hb),by rw[hown];exact hG⟩;refine(h1 w OG vs hW (by rw[hown];exact hv)).mono ?_;rintro e w' ⟨v',σ',rfl,k1,k2,k3,_⟩;cases k1;rw[hown]at k3;exact⟨rfl,k3.os,k3.tape,k3.output,k3.size,λk hk=>k3.keep k hk λh=>h⟩
end
section
open Go.ChangeShapes Go.WideShapes Go.ChangeAt Go.RowKit
def Xs(n:Int):List AV:=[.int .u8 n]
def X4(l:List Int):List UInt8:=l.map λx=>UInt8.ofNat x.toNat
theorem Ro{x:Int}(h:(Lit.int .u8 x).wf=true):0≤x∧x<256:=by
 simp only[Lit.wf,Yl,decide_eq_true_eq]at h;have h1:IntKind.u8.min=0:=by decide
 have h2:IntKind.u8.max=255:=by decide
 omega
theorem Jc{l:List Int}(h:∀x∈l,0≤x∧x<256):(X4 l).map eX=l.map Xs:=by
 unfold X4;rw[List.map_map];refine List.map_congr_left λx hx=>?_
 have:=h x hx;show [AV.int .u8 (((UInt8.ofNat x.toNat).toNat:Nat):Int)]=[AV.int .u8 x];rw[UInt8.toNat_ofNat_of_lt' (by show x.toNat<256;omega),Int.toNat_of_nonneg this.1]
section
variable {H:Type} {enc:TypeId×Value→H} {w:World} {base:Nat} {spare:Nat→Bool} {held:Bool}
theorem Mu:Opens H enc Tryz.prog w base spare held 22 (XA (λl:List Int=>[.lst (l.map Xs)]) λl=>l.length≤maxLen∧∀x∈l,(Lit.int .u8 x).wf=true):=
 Rn (size:=1) Tryz.underlying22 (by kernel_rfl) ZN (Vv (by kernel_rfl))
end
end
section
open Go.ChangeShapes Go.WideShapes Go.ChangeAt Go.RowKit
set_option maxRecDepth 100000
theorem Rp{H:Type}{enc:TypeId×Value→H}{P:Program}{w:World}{base:Nat}{spare:Nat→Bool}{held:Bool}{fuel:Nat}{t e:TypeId}{n:Nat}{cs:List Value}{ds:List (DataW H)}{q:List MemPlace}(ht:P.underlying t=some (.array n e))(hc:P.cellsOf e=1)(hn:P.cellsOf t=n)(h:DataW.trod enc P w base spare held fuel t cs=some (.agg ds,q)){i:Nat}{d:DataW H}(hd:ds[i]? =some d):
  ∃m c y,cs[i]? =some c∧DataW.trod enc P w base spare held m e [c]=some (d,y):=by
 obtain⟨xs,m,_,hx,hl,hxn,hel⟩:=DataW.trod_array ht h;simp only[Prod.mk.injEq,DataW.agg.injEq]at hx;rw[hx.1,Ym]at hd;cases hxi:xs[i]? with
 |none=>rw[hxi]at hd;cases hd
 |some x=>
  rw[hxi]at hd;cases hd;have hi:i<n:=by rw[←hxn];exact(YR.1 hxi).1
  have hi2:i<cs.length:=by omega
  have h2:=hel i hi;rw[hc,Nat.mul_one,hxi,Zg hi2,List.take_succ_cons,List.take_zero]at h2;exact⟨m,cs[i],x.2,X6 hi2,h2⟩
theorem SR{P:Program}{w:World}{fuel:Nat}{t e:TypeId}{n:Nat}{cs:Array Value}{l:List Int}{q:List MemPlace}{g:Nat}{nm:String}(hg:P.globalNamed nm=some g)(hv:w.var? P nm=some cs)(ht:P.underlying t=some (.array n e))(hc:P.cellsOf e=1)(hn:P.cellsOf t=n)(he:P.underlying e=some (.int .i64))(h:DataW.trod (λ_=>()) P w 0 (λ_=>true) false fuel t cs.toList=some (.agg (l.map λn=>.lit (.int .i64 n)),q))(j:Nat)(a:AV)(ha:(l.map λn=>AV.int .i64 n)[j]? =some a):∃u,w.cell? ⟨g,j,none⟩=some u∧Jh u=some a:=by
 rw[Ym]at ha;cases hj:l[j]? with
 |none=>rw[hj]at ha;cases ha
 |some v=>
  rw[hj]at ha;cases ha;obtain⟨m,c,y,hcj,htr⟩:=Rp ht hc hn h (i:=j) (d:=.lit (.int .i64 v)) (by rw[Ym,hj];rfl);obtain⟨k,e1,e2,_⟩:=DataW.trod_int he htr;simp only[List.cons.injEq,and_true]at e1;simp only[Prod.mk.injEq,DataW.lit.injEq,Lit.int.injEq,true_and]at e2;refine⟨c,?_,?_⟩
  ·rw[World.var?_cell hg hv j,←Yy,hcj]
  ·rw[e1,←e2.1];rfl
theorem SS{P:Program}{w:World}{fuel:Nat}{t e:TypeId}{n:Nat}{cs:Array Value}{l:List (List UInt8)}{q:List MemPlace}{g:Nat}{nm:String}(hg:P.globalNamed nm=some g)(hv:w.var? P nm=some cs)(ht:P.underlying t=some (.array n e))(hc:P.cellsOf e=1)(hn:P.cellsOf t=n)(he:P.underlying e=some .string)(h:DataW.trod (λ_=>()) P w 0 (λ_=>true) false fuel t cs.toList=some (.agg (l.map λn=>.lit (.string n)),q))(j:Nat)(a:AV)(ha:(l.map AV.str)[j]? =some a):∃u,w.cell? ⟨g,j,none⟩=some u∧Jh u=some a:=by
 rw[Ym]at ha;cases hj:l[j]? with
 |none=>rw[hj]at ha;cases ha
 |some v=>
  rw[hj]at ha;cases ha;obtain⟨m,c,y,hcj,htr⟩:=Rp ht hc hn h (i:=j) (d:=.lit (.string v)) (by rw[Ym,hj];rfl);obtain⟨k,e1,e2,_⟩:=DataW.trod_string he htr;simp only[List.cons.injEq,and_true]at e1;simp only[Prod.mk.injEq,DataW.lit.injEq,Lit.string.injEq]at e2;refine⟨c,?_,?_⟩
  ·rw[World.var?_cell hg hv j,←Yy,hcj]
  ·rw[e1,e2.1];rfl
theorem Xt:(Tryz.prog.globals[1]?).map (·.type)=some 238:=by kernel_rfl
theorem Vw:(Tryz.prog.globals[0]?).map (·.type)=some 149:=by kernel_rfl
theorem Xu : Tryz.prog.globalNamed "interleave/token.keywords" = some 1 := by kernel_rfl
theorem Vx : Tryz.prog.globalNamed "interleave/run.kinds" = some 0 := by kernel_rfl
theorem ST {W : World} (h : laidMetH Tryz.prog [("interleave/token.keywords", Rows.laid_interleave_token_keywords), ("interleave/run.kinds", Rows.laid_interleave_run_kinds)] W) : iG W OH := by
 rw[MakeChecks.laidMetH_plain _ _ _ (by kernel_rfl)]at h;obtain⟨ps,⟨g0,t0,cs0,f0,p0,q0,hg0,ht0,hv0,hd0,⟨g1,t1,cs1,f1,p1,q1,hg1,ht1,hv1,hd1,_,_⟩,_⟩,_,_⟩:=h;obtain rfl:=ZE (Xu.symm.trans hg0);obtain rfl:=ZE (Vx.symm.trans hg1);obtain rfl:=ZE (Xt.symm.trans ht0);obtain rfl:=ZE (Vw.symm.trans ht1);intro g r hg;unfold Xw at hg;split at hg
 ·rename_i e;subst e;cases hg;exact⟨λh=>h,ZN,SR hg1 hv1 Tryz.underlying149 (by kernel_rfl) (by kernel_rfl) Tryz.underlying3 hd1⟩
 ·split at hg
  ·rename_i e;subst e;cases hg;exact⟨λh=>h,ZN,SS hg0 hv0 Tryz.underlying238 (by kernel_rfl) (by kernel_rfl) Tryz.underlying9 hd0⟩
  ·cases hg
end
end Go.Proofs.YtdnpdghlggbklaaGreatDoor.Am
