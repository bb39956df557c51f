/- part -/
import Derived.Test.YtfcfhjadaknphaaGreatDoorQxr
import Derived.Test.YtfcfhjadaknphaaGreatDoorQxv
set_option linter.all false
set_option maxRecDepth 100000
set_option maxHeartbeats 0
namespace Go.Proofs.YtfcfhjadaknphaaGreatDoor.Am
def yo:aY:=⟨bD,[⟨[109,97,105,110],0,[[97],[98]],[cP [120] (xu 1)]⟩]⟩
def Mf:xI yo:=Me (n:=2000) (by simp only[Xk,Xv,false_implies,implies_true,and_true];exact yo.pure) (by kernel_rfl)
def JG:vR bD:=by
 intro i h;have j:i<9:=h;rcases i with _|_|_|_|_|_|_|_|_|i
 .exact(⟨YG,YG,YG,YG,YG,YG,λe=>absurd e YG⟩:jH bD 0 YG)
 .exact(⟨YG,YG,YG,YG,YG,YG,λe=>absurd e YG⟩:jH bD 1 YG)
 .exact(⟨YG,YG,YG,YG,YG,YG,λe=>absurd e YG⟩:jH bD 2 YG)
 .exact(⟨YG,YG,YG,YG,YG,YG,λe=>absurd e YG⟩:jH bD 3 YG)
 .exact(⟨YG,YG,YG,YG,YG,YG,λe=>absurd e YG⟩:jH bD 4 YG)
 .exact(⟨YG,YG,YG,YG,YG,YG,λe=>absurd e YG⟩:jH bD 5 YG)
 .exact(⟨YG,YG,YG,YG,YG,YG,λe=>absurd e YG⟩:jH bD 6 YG)
 .exact(⟨YG,YG,YG,YG,YG,YG,λe=>⟨_,rfl,rfl⟩⟩:jH bD 7 YG)
 .exact(⟨YG,YG,YG,YG,YG,YG,λe=>absurd e YG⟩:jH bD 8 YG)
 .exfalso;omega
def QF:i5 yo:=by
 refine⟨YG,JG,YG,⟨?_,?_⟩,YG,?_⟩
 .intro i h;have B:i<1:=h;rcases i with _|i
  .exact(⟨YG,YG⟩:qE yo 0 YG)
  .exfalso;omega
 .intro i h;have B:i<1:=h;rcases i with _|i
  .have u:vS yo ⟨[109,97,105,110],0,[[97],[98]],[cP [120] (xu 1)]⟩:=by
    refine⟨YG,YG,YG,?_⟩;intro j E;have G:j<2:=E;rcases j with _|_|j
    .show jx [] [97]<0;decide
    .show jx [[97]] [98]<0;decide
    .exfalso;omega
   exact u
  .exfalso;omega
 .intro i h;have B:i<1:=h;rcases i with _|i
  .show StsOk yo [[97],[98]] [cP [120] (xu 1)];refine(nw _).2 λx D=>?_
   rw[WP.1 D,KJ];refine⟨?_,?_,?_⟩
   .show gj (aV yo [[97],[98]] [120]) 8 1=0/\kS yo [[97],[98]] (xu 1)=0;decide
   .exact(nw _).2 nofun
   .exact(nw _).2 nofun
  .exfalso;omega
def B7(p:aY):Prop:=(∃k:Nat,1<=k/\k<=4/\p.threads.map aj.name=mb.take k)/\∀x∈p.threads,x.locals=[[97],[98]]
def QG(t:List UInt8)(ht:t.length<2^63):ac Tryz.prog 7 [.lst (t.map eJ)] [] λv K=>∃p:aY,v=.agg p.enc/\K=[]/\p.wt<=200000/\i5 p/\p.decls=bD/\xI p/\B7 p:=by
 refine ac.fz (zk _ _ _ ?_);refine vw ?_;generalize hQ:(λ(v:AV) (L:SH)=>∃v2 L2,aE [v] L [v2] L2/\∃p:aY,v2=.agg p.enc/\L2=[]/\p.wt<=200000/\i5 p/\p.decls=bD/\xI p/\B7 p)=Q;have hq:∀(p:aY) (v:AV) (L:SH),Fz L v (.agg p.enc)->p.wt<=200000->i5 p->p.decls=bD->xI p->B7 p->Q v L:=λp v L h1 h2 h3 h4 h5 h6=>by subst hQ;exact⟨_,_,aE.all h1,p,rfl,rfl,h2,h3,h4,h5,h6⟩
 clear hQ
 repeat' (first|refine ep (dw (c:=((2+_:Nat):Int)) ?_ (Wy YC))|refine sx ?_|(refine pf 21 ?_;refine pm (vN) ?_)|((with_reducible refine aU 22 ?_);(refine g9 (t:=t) (a:=0) ht (Xq _) rp (λE a_ hr_ ha_=>?_)))|refine sb λj M=>?_|refine s2 (λh=>?_) λh=>?_|fail)
 rename_i Z hb0 bt hbt bm hbm Y hbp;refine bF (β:=Nat×Int×Int×Bool×Bool×Bool×Bool×Option Nat×List aO×Option Nat×List aj) (2+E) (λi ⟨a,th,le,se,tx,at_,lo,o,ar,oT,ts⟩=>([.ptr Z 0 0,.ptr bm 0 0,.ptr Y 0 0,.YJ ((2+E:Nat):Int),.sl j 0 4,.YJ (i:Int)],if i=2+E then PZ Z Y ts else PH bm bt Z Y j t a th le se tx at_ lo o ar oT ts.length ts))
  (λi ⟨a,th,le,se,tx,at_,lo,o,ar,oT,ts⟩=>a<=t.length/\(o=none->ar=[])/\(oT=none->ts=[])/\ts.length=i/\(∀x∈ts,aj.wt x<=40000)/\ts.map aj.name=mb.take i/\∀x∈ts,x.locals=[[97],[98]]) (a_,0,20,false,false,false,false,none,[],none,[]) ⟨ha_,λ_=>rfl,λ_=>rfl,rfl,nofun,rfl,nofun⟩ ?_ ?_
 .show aE _ _ _ (if 0=2+E then PZ Z Y []else _);rw[if_neg YC];exact aE.blks (K:=[]) (R:=(bm,⟨8,[[.ptr bt 0 0,.YJ 0,.YJ 20,.bool false,.bool false,.bool false,.bool false,.nils]]⟩)::(bt,bE t a_)::(Z,⟨2,[[.nils,.nils]]⟩)::(Y,⟨2,[[.lst (bD.map aA.enc),.nils]]⟩)::(j,⟨1,mb.map av⟩)::[]) (L9 (.one (.there _ (.there _ (.there _ (.here _)))) (.one (.there _ (.here _)) (.one (.there _ (.there _ (.here _))) (.one (.there _ (.here _)) (.one (.here _) (.nil _))))))) (.box (.cons (.refl _) (.cons (.refl _) (.cons (.refl _) (.cons (.refl _) (.cons (.refl _) (.cons (.refl _) (.cons (.refl _) (.cons .nile .nil)))))))) (.same _ (.same _ (.box (.cons (.refl _) (.cons .nile .nil)) (.same _ .nil))))) rfl
 .rintro i ⟨a,th,le,se,tx,at_,lo,o,ar,oT,ts⟩ hi ⟨ha,ho,G,Cj,hw,B,D⟩;dsimp only at ha ho G Cj hw B D ⊢;rcases Nat.lt_or_eq_of_le hi with g|g
  .rw[if_neg YC];refine L7 ht ha ho G Cj g YC ?_;intro x a' th' le' se' tx' at' lo' o' ar' nbT L' ⟨q1,q6,q7⟩ q2 q3 q4 q5;have e:IntKind.i64.wrap ((i:Int)+1)=((i+1:Nat):Int):=ax g YC;rw[e]at q4 q5 ⊢;refine⟨i+1,(a',th',le',se',tx',at',lo',o',ar',some nbT,ts++[x]),YC,YC,⟨q2,q3,nofun,by simp[Cj],?_,?_,?_⟩,?_⟩
   .intro y u;rcases WM.1 u with u|u
    .exact hw y u
    .rw[WP.1 u];exact q1
   .have O:i<mb.length:=by show i<4;omega
    rw[WL,B,LE O,WS,Xp,q6,XP,mt O];rfl
   .intro y u;rcases WM.1 u with u|u
    .exact D y u
    .rw[WP.1 u];exact q7
   .dsimp only;by_cases z:i+1=2+E
    .rw[if_pos z];exact q5
    .rw[if_neg z,LT];exact q4
  .rw[if_pos g];subst g;have hd1:decide (((2+E:Nat):Int)<((2+E:Nat):Int))=false:=by simp
   have hpw:aY.wt ⟨bD,ts⟩<=200000:=by
    have h1:(ts.map aj.wt).sum<=ts.length*40000:=by
     clear Cj hi G B D
     induction ts with
     |nil=>simp
     |cons y l ih=>
      have:=hw y (.head _);have:=ih λz hz=>hw z (.tail _ hz)
      simp only[WS,XO,WO];omega
    have h2:(bD.map aA.wt).sum=19:=by decide
    show(bD.map aA.wt).sum+(ts.map aj.wt).sum<=200000;rw[h2];omega
   obtain⟨e1,ln1,hg1,S⟩:=O6 ⟨bD,ts⟩ YC;unfold PZ;refine vw ?_
   repeat' (first|refine sx ?_|(refine pf 21 ?_;refine pm (vN) ?_)|(refine pf 26 ?_;refine pm (FF _) ?_)|(refine pf 25 ?_;refine pm (da _ _) ?_)|refine sb λj M=>?_|refine s2 (λh=>?_) λh=>?_|fail)
   .exact hq ⟨bD,[⟨[109,97,105,110],0,[[97],[98]],[cP [120] (xu 1)]⟩]⟩ _ _ (Fz.aggs (.cons (.refl _) (.cons (gx (ts:=[]) (b:=j) mm YE YE (.cons (.refl _) (.cons (.refl _) (.cons (Fz.sls (l:=[[97],[98]]) (f:=av) (size:=1) mm YE YG YE) (.cons (Fz.sls (l:=[cP [120] (xu 1)]) (f:=aa.enc) (size:=11) mm (by simp[aa.enc_row]) YG YE) .nil))))) .nil))) YG QF rfl Mf ⟨⟨1,YG,YG,rfl⟩,λx hx=>by rw[WP.1 hx]⟩
   .exact hq ⟨bD,ts⟩ _ _ (.refl _) hpw (hg1 (by simpa using h)) rfl ⟨ln1,(by have h0:e1=0:=(by simpa using h);rw[h0]at S;exact S)⟩ ⟨⟨2+E,YC,YC,B⟩,D⟩
def O7(p:aY)(hp:i5 p)(j:xI p)(G:p.wt<=200000):ao Tryz.prog 51 [.agg p.enc] (.agg (cC p).enc):=by
 obtain⟨O,B⟩:=j;have u:∀d∈p.decls,(1<=d.kind/\d.kind<=6)/\d.size<=4:=λd M=>by obtain⟨i,hi,rfl⟩:=XJ M;refine⟨?_,(hp.decls i hi).size⟩;have D:=hp.shaped;unfold Pj at D;rw[WZ]at D;have E:=W2.1 D.1 _ (WN hi);unfold RD WB at E;simp only[WZ,Yj,Yu,decide_eq_false_iff_not]at E;omega
 exact L6 p u B G
section
theorem ac.fzL{P:Program}{f:FuncId}{args args2:List AV}{L L2:SH}{Q:AV->SH->Prop}(hz:aE args L args2 L2)(h:ac P f args2 L2 Q):ac P f args L Q:=⟨h.1,λH hb hs=>by
 obtain⟨H2,E,S,f3,f4⟩:=my hz hs hb;obtain⟨v,H',L',h1,h2,h3⟩:=h.2 H2 E.bd E.sub;refine⟨v,H',L',λw G M hW D=>?_,E.trans (h2.low (by rw[S];exact Fd _)) (Fd _),h3⟩;obtain⟨g1,O,g3⟩:=f3 w G hW;refine(h1 w G M g1 (g3 M D)).mono ?_;rintro e w' ⟨Y,B,rfl,k1,k2,j,k4⟩;exact⟨Y,B,rfl,k1,k2,⟨j.os,j.tape,j.output,j.size,λc u hT=>j.keep c u (λh=>hT (O c h)),j.shape,j.sig,j.eqfr,j.frame,λc u=>(j.own c u).imp (O c) id⟩,λc Z u=>by rw[<-S];exact k4 c Z u⟩⟩
def xJ(a:Int)(l:List Int):Int:=l.foldl (λa r=>max a (r+1)) a
def rV(a:Int)(l:List az):Int:=l.foldl (λa i=>xJ a (aC i)) a
theorem TR{k:IntKind}{a b:Int}{K:AV->Prop}(h:K (.int k (max a b))):W.mnx true (.int k a) (.int k b) K:=by
 have:(if b > a then b else a)=max a b:=by split<;>omega
 rw[MC,this];exact h
section
variable {n81:Kn} {x1 x2 x3 x4 x5 x6:AV} {bt bg k:Nat} {v:AV} {R:SH}
theorem TS(l:List Int)(a:Int)(O:l.length<2^30)(D:∀r∈l,0<=r/\r<1000)(G:IntKind.i64.wrap ((k:Int)+1)=((k+1:Nat):Int))
  (E:n81 [x1,x2,x3,x4,x5,x6,.ptr bt 0 0,.YJ ((k+1:Nat):Int)] ((bt,⟨2,[[.YJ (xJ a l),v]]⟩)::R)) :
  W.loop (xy n81) [x1,x2,x3,x4,x5,x6,.ptr bt 0 0,.YJ k,.lst (l.map ah),.YJ 0] ((bt,⟨2,[[.YJ a,v]]⟩)::R):=by
 refine Rn l.length (λ_=>True) (λj=>([x1,x2,x3,x4,x5,x6,.ptr bt 0 0,.YJ k,.lst (l.map ah),.YJ j],(bt,⟨2,[[.YJ (xJ a (l.take j)),v]]⟩)::R)) YC trivial rfl rfl (λj h M Y _ u B=>?_) (λj e M _ u=>?_)
 all_goals refine vw ?_
 .have S:=aq (f:=ah) h;have Z:=D _ (WN h);have h1:IntKind.i64.wrap (l[j]+1)=l[j]+1:=WY _ YC;have e:xJ a (l.take (j+1))=max (xJ a (l.take j)) (l[j]+1):=by unfold xJ;rw[kQ h]
  repeat' (first|refine sy ?_|refine TR ?_|refine s2 ?_ ?_|intro)
  refine B trivial _ _ ?_;rw[e];exact .refl _ _
 .subst e;rw[XT]
  repeat' (first|refine sy ?_|refine s2 ?_ ?_|intro)
  exact E
theorem TT{n23:Kn}{w:aK}{loc:List aO}{b:Nat}{site next:Int}{M S:SH}(out:List az)(a:Int)(hl:out.length<2^30)(Z:∀i∈out,∀r∈aC i,0<=r/\r<1000)
  (hn:xz n23 ((bt,⟨2,[[.YJ (rV a out),v]]⟩)::(bg,dY w loc (ai (some b) out.length) site next)::(b,⟨6,out.map az.enc⟩)::M) x3 (.ptr bt 0 0) x5 x1 x2 x4) :
  dD S ((bt,⟨2,[[.YJ a,v]]⟩)::(bg,dY w loc (ai (some b) out.length) site next)::(b,⟨6,out.map az.enc⟩)::M)->W.loop (xA n23) [x1,x2,x3,x4,x5,.ptr bg 0 0,.ptr bt 0 0,.YJ 0] S:=by
 intro hp;refine bF (β:=Unit) out.length (λj _=>([x1,x2,x3,x4,x5,.ptr bg 0 0,.ptr bt 0 0,.YJ j],(bt,⟨2,[[.YJ (rV a (out.take j)),v]]⟩)::(bg,dY w loc (ai (some b) out.length) site next)::(b,⟨6,out.map az.enc⟩)::M)) (λ_ _=>True) () trivial (aE.pick hp rfl) ?_;intro j _ hj0 _;dsimp only;refine vw ?_;rcases Nat.lt_or_ge j out.length with h|h
 .have hd:=a8 h;have hi:=ax h YC;generalize D:(λ(u:List AV) (G:SH)=>∃k Y,j<k/\k<=out.length/\_)=nx;have O:∀u G,aE u G [x1,x2,x3,x4,x5,.ptr bg 0 0,.ptr bt 0 0,.YJ ((j+1:Nat):Int)] ((bt,⟨2,[[.YJ (rV a (out.take (j+1))),v]]⟩)::(bg,dY w loc (ai (some b) out.length) site next)::(b,⟨6,out.map az.enc⟩)::M)->nx u G:=λu G hf=>by subst D;exact⟨j+1,(),YC,YC,trivial,hf⟩
  clear D;have hj:=aq (f:=az.enc) h;have e:rV a (out.take (j+1))=xJ (rV a (out.take j)) (aC out[j]):=by unfold rV;rw[kQ h]
  have E:(aC out[j]).length<2^30:=by
   generalize out[j]=i;unfold aC
   repeat' split
   all_goals simp
  have B:=TS (n81:=nx) (x1:=x1) (x2:=x2) (x3:=x3) (x4:=x4) (x5:=x5) (x6:=.ptr bg 0 0) (bt:=bt) (v:=v) (R:=(bg,dY w loc (ai (some b) out.length) site next)::(b,⟨6,out.map az.enc⟩)::M) (aC out[j]) (rV a (out.take j)) E (Z _ (WN h)) hi (by
   refine O _ _ ?_;rw[e];exact .refl _ _)
  clear O
  repeat' (first|exact B|refine sy ?_|(refine pf 54 ?_;refine pm (oh out[j]) ?_)|refine s2 ?_ ?_|intro)
 .have hd:=bq h;have e:j=out.length:=by omega
  subst e;rw[XT];generalize(λ(u:List AV) (G:SH)=>∃k Y,out.length<k/\k<=out.length/\_)=nx
  repeat' (first|exact hn|refine sy ?_|refine s2 ?_ ?_|intro)
end
def ov:az:=⟨28,0,0,0,0,-1⟩
def Mn(loc:List aO)(c:List az):eG:=⟨rV loc.length (c++[ov]),c++[ov]⟩
def V2(b19:Nat)(w:aK)(v:AV):Nat×Blk:=(b19,⟨7,[[.lst (w.cells.map aH.enc),.lst (w.locks.map bv.enc),.lst (w.conds.map bO.enc),.lst (w.futures.map av),.lst (w.threads.map av),.lst (w.sites.map bM.enc),v]]⟩)
def RH(b2 b19:Nat)(w:aK)(oT:Option Nat)(ts:List eG):SH:=V2 b19 w (ai oT ts.length)::(b2,⟨7,[[.nils,.nils,.nils,.nils,.nils,.nils,.nils]]⟩)::ab oT 2 (ts.map eG.enc)
section
variable {n23:Kn} {b2 b19 i n n2:Nat} {w:aK} {oT:Option Nat} {ts:List eG} {dl:List (List AV)} {th:List aj} {c:List az}
theorem TU(hi:i<th.length)(hi1:IntKind.i64.wrap ((i:Int)+1)=((i+1:Nat):Int))(hT:oT=none->ts=[])(Cj:ts.length<2^20)(hK:fC 52 [.lst (th[i].body.map aa.enc)] w th[i].locals n 0 c n2)(hc:c.length<2^20)(Z:n2<2^20)(S:∀i∈c++[ov],∀r∈aC i,0<=r/\r<1000)
  (hn:∀(O:Nat) (G:SH),aE [.pptr [[.lst dl,.lst (th.map aj.enc)]] 0 0,.ptr b2 0 0,.ptr b19 0 0,.YJ n2,.YJ ((i+1:Nat):Int)] G [.pptr [[.lst dl,.lst (th.map aj.enc)]] 0 0,.ptr b2 0 0,.ptr b19 0 0,.YJ n2,.YJ ((i+1:Nat):Int)] (RH b2 b19 w (some O) (ts++[Mn th[i].locals c]))->n23 [.pptr [[.lst dl,.lst (th.map aj.enc)]] 0 0,.ptr b2 0 0,.ptr b19 0 0,.YJ n2,.YJ ((i+1:Nat):Int)] G) :
  xB n23 (RH b2 b19 w oT ts) (.ptr b19 0 0) (.pptr [[.lst dl,.lst (th.map aj.enc)]] 0 0) (.YJ i) (.YJ n) (.ptr b2 0 0):=by
 have hx:=aq (f:=aj.enc) hi;have D:oT=none->ts.map eG.enc=[]:=λe=>by rw[hT e];rfl
 unfold RH V2;refine vw ?_
 repeat' (first|refine sx ?_|((with_reducible refine aU 52 ?_);(refine⟨ac.fzL (aE.row (K:=[]) (rows':=(dY w th[i].locals (ai none 0) 0 n).rows) (.refl _) rfl (dN (.cons (.refl _) (.cons (.refl _) (.cons (.refl _) (.cons (.refl _) (.cons (.refl _) (.cons (.refl _) (.cons (.refl _) (.cons .nile (.cons (.refl _) (.cons (.refl _) .nil)))))))))))) (tZ (o:=none) (out:=[]) (site:=0) hK rp (.here _) (λ_=>rfl) rfl YC YC (λo_ s_ Y=>?_)).1⟩;dsimp only[List.nil_append,List.cons_append]))|((with_reducible refine aU 53 ?_);(refine dJ (i:=⟨28,0,0,0,0,0⟩) (site:=-1) rp rp YD YC (λE=>?_);simp only[List.cons_append,List.append_assoc,List.nil_append,List.append_nil]))|refine sb λj u=>?_|refine s2 ?_ ?_|intro)
 have B:(c++[ov]).length<2^30:=by simp;omega
 refine TT (out:=c++[ov]) (b:=E) (w:=w) (loc:=th[i].locals) (site:=-1) (next:=n2) (M:=(b19,⟨7,[[.lst (w.cells.map aH.enc),.lst (w.locks.map bv.enc),.lst (w.conds.map bO.enc),.lst (w.futures.map av),.lst (w.threads.map av),.lst (w.sites.map bM.enc),ai oT ts.length]]⟩)::(b2,⟨7,[[.nils,.nils,.nils,.nils,.nils,.nils,.nils]]⟩)::ab oT 2 (ts.map eG.enc)) th[i].locals.length B S ?_ (.one (.here _) (.one (.here _) (dD.slot (o:=some E) (n:=6) (.there _ (.there _ (.skip _ _ _ .last))) (.one (.here _) (.one (.here _) (.slotl rp))))));refine vw ?_
 repeat' (first|refine sx ?_|refine bG rp rp YF (λe=>by first|simp[D e]) YE YF YH YH YE (λj u=>?_)|refine sb λj u=>?_|refine s2 ?_ ?_|intro)
 have e:RH b2 b19 w (some j) (ts++[Mn th[i].locals c])=[V2 b19 w (.sl j 0 (ts.length+1)),(b2,⟨7,[[.nils,.nils,.nils,.nils,.nils,.nils,.nils]]⟩)]++(j,⟨2,(ts++[Mn th[i].locals c]).map eG.enc⟩)::[]:=by unfold RH;rw[LT];rfl
 refine hn j _ ?_;rw[e];refine aE.rowA (rows:=ts.map eG.enc++[[.YJ (rV th[i].locals.length (c++[ov])),.sl E 0 (c++[ov]).length]]) (.one (.there _ (.there _ (.there _ (.there _ (.there _ (.here _)))))) (.one (.there _ (.there _ (.there _ (.there _ (.there _ (.here _)))))) (.one (.here _) (.nil _)))) YF (dU (f:=eG.enc) (x:=Mn th[i].locals c) (.cons (.refl _) (.cons (Fz.sls (l:=c++[ov]) (f:=az.enc) (size:=6) mm rfl YG rfl) .nil))) rfl
end
end
structure O8(p:aY)(nx:Nat->Nat)(cs:Nat->List az)(tcs:List eG):Prop where
 zero:nx 0=0
 len:tcs.length=p.threads.length
 code:∀i (h:i<p.threads.length),StsC (cC p) p.threads[i].locals p.threads[i].body (nx i) 0 (cs i) (nx (i+1))
 tc:∀i (h:i<p.threads.length),tcs[i]'(by rw[len];exact h)=Mn p.threads[i].locals (cs i)
 short:∀i,(cs i).length<2^20
 few:∀i,nx i<2^20
 regs:∀i,i<p.threads.length->∀x∈cs i++[ov],∀r∈aC x,0<=r/\r<1000
def JH(p:aY)(hp:i5 p)(E:xI p)(hw:p.wt<=200000){nx:Nat->Nat}{cs:Nat->List az}{u:List eG}(G:O8 p nx cs u)(hs:∀i (h:i<p.threads.length),JB (cC p) p.threads[i].locals):
  ao Tryz.prog 27 [.agg p.enc] (.tup [.agg (aL.enc ⟨cC p,u⟩),.YJ 0,.YJ 0]):=by
 have hW:=O7 p hp E hw;obtain⟨ln,hck⟩:=E;have htl:=p.threads_len;refine ac.fz (xC _ _ _ ?_);unfold aY.enc;refine vw ?_;generalize hQ:(λ(v:AV) (L:SH)=>∃Z L2,aE [v] L [Z] L2/\Z=AV.tup [.agg (aL.enc ⟨cC p,u⟩),.YJ 0,.YJ 0]/\L2=[])=Q;have hq:∀v L,Fz L v (.agg (aL.enc ⟨cC p,u⟩))->Q (.tup [v,.YJ 0,.YJ 0]) L:=λv L h=>by subst hQ;exact⟨_,[],aE.all (.tups (.cons h (.cons (.refl _) (.cons (.refl _) .nil)))),rfl,rfl⟩
 clear hQ
 repeat' (first|refine sx ?_|refine sb λD hnb_=>?_|refine s2 (λh=>?_) λh=>?_|fail)
 rename_i b0 hb0 b2 hb2;have h0:=G.zero;refine bF (β:=Option Nat) p.threads.length (λi oT=>([.pptr [[.lst (p.decls.map aA.enc),.lst (p.threads.map aj.enc)]] 0 0,.ptr b2 0 0,.ptr D 0 0,.YJ (nx i),.YJ i],RH b2 D (cC p) oT (u.take i))) (λi oT=>oT=none->u.take i=[]) none (λ_=>rfl) ?_ ?_
 .dsimp only;rw[h0];refine aE.row (K:=[]) (b:=D) (n:=7) (rows:=[bL [.nils,.nils,.nils,.nils,.nils,.nils,.nils] 0 (cC p).enc]) (rows':=[[.lst ((cC p).cells.map aH.enc),.lst ((cC p).locks.map bv.enc),.lst ((cC p).conds.map bO.enc),.lst ((cC p).futures.map av),.lst ((cC p).threads.map av),.lst ((cC p).sites.map bM.enc),.emp]]) (.refl _) rfl ?_;refine dN ?_;show fi [] [.lst ((cC p).cells.map aH.enc),.lst ((cC p).locks.map bv.enc),.lst ((cC p).conds.map bO.enc),.lst ((cC p).futures.map av),.lst ((cC p).threads.map av),.lst ((cC p).sites.map bM.enc),.nils] _;exact .cons (.refl _) (.cons (.refl _) (.cons (.refl _) (.cons (.refl _) (.cons (.refl _) (.cons (.refl _) (.cons .nile .nil))))))
 intro i oT hi Y;dsimp only;refine vw ?_;generalize M:(λ(vs':List AV) (L':SH)=>∃j o',i<j/\j<=p.threads.length/\_)=nxt;rcases Nat.lt_or_ge i p.threads.length with B|B
 .have hd:=a8 B;have S:=ax B YC;have O:i<u.length:=by rw[G.len];exact B
  have hK:=nr ((OV (hs i B)).2 (G.code i B) (aa.shorts_wt _ (by have:=p.thread_wt B;unfold aj.wt at this;omega))) (by have:=aa.wts_len p.threads[i].body;have:=p.thread_wt B;unfold aj.wt at this;omega);have hr:=TU (n23:=nxt) (b2:=b2) (b19:=D) (dl:=p.decls.map aA.enc) (oT:=oT) (ts:=u.take i) B S Y (by rw[Xb];omega) hK (G.short i) (G.few (i+1)) (G.regs i B) (λnb L' hz=>by
   subst M;refine⟨i+1,some nb,YC,YC,nofun,?_⟩;rw[LE O,G.tc i B];exact hz)
  clear M;generalize hL:RH b2 D (cC p) oT (u.take i)=LW at *
  repeat' (first|exact hr|refine sy ?_|refine s2 ?_ ?_|intro)
 .have hd:=bq B;have e:i=p.threads.length:=by omega
  subst e;rw[<-G.len,XT]at Y ⊢;rw[G.len];unfold RH V2
  repeat' (first|refine sy ?_|refine s2 ?_ ?_|intro)
  refine bI (.there _ (.here _)) rfl rfl (by simp[xG];exact⟨rfl,rfl,rfl,rfl,rfl,rfl⟩) rfl ?_
  repeat' (first|refine sy ?_|refine s2 ?_ ?_|intro)
  exact hq _ _ (Fz.aggs (.cons (.refl _) (.cons (.refl _) (.cons (.refl _) (.cons (.refl _) (.cons (.refl _) (.cons (.refl _) (.cons (B5 Y YG λq h=>.tail _ (.tail _ h)) .nil))))))))
section
def t6:List aH:=[⟨[120],0,0,false,0⟩,⟨[121],0,0,false,1⟩,⟨[118],0,0,true,0⟩,⟨[113],0,2,false,0⟩,⟨[113],1,2,false,0⟩]
def B8:List bv:=[⟨[109],false⟩,⟨[110],false⟩,⟨[114],true⟩]
def JI:List bO:=[⟨[99],0⟩]
def Pb:List aO:=[[102]]
theorem VP(ts:List aj):∀(w:aK),(ts.foldl el w).cells=w.cells/\(ts.foldl el w).locks=w.locks/\(ts.foldl el w).conds=w.conds/\(ts.foldl el w).futures=w.futures/\(ts.foldl el w).threads=w.threads++ts.map aj.name:=by
 induction ts with
 |nil=>intro w;simp
 |cons t l j=>intro w;obtain⟨a,b,c,d,e⟩:=j (el w t);rw[XL];exact⟨a,b,c,d,by rw[e];simp[el]⟩
theorem FQ{p:aY}(hd:p.decls=bD):(cC p).cells=t6/\(cC p).locks=B8/\(cC p).conds=JI/\(cC p).futures=Pb/\(cC p).threads=p.threads.map aj.name:=by obtain⟨a,b,c,d,e⟩:=VP p.threads (p.decls.foldl dh aK.zero);unfold cC;rw[a,b,c,d,e,hd];exact⟨rfl,rfl,rfl,rfl,rfl⟩
structure KK(w:aK)(i:az):Prop where
 op:1<=i.op/\i.op<=7/\i.op≠5
 regs:∀r∈aC i,0<=r/\r<16
 obj:jh w i=true
theorem dZ{k a b:Int}:gj k a b=0↔k≠0/\(k=a\/k=b):=by
 unfold gj
 repeat' split
 all_goals omega
theorem hM{p:aY}(hd:p.decls=bD)(loc:List aO)(s:aO):(0<=jx loc s/\aV p loc s=8)\/(jx loc s<0/\((∃d∈bD,d.name=s/\aV p loc s=lS d)\/(0<=dV p.threads s/\aV p loc s=7)\/aV p loc s=0)):=by
 unfold aV;by_cases h:0<=jx loc s
 .left;exact⟨h,by simp[h]⟩
 .right;refine⟨YC,?_⟩;simp only[h,decide_false,cond_false,hd];cases u:qC bD s with
  |some d=>left;exact⟨d,List.mem_of_find?_eq_some u,by have:=List.find?_some u;simpa using this,rfl⟩
  |none=>
   right;unfold Ie;by_cases j:0<=dV p.threads s
   .left;exact⟨j,by simp[j]⟩
   .right;simp[j]
theorem nA{P:aA->Prop}(M:P ⟨1,0,[120],0,0,[]⟩)(G:P ⟨1,0,[121],0,1,[]⟩)(h2:P ⟨2,0,[118],0,0,[]⟩)(E:P ⟨1,0,[113],2,0,[]⟩)(h4:P ⟨3,0,[109],0,0,[]⟩)(D:P ⟨3,0,[110],0,0,[]⟩)(B:P ⟨4,0,[114],0,0,[]⟩)(u:P ⟨5,0,[99],0,0,[109]⟩)(j:P ⟨6,0,[102],0,0,[]⟩):∀d∈bD,P d:=by unfold bD;simp only[Xk,Xv,false_implies,implies_true,and_true];exact⟨M,G,h2,E,h4,D,B,u,j⟩
section
variable {p:aY} (hd:p.decls=bD) {loc:List aO}
include hd
theorem Eb{s:aO}(h:aV p loc s=1):jx loc s<0/\pM (cC p) (eN (cC p).cells s)=true:=by
 obtain⟨u,_⟩:=FQ hd;rcases hM hd loc s with⟨_,j⟩|⟨B,⟨d,E,rfl,j⟩|⟨_,j⟩|j⟩
 .omega
 .refine⟨B,?_⟩;rw[h]at j;have D:pM (cC p) (eN t6 d.name)=true:=by unfold pM;rw[u];clear B h hd;revert j;exact nA (P:=λd=>1=lS d->(inB (eN t6 d.name) t6.length&&decide ((t6.getD (eN t6 d.name).toNat default).size=0))=true) YG YG YG YG YG YG YG YG YG d E
  rw[u];exact D
 .omega
 .omega
theorem Ih{s:aO}(h:aV p loc s=2):∃(b:Nat) (O:b<(cC p).cells.length),eN (cC p).cells s=b/\uE (cC p) b (cC p).cells[b].size=true:=by
 obtain⟨M,_⟩:=FQ hd;rcases hM hd loc s with⟨_,j⟩|⟨S,⟨d,E,rfl,j⟩|⟨_,j⟩|j⟩
 .omega
 .rw[h]at j;have D:d.name=[113]:=by clear S h hd;revert j;exact nA (P:=λd=>2=lS d->d.name=[113]) YG YG YG YG YG YG YG YG YG d E
  have u:∀l:List aH,l=t6->∀w:aK,w.cells=l->∃(b:Nat) (O:b<w.cells.length),eN w.cells [113]=b/\uE w b w.cells[b].size=true:=by intro l G w B;obtain⟨c,lk,Z,f,t,Y⟩:=w;dsimp only at B ⊢;subst B;subst G;exact⟨3,YG,YG,rfl⟩
  rw[D];exact u _ M _ rfl
 .omega
 .omega
theorem xK{s:aO}{k:Int}(B:k=3\/k=4)(h:aV p loc s=k):jB (cC p) (cu (cC p).locks s) (decide (k=4))=true:=by
 obtain⟨_,D,_⟩:=FQ hd;rcases hM hd loc s with⟨_,j⟩|⟨E,⟨d,u,rfl,j⟩|⟨_,j⟩|j⟩
 .omega
 .unfold jB;rw[D];rw[h]at j;clear E h hd;revert B;rw[j];exact nA (P:=λd=>lS d=3\/lS d=4->(inB (cu B8 d.name) B8.length&&((B8.getD (cu B8 d.name).toNat ⟨[],false⟩).rw==decide (lS d=4)))=true) YG YG YG YG YG YG YG YG YG d u
 .omega
 .omega
theorem xL{s:aO}(h:aV p loc s=5):inB (fL (cC p).conds s) (cC p).conds.length=true:=by
 obtain⟨_,_,B,_⟩:=FQ hd;rcases hM hd loc s with⟨_,j⟩|⟨D,⟨d,u,rfl,j⟩|⟨_,j⟩|j⟩
 .omega
 .rw[B];rw[h]at j;clear D h hd;revert j;exact nA (P:=λd=>5=lS d->inB (fL JI d.name) JI.length=true) YG YG YG YG YG YG YG YG YG d u
 .omega
 .omega
theorem Ii{s:aO}(h:aV p loc s=6):inB (jx (cC p).futures s) (cC p).futures.length=true:=by
 obtain⟨_,_,_,B,_⟩:=FQ hd;rcases hM hd loc s with⟨_,j⟩|⟨D,⟨d,u,rfl,j⟩|⟨_,j⟩|j⟩
 .omega
 .rw[B];rw[h]at j;clear D h hd;revert j;exact nA (P:=λd=>6=lS d->inB (jx Pb d.name) Pb.length=true) YG YG YG YG YG YG YG YG YG d u
 .omega
 .omega
theorem Ec{d:aA}(j:d∈bD):lS d≠7/\lS d≠8:=nA (P:=λd=>lS d≠7/\lS d≠8) YG YG YG YG YG YG YG YG YG d j
theorem B9(s:aO):∀(l:List aj) (i:Nat),iy (λx=>decide (x=s)) (l.map aj.name) i=iy (λx:aj=>decide (x.name=s)) l i
 |[],_=>rfl
 |x::l,i=>by simp only[WS,iy,B9 s l (i+1)]
theorem Ij{α:Type}{q:α->Bool}{l:List α}(h:0<=iy q l 0):inB (iy q l 0) l.length=true:=by
 rcases gZ (p:=q) l 0 with⟨h1,_⟩|⟨k,hk,h1,_⟩
 .omega
 .rw[h1];exact aw.2 ⟨YC,YC⟩
theorem Ik{s:aO}(h:aV p loc s=7):inB (jx (cC p).threads s) (cC p).threads.length=true:=by
 obtain⟨_,_,_,_,B⟩:=FQ hd;rcases hM hd loc s with⟨_,j⟩|⟨E,⟨d,u,rfl,j⟩|⟨D,j⟩|j⟩
 .omega
 .have:=(Ec hd u).1;omega
 .have e:jx (cC p).threads s=dV p.threads s:=by rw[B];exact B9 hd s _ 0
  unfold jx at e ⊢;exact Ij hd (by rw[e];exact D)
 .omega
theorem Ca{s:aO}(h:aV p loc s=8):0<=jx loc s/\jx loc s<loc.length:=by
 rcases hM hd loc s with⟨u,j⟩|⟨u,⟨d,B,rfl,j⟩|⟨D,j⟩|j⟩
 .have:=aw.1 (Ij hd (q:=λx=>decide (x=s)) (l:=loc) u);exact this
 .have:=(Ec hd B).2;omega
 .omega
 .omega
theorem FR(hl:loc.length<=4):∀(x:ae) (d:Int),Cl x=true->gI p loc x=0->0<=d->d+x.dp<=15->∃c,gy (cC p) loc x d c/\c.length<=x.nd/\∀i∈c,KK (cC p) i
 | .mk op n name l,d,h1,h2,h3,h4=>by
  rw[Cl]at h1;rw[WZ]at h1;obtain⟨G,B⟩:=h1;unfold OX at G;simp only[WZ,decide_eq_true_eq]at G;obtain⟨⟨⟨⟨j,_⟩,_⟩,_⟩,_⟩:=G;rw[gI]at h2;have h5:qD p loc op name=0/\namesL p loc l=0:=by
   split at h2
   .rename_i h;exact⟨h,h2⟩
   .rename_i h;exact absurd h2 h
  obtain⟨D,u⟩:=h5;unfold qD at D;unfold Qx at j;simp only[ae.dp,ae.nd]at h4 ⊢;by_cases o1:op=1
  .subst o1;exact⟨_,.num n name l d,YF,by simp only[WP,forall_eq];exact⟨YF,by simp[aC];omega,rfl⟩⟩
  by_cases Z:op=2
  .subst Z;rw[if_pos rfl]at D;rcases(dZ.1 D).2 with h|h
   .obtain⟨a1,a2⟩:=Ca hd h;refine⟨_,.loc n name l d a1,YF,?_⟩;simp only[WP,forall_eq];exact⟨YF,by simp[aC];omega,rfl⟩
   .obtain⟨a1,a2⟩:=Eb hd h;refine⟨_,.load n name l d a1,YF,?_⟩;simp only[WP,forall_eq];exact⟨YF,by simp[aC];omega,a2⟩
  rw[if_neg YC]at j
  match l,B,u,j,h4 with
  |[],_,_,j,_=>
   exfalso;simp only[WT]at j;split at j
   .omega
   .split at j<;>omega
  |[a],B,u,j,h4=>
   have ho:3<=op/\op<=5:=by
    split at j
    .assumption
    .exfalso;split at j<;>simp at j
   simp only[shEs,Yy]at B;simp only[namesL]at u;have E:gI p loc a=0:=by
    split at u
    .assumption
    .exact absurd u YD
   simp only[ae.dps,Nat.max_zero]at h4;obtain⟨c,Y,hcl,S⟩:=FR hl a d B E h3 YC;by_cases o3:op=3
   .subst o3;rw[if_neg YC,if_pos rfl]at D;have hk:aV p loc name=2:=by rcases(dZ.1 D).2 with h|h<;>exact h
    obtain⟨b,hb,hcb,O⟩:=Ih hd hk;refine⟨_,.index n name a d c b hb Y hcb,by simp[ae.nds];omega,λi M=>?_⟩;rcases WM.1 M with h|h
    .exact S i h
    .rw[WP.1 h];exact⟨YF,by simp[aC];omega,O⟩
   .refine⟨_,.un op n name a d c o1 Z o3 Y,by simp[ae.nds];omega,λi M=>?_⟩;rcases WM.1 M with h|h
    .exact S i h
    .rw[WP.1 h];exact⟨YF,by simp[aC];omega,by simp[jh];omega⟩
  |[a,b],B,u,j,h4=>
   have ho:6<=op/\op<=18:=by
    split at j
    .exfalso;simp at j
    .split at j
     .assumption
     .exfalso;simp at j
   simp only[shEs,Yy,WZ]at B;simp only[namesL]at u;have E:gI p loc a=0:=by
    split at u
    .assumption
    .exact absurd u YD
   rw[if_pos E]at u;have hnb:gI p loc b=0:=by
    split at u
    .assumption
    .exact absurd u YD
   simp only[ae.dps,Nat.max_zero]at h4;have hda:1<=a.dp:=by rw[a.dp_eq];omega
   obtain⟨c,Y,hcl,S⟩:=FR hl a d B.1 E h3 YC;obtain⟨c2,hc2,hcl2,hg2⟩:=FR hl b (d+1) B.2 hnb YC YC;refine⟨_,.bin op n name a b d c c2 o1 Z YC (WY _ YC) Y hc2,by simp[ae.nds];omega,λi M=>?_⟩;rcases WM.1 M with h|h
   .rcases WM.1 h with h|h
    .exact S i h
    .exact hg2 i h
   .rw[WP.1 h];exact⟨YF,by simp[aC];omega,by simp[jh];omega⟩
  |a::b::e::r,_,_,j,_=>
   exfalso;simp only[WO]at j;split at j
   .omega
   .split at j<;>omega
end
end
section
structure RI(w:aK)(n n2 lo hi:Nat)(i:az):Prop where
 op:1<=i.op/\i.op<=27
 regs:∀r∈aC i,0<=r/\r<16
 obj:jh w i=true
 site:(n:Int)<=i.site/\i.site<n2
 jmp:i.op=5->(lo:Int)<=i.a/\i.a<=hi
 br:i.op=10->(lo:Int)<=i.b/\i.b<=hi
theorem RI.mono{w:aK}{n B E G m D j u:Nat}{i:az}(h:RI w n B E G i)(O:m<=n)(h2:B<=D)(M:j<=E)(h4:G<=u):RI w m D j u i:=
 ⟨h.op,h.regs,h.obj,by have:=h.site;omega,λe=>by have:=h.jmp e;omega,λe=>by have:=h.br e;omega⟩
theorem KK.at_{w:aK}{i:az}(h:KK w i){n j u B s:Nat}(D:n<=s)(h2:s<j):RI w n j u B (i.at_ (s:Int)):=
 ⟨by have:=h.op;show 1<=i.op/\i.op<=27;omega,h.regs,h.obj,by show(n:Int)<=s/\(s:Int)<j;omega,λe=>absurd e h.op.2.2,λe=>by have:=h.op;have E:i.op=10:=e;omega⟩
theorem KK.all{w:aK}{c:List az}(h:∀i∈c,KK w i){n B D u s:Nat}(G:n<=s)(h2:s<B):∀i∈aN c s,RI w n B D u i:=λi u=>by obtain⟨j,E,rfl⟩:=Xi.1 u;exact(h j E).at_ G h2
theorem cJ{α:Type}{P:α->Prop}{a b:List α}(u:∀i∈a,P i)(h2:∀i∈b,P i):∀i∈a++b,P i:=λi j=>by
 rcases WM.1 j with h|h
 .exact u i h
 .exact h2 i h
theorem cK{α:Type}{P:α->Prop}{a:α}(h:P a):∀i∈[a],P i:=λi j=>by rw[WP.1 j];exact h
section
variable {p:aY} (hd:p.decls=bD) {loc:List aO} (hl:loc.length<=4)
include hd hl
theorem qX{e:ae}(h:kS p loc e=0){d:Int}(G:0<=d)(M:d<=9):∃c,gy (cC p) loc e d c/\c.length<=e.wt/\∀i∈c,KK (cC p) i:=by
 unfold kS at h;cases u:Cl e with
 |false=>rw[u]at h;simp at h
 |true=>
  rw[u]at h;simp only[Yx,cond_false]at h;by_cases j:(decide (24<(e.nd:Int))||decide (6<(e.dp:Int)))=true
  .rw[j]at h;simp at h
  .rw[YB]at j;rw[j]at h;simp only[cond_false]at h;simp only[Yu,decide_eq_false_iff_not]at j;obtain⟨c,E,D,B⟩:=FR hd hl e d u h G YC;exact⟨c,E,W5 D e.nd_wt,B⟩
def WJ(p:aY)(loc:List aO)(x:aa):Prop:=∀n b:Nat,∃c,JA (cC p) loc x n b c (n+1+x.cnt)/\c.length<=3*x.wt/\∀i∈c,RI (cC p) n (n+1+x.cnt) b (b+c.length) i
def WE(p:aY)(loc:List aO)(l:List aa):Prop:=∀n b:Nat,∃c,StsC (cC p) loc l n b c (n+aa.cnts l)/\c.length<=3*aa.wts l/\∀i∈c,RI (cC p) n (n+aa.cnts l) b (b+c.length) i
mutual
theorem VQ:∀x:aa,kU x=true->Do p loc x->WJ p loc x
 | .mk op line s arg ix e body els,h1,h2=>by
  rw[kU]at h1;simp only[WZ]at h1;obtain⟨⟨h3,h4⟩,h5⟩:=h1;rw[Do]at h2;obtain⟨M,h7,h8⟩:=h2;have hB:=sts_ex body h4 h7;have hE:=sts_ex els h5 h8;unfold Qz at h3;simp only[WZ,Yj]at h3;obtain⟨g1,g2,g3,g4,g5,g6⟩:=h3;unfold VY at g1;unfold Qy at g6;unfold RC at g4;simp only[Yu,decide_eq_false_iff_not]at g1;rw[Yu]at g6;have B:¬(2<=op/\op<=8)->body=[]:=λh=>by have h0:=g6.1;by_cases k1:2<=op<;>by_cases k2:op<=8<;>simp[k1,k2]at h0<;>first|exact h0|exact absurd ⟨k1,k2⟩ h
  have u:op≠2->els=[]:=λh=>by have:=g6.2;simpa[h]using this
  unfold fD at M;dsimp only[aa.op,aa.name,aa.arg,aa.index,aa.expr]at M;intro n b;simp only[aa.wt,aa.cnt];have hop:op=1\/op=2\/op=3\/op=4\/op=5\/op=6\/op=7\/op=8\/op=9\/op=10\/op=11\/op=12\/op=13\/op=14\/op=15:=by omega
  rcases hop with rfl|rfl|rfl|rfl|rfl|rfl|rfl|rfl|rfl|rfl|rfl|rfl|rfl|rfl|rfl
  .obtain rfl:=B YC;obtain rfl:=u YC;simp only[if_true]at M
   match ix,M with
   |[],M=>
    obtain⟨hw,he⟩:=M;obtain⟨c,hc,hcl,Z⟩:=qX hd hl he (d:=loc.length) YC YC;rcases(dZ.1 hw).2 with h|h
    .obtain⟨a1,a2⟩:=Ca hd h;refine⟨_,.asg line s arg [] e [] [] _ n b (.loc 1 line s arg e [] [] c hc a1),by simp[aW,ae.wts,aa.wts];omega,?_⟩;rw[eY];refine cJ (KK.all Z (Fd _) YC) (cK ?_);exact⟨by show(1:Int)<=2/\(2:Int)<=27;omega,by simp[aC,az.at_];omega,rfl,by show(n:Int)<=n/\(n:Int)<_;omega,by simp[az.at_],by simp[az.at_]⟩
    .obtain⟨a1,a2⟩:=Eb hd h;refine⟨_,.asg line s arg [] e [] [] _ n b (.store 1 line s arg e [] [] c hc a1),by simp[aW,ae.wts,aa.wts];omega,?_⟩;rw[eY];refine cJ (KK.all Z (Fd _) YC) (cK ?_);exact⟨by show(1:Int)<=8/\(8:Int)<=27;omega,by simp[aC,az.at_];omega,a2,by show(n:Int)<=n/\(n:Int)<_;omega,by simp[az.at_],by simp[az.at_]⟩
   |i::rest,M=>
    obtain⟨hw,O,he⟩:=M;obtain⟨c1,hc1,hcl1,hg1⟩:=qX hd hl O (d:=loc.length) YC YC;obtain⟨c2,hc2,hcl2,hg2⟩:=qX hd hl he (d:=(loc.length:Int)+1) YC YC;have G:aV p loc s=2:=by rcases(dZ.1 hw).2 with h|h<;>exact h
    obtain⟨bb,hb,hcb,harr⟩:=Ih hd G;refine⟨_,.asg line s arg (i::rest) e [] [] _ n b (.idx 1 line s arg i e rest [] [] c1 c2 bb hb hc1 hc2 hcb),by simp[aW,ae.wts,aa.wts];omega,?_⟩;rw[eY,eY];refine cJ (cJ (KK.all hg1 (Fd _) YC) (KK.all hg2 (Fd _) YC)) (cK ?_);exact⟨by show(1:Int)<=9/\(9:Int)<=27;omega,by simp[aC,az.at_];omega,harr,by show(n:Int)<=n/\(n:Int)<_;omega,by simp[az.at_],by simp[az.at_]⟩
  .have he:kS p loc e=0:=by simpa using M
   obtain⟨ce,hc,hcl,Z⟩:=qX hd hl he (d:=loc.length) YC YC;obtain⟨S,E,Y,D⟩:=hB (n+1) (b+ce.length+1)
   match els,hE with
   |[],_=>
    simp only[aa.cnts,aa.wts,XQ]at *;refine⟨_,.if1 line s arg ix e body ce S n b _ hc E,by simp[aW];omega,?_⟩;rw[eY];refine cJ (cJ (KK.all Z (Fd _) YC) (cK ?_)) λi O=>(D i O).mono YC YC YC (by simp[aW];omega)
    exact⟨by show(1:Int)<=10/\(10:Int)<=27;omega,by simp[aC,az.at_];omega,rfl,by show(n:Int)<=n/\(n:Int)<_;omega,by simp[az.at_],λ_=>by simp[az.at_,aW];omega⟩
   |y::els,hE=>
    obtain⟨cl,hl1,hl2,hl3⟩:=hE (n+1+aa.cnts body) (b+ce.length+1+S.length+1);rw[show n+1+aa.cnts body+aa.cnts (y::els)=n+1+(aa.cnts body+aa.cnts (y::els)) by omega]at hl1 hl3;refine⟨_,.if2 line s arg ix e body y els ce S cl n b _ _ hc E hl1,by simp[aW];omega,?_⟩;rw[eY];refine cJ (cJ (cJ (cJ (KK.all Z (Fd _) YC) (cK ?_)) λi O=>(D i O).mono YC YC YC (by simp[aW];omega)) (cK ?_)) λi O=>(hl3 i O).mono YC YC YC (by simp[aW];omega)
    .exact⟨by show(1:Int)<=10/\(10:Int)<=27;omega,by simp[aC,az.at_];omega,rfl,by show(n:Int)<=n/\(n:Int)<_;omega,by simp[az.at_],λ_=>by simp[az.at_,aW];omega⟩
    .exact⟨by show(1:Int)<=5/\(5:Int)<=27;omega,by simp[aC,az.at_],rfl,by show(n:Int)<=n/\(n:Int)<_;omega,λ_=>by simp[az.at_,aW];omega,by simp[az.at_]⟩
  .obtain rfl:=u YC;have he:kS p loc e=0:=by simpa using M
   obtain⟨ce,hc,hcl,Z⟩:=qX hd hl he (d:=loc.length) YC YC;obtain⟨S,E,Y,D⟩:=hB (n+1) (b+ce.length+1);simp only[aa.cnts,aa.wts,XQ]at *;refine⟨_,.while line s arg ix e body [] ce S n b _ hc E,by simp[aW];omega,?_⟩;rw[eY];refine cJ (cJ (cJ (KK.all Z (Fd _) YC) (cK ?_)) λi O=>(D i O).mono YC YC YC (by simp[aW];omega)) (cK ?_)
   .exact⟨by show(1:Int)<=10/\(10:Int)<=27;omega,by simp[aC,az.at_];omega,rfl,by show(n:Int)<=n/\(n:Int)<_;omega,by simp[az.at_],λ_=>by simp[az.at_,aW];omega⟩
   .exact⟨by show(1:Int)<=5/\(5:Int)<=27;omega,by simp[aC,az.at_],rfl,by show(n:Int)<=n/\(n:Int)<_;omega,λ_=>by simp[az.at_,aW];omega,by simp[az.at_]⟩
  .obtain rfl:=u YC;obtain⟨S,E,Y,D⟩:=hB (n+1) (b+1);simp only[aa.cnts,aa.wts,XQ]at *;have G:aV p loc s=3:=by have h:=M;simp at h;rcases(dZ.1 h).2 with h|h<;>exact h
   have j:=xK hd YC G;refine⟨_,.arnd 4 line s arg ix e body [] 11 12 (cu (cC p).locks s) S n b _ rfl E,by simp[aW];omega,?_⟩;refine cJ (cJ (cK ?_) λi O=>(D i O).mono YC YC YC (by simp[aW];omega)) (cK ?_)
   .exact⟨by show(1:Int)<=11/\(11:Int)<=27;omega,by simp[aC,az.at_],j,by show(n:Int)<=n/\(n:Int)<_;omega,by simp[az.at_],by simp[az.at_]⟩
   .exact⟨by show(1:Int)<=12/\(12:Int)<=27;omega,by simp[aC,az.at_],j,by show(n:Int)<=n/\(n:Int)<_;omega,by simp[az.at_],by simp[az.at_]⟩
  .obtain rfl:=u YC;obtain⟨S,E,Y,D⟩:=hB (n+1) (b+1);simp only[aa.cnts,aa.wts,XQ]at *;have G:aV p loc s=4:=by have h:=M;simp at h;rcases(dZ.1 h).2 with h|h<;>exact h
   have j:=xK hd YC G;refine⟨_,.arnd 5 line s arg ix e body [] 13 14 (cu (cC p).locks s) S n b _ rfl E,by simp[aW];omega,?_⟩;refine cJ (cJ (cK ?_) λi O=>(D i O).mono YC YC YC (by simp[aW];omega)) (cK ?_)
   .exact⟨by show(1:Int)<=13/\(13:Int)<=27;omega,by simp[aC,az.at_],j,by show(n:Int)<=n/\(n:Int)<_;omega,by simp[az.at_],by simp[az.at_]⟩
   .exact⟨by show(1:Int)<=14/\(14:Int)<=27;omega,by simp[aC,az.at_],j,by show(n:Int)<=n/\(n:Int)<_;omega,by simp[az.at_],by simp[az.at_]⟩
  .obtain rfl:=u YC;obtain⟨S,E,Y,D⟩:=hB (n+1) (b+1);simp only[aa.cnts,aa.wts,XQ]at *;have G:aV p loc s=4:=by have h:=M;simp at h;rcases(dZ.1 h).2 with h|h<;>exact h
   have j:=xK hd YC G;refine⟨_,.arnd 6 line s arg ix e body [] 15 16 (cu (cC p).locks s) S n b _ rfl E,by simp[aW];omega,?_⟩;refine cJ (cJ (cK ?_) λi O=>(D i O).mono YC YC YC (by simp[aW];omega)) (cK ?_)
   .exact⟨by show(1:Int)<=15/\(15:Int)<=27;omega,by simp[aC,az.at_],j,by show(n:Int)<=n/\(n:Int)<_;omega,by simp[az.at_],by simp[az.at_]⟩
   .exact⟨by show(1:Int)<=16/\(16:Int)<=27;omega,by simp[aC,az.at_],j,by show(n:Int)<=n/\(n:Int)<_;omega,by simp[az.at_],by simp[az.at_]⟩
  .obtain rfl:=u YC;obtain⟨S,E,Y,D⟩:=hB (n+1) (b+1);simp only[aa.cnts,aa.wts,XQ]at *;refine⟨_,.arnd 7 line s arg ix e body [] 17 18 0 S n b _ rfl E,by simp[aW];omega,?_⟩;refine cJ (cJ (cK ?_) λi O=>(D i O).mono YC YC YC (by simp[aW];omega)) (cK ?_)
   .exact⟨by show(1:Int)<=17/\(17:Int)<=27;omega,by simp[aC,az.at_],rfl,by show(n:Int)<=n/\(n:Int)<_;omega,by simp[az.at_],by simp[az.at_]⟩
   .exact⟨by show(1:Int)<=18/\(18:Int)<=27;omega,by simp[aC,az.at_],rfl,by show(n:Int)<=n/\(n:Int)<_;omega,by simp[az.at_],by simp[az.at_]⟩
  .obtain rfl:=u YC;obtain⟨S,E,Y,D⟩:=hB (n+1) (b+1);simp only[aa.cnts,aa.wts,XQ]at *;refine⟨_,.arnd 8 line s arg ix e body [] 19 20 0 S n b _ rfl E,by simp[aW];omega,?_⟩;refine cJ (cJ (cK ?_) λi O=>(D i O).mono YC YC YC (by simp[aW];omega)) (cK ?_)
   .exact⟨by show(1:Int)<=19/\(19:Int)<=27;omega,by simp[aC,az.at_],rfl,by show(n:Int)<=n/\(n:Int)<_;omega,by simp[az.at_],by simp[az.at_]⟩
   .exact⟨by show(1:Int)<=20/\(20:Int)<=27;omega,by simp[aC,az.at_],rfl,by show(n:Int)<=n/\(n:Int)<_;omega,by simp[az.at_],by simp[az.at_]⟩
  .obtain rfl:=B YC;obtain rfl:=u YC;have G:aV p loc s=5:=by have h:=M;simp at h;rcases(dZ.1 h).2 with h|h<;>exact h
   have j:=xL hd G;refine⟨_,.one 9 line s arg ix e [] [] _ n b rfl,by simp[aW];omega,cK ?_⟩;exact⟨by show(1:Int)<=21/\(21:Int)<=27;omega,by simp[aC,az.at_],j,by show(n:Int)<=n/\(n:Int)<_;omega,by simp[az.at_],by simp[az.at_]⟩
  .obtain rfl:=B YC;obtain rfl:=u YC;have G:aV p loc s=5:=by have h:=M;simp at h;rcases(dZ.1 h).2 with h|h<;>exact h
   have j:=xL hd G;refine⟨_,.one 10 line s arg ix e [] [] _ n b rfl,by simp[aW];omega,cK ?_⟩;exact⟨by show(1:Int)<=22/\(22:Int)<=27;omega,by simp[aC,az.at_],j,by show(n:Int)<=n/\(n:Int)<_;omega,by simp[az.at_],by simp[az.at_]⟩
  .obtain rfl:=B YC;obtain rfl:=u YC;have G:aV p loc s=5:=by have h:=M;simp at h;rcases(dZ.1 h).2 with h|h<;>exact h
   have j:=xL hd G;refine⟨_,.one 11 line s arg ix e [] [] _ n b rfl,by simp[aW];omega,cK ?_⟩;exact⟨by show(1:Int)<=23/\(23:Int)<=27;omega,by simp[aC,az.at_],j,by show(n:Int)<=n/\(n:Int)<_;omega,by simp[az.at_],by simp[az.at_]⟩
  .obtain rfl:=B YC;obtain rfl:=u YC;have G:aV p loc s=7:=by have h:=M;simp at h;rcases(dZ.1 h).2 with h|h<;>exact h
   have j:=Ik hd G;refine⟨_,.one 12 line s arg ix e [] [] _ n b rfl,by simp[aW];omega,cK ?_⟩;exact⟨by show(1:Int)<=24/\(24:Int)<=27;omega,by simp[aC,az.at_],j,by show(n:Int)<=n/\(n:Int)<_;omega,by simp[az.at_],by simp[az.at_]⟩
  .obtain rfl:=B YC;obtain rfl:=u YC;have G:aV p loc s=7:=by have h:=M;simp at h;rcases(dZ.1 h).2 with h|h<;>exact h
   have j:=Ik hd G;refine⟨_,.one 13 line s arg ix e [] [] _ n b rfl,by simp[aW];omega,cK ?_⟩;exact⟨by show(1:Int)<=25/\(25:Int)<=27;omega,by simp[aC,az.at_],j,by show(n:Int)<=n/\(n:Int)<_;omega,by simp[az.at_],by simp[az.at_]⟩
  .obtain rfl:=B YC;obtain rfl:=u YC;have hh:gj (aV p loc s) 6 6=0/\kS p loc e=0:=by simpa using M
   have G:aV p loc s=6:=by rcases(dZ.1 hh.1).2 with h|h<;>exact h
   have j:=Ii hd G;obtain⟨ce,hc,hcl,Z⟩:=qX hd hl hh.2 (d:=loc.length) YC YC;refine⟨_,.set line s arg ix e [] [] ce n b hc,by simp[aW];omega,?_⟩;rw[eY];refine cJ (KK.all Z (Fd _) YC) (cK ?_);exact⟨by show(1:Int)<=26/\(26:Int)<=27;omega,by simp[aC,az.at_];omega,j,by show(n:Int)<=n/\(n:Int)<_;omega,by simp[az.at_],by simp[az.at_]⟩
  .obtain rfl:=B YC;obtain rfl:=u YC;have hh:gj (aV p loc s) 8 8=0/\gj (aV p loc arg) 6 6=0:=by simpa using M
   have G:aV p loc s=8:=by rcases(dZ.1 hh.1).2 with h|h<;>exact h
   have hk2:aV p loc arg=6:=by rcases(dZ.1 hh.2).2 with h|h<;>exact h
   have hlo:=Ca hd G;have j:=Ii hd hk2;refine⟨_,.one 15 line s arg ix e [] [] _ n b rfl,by simp[aW];omega,cK ?_⟩;exact⟨by show(1:Int)<=27/\(27:Int)<=27;omega,by simp[aC,az.at_];omega,j,by show(n:Int)<=n/\(n:Int)<_;omega,by simp[az.at_],by simp[az.at_]⟩
theorem sts_ex:∀l:List aa,shSs l=true->StsOk p loc l->WE p loc l
 |[],_,_=>λn b=>⟨[],.nil n b,YF,nofun⟩
 | x::l,h1,h2=>by rw[shSs,WZ]at h1;rw[StsOk]at h2;have G:=VQ x h1.1 h2.1;have M:=sts_ex l h1.2 h2.2;intro n b;obtain⟨u,S,Z,O⟩:=G n b;obtain⟨B,E,Y,D⟩:=M (n+1+x.cnt) (b+u.length);simp only[aa.cnts,aa.wts];rw[show n+1+x.cnt+aa.cnts l=n+(1+x.cnt+aa.cnts l) by omega]at E D;refine⟨u++B,.cons x l u B n b _ _ S E,by rw[LT];omega,?_⟩;rw[LT];exact cJ (λi j=>(O i j).mono YC YC YC YC) λi j=>(D i j).mono YC YC YC YC
end
end
end
section
theorem QI(a:Int)(l:List Int):a<=xJ a l/\∀r∈l,r<xJ a l:=by
 unfold xJ
 induction l generalizing a with
 |nil=>exact⟨Int.le_refl _,nofun⟩
 |cons x l j=>
  rw[XL];obtain⟨D,B⟩:=j (max a (x+1));refine⟨YC,λr u=>?_⟩;rcases WX.1 u with h|h
  .subst h;omega
  .exact B r h
theorem QJ{a b:Int}{l:List Int}(B:a<=b)(h:∀r∈l,r<b):xJ a l<=b:=by
 unfold xJ
 induction l generalizing a with
 |nil=>exact B
 |cons x l j=>rw[XL];have:=h x (.head _);exact j YC λr u=>h r (.tail _ u)
theorem QK(a:Int)(l:List az):a<=rV a l/\∀i∈l,∀r∈aC i,r<rV a l:=by
 unfold rV
 induction l generalizing a with
 |nil=>exact⟨Int.le_refl _,nofun⟩
 |cons x l u=>
  rw[XL];obtain⟨M,E⟩:=u (xJ a (aC x));obtain⟨G,D⟩:=QI a (aC x);refine⟨YC,λi B r j=>?_⟩;rcases WX.1 B with h|h
  .subst h;have:=D r j;omega
  .exact E i h r j
theorem QL{a b:Int}{l:List az}(j:a<=b)(h:∀i∈l,∀r∈aC i,r<b):rV a l<=b:=by
 unfold rV
 induction l generalizing a with
 |nil=>exact j
 |cons x l u=>rw[XL];exact u (QJ j (h x (.head _))) λi B=>h i (.tail _ B)
structure VR(w:aK)(t:Nat)(c:eG):Prop where
 r0:0<=c.regs
 r32:c.regs<=32
 ne:0<c.ins.length
 short:c.ins.length<2^21
 op:∀i∈c.ins,1<=i.op/\i.op<=28
 last:∀(k:Nat) (i:az),c.ins[k]? =some i->(i.op=28↔k+1=c.ins.length)
 obj:∀i∈c.ins,jh w i=true
 regs:∀i∈c.ins,∀r∈aC i,0<=r/\r<c.regs
 endS:∀i∈c.ins,i.op=28->i.site=-1
 site:∀i∈c.ins,i.op≠28->∃(k:Nat) (h:k<w.sites.length),i.site=k/\w.sites[k].thread=t
 jmp:∀i∈c.ins,i.op=5->0<=i.a/\i.a<c.ins.length
 br:∀i∈c.ins,i.op=10->0<=i.b/\i.b<c.ins.length
 lans:∀k,k<c.ins.length->eu c.ins k
def iH:Nat->List aj->List bM
 |_,[]=>[]
 |k,t::l=>sitL k 0 t.body++iH (k+1) l
theorem VS(ts:List aj):∀(w:aK),(ts.foldl el w).sites=w.sites++iH w.threads.length ts:=by
 induction ts with
 |nil=>intro w;simp[iH]
 |cons t l j=>intro w;rw[XL,j];simp[el,iH]
theorem Cb:∀(k:Nat) (ts:List aj),(iH k ts).length=bT (λt=>aa.cnts t.body) ts
 |k,[]=>rfl
 |k,t::l=>by rw[iH,LT,sitL_len,Cb (k+1) l];simp[bT]
theorem Ed:∀(ts:List aj) (k i j:Nat) (B:i<ts.length) (u:j<aa.cnts ts[i].body),(iH k ts)[bT (λt=>aa.cnts t.body) (ts.take i)+j]? =(sitL (k+i) 0 ts[i].body)[j]?
 | t::l,k,0,j,B,u=>by simp only[iH,List.take_zero,bT,Xp,Ya,Xn,List.getElem_cons_zero,XQ];rw[WW (by rw[sitL_len];exact u)]
 | t::l,k,i+1,j,B,u=>by
  have:=Ed l (k+1) i j (by simpa using B) (by simpa using u);simp only[iH,YA,XY];have e:bT (λt=>aa.cnts t.body) (t::l.take i)=aa.cnts t.body+bT (λt=>aa.cnts t.body) (l.take i):=by simp[bT]
  rw[e,WQ (by rw[sitL_len];omega),sitL_len,show aa.cnts t.body+bT (λt=>aa.cnts t.body) (l.take i)+j-aa.cnts t.body=bT (λt=>aa.cnts t.body) (l.take i)+j by omega,this,show k+1+i=k+(i+1) by omega]
section
variable {p:aY} (hd:p.decls=bD)
include hd
theorem Cc:(cC p).sites=iH 0 p.threads:=by unfold cC;rw[VS,hd];rfl
def JK(p:aY)(i:Nat):Nat:=bT (λt=>aa.cnts t.body) (p.threads.take i)
theorem QM{i k:Nat}(B:i<p.threads.length)(D:JK p i<=k)(h2:k<JK p (i+1)):∃(h:k<(cC p).sites.length),(cC p).sites[k].thread=i:=by
 unfold JK at D h2;rw[dI B]at h2;have u:k-bT (λt:aj=>aa.cnts t.body) (p.threads.take i)<aa.cnts p.threads[i].body:=by omega
 have:=Ed p.threads 0 i _ B u;rw[show bT (λt:aj=>aa.cnts t.body) (p.threads.take i)+(k-bT (λt:aj=>aa.cnts t.body) (p.threads.take i))=k by omega,Xn,<-Cc hd]at this;have j:k-bT (λt:aj=>aa.cnts t.body) (p.threads.take i)<(sitL i 0 p.threads[i].body).length:=by rw[sitL_len];exact u
 rw[mt j]at this;obtain⟨h,e⟩:=Xm.1 this;exact⟨h,by rw[e];exact(sitL_at i 0 _ _ j).1⟩
theorem Pd(hp:i5 p)(hw:p.wt<=200000):∃(cs:Nat->List az) (O:List eG),O8 p (JK p) cs O/\∀i (h:i<O.length),VR (cC p) i O[i]:=by
 have hbw:∀i (h:i<p.threads.length),aa.wts p.threads[i].body<=200000:=λi h=>by have:=p.thread_wt h;unfold aj.wt at this;omega
 have M:∀i (h:i<p.threads.length),p.threads[i].locals.length<=4:=λi h=>(hp.threads.locals i h).few
 have hsh:∀i (h:i<p.threads.length),shSs p.threads[i].body=true:=λi h=>by have E:=hp.shaped;unfold Pj at E;simp only[WZ]at E;have Y:=W2.1 E.2.1 _ (WN h);unfold QA at Y;simp only[WZ]at Y;rw[zK];exact Y.2.2
 have hnx:∀i (h:i<p.threads.length),JK p (i+1)=JK p i+aa.cnts p.threads[i].body:=λi h=>dI h
 have hfew:∀i,JK p i<2^20:=λi=>by have E:=oq (λt:aj=>aa.cnts t.body) p.threads i;have Y:=hp.stmts;unfold JK;omega
 have hall:∀i:Nat,∃c:List az,c.length<2^20/\∀h:i<p.threads.length,StsC (cC p) p.threads[i].locals p.threads[i].body (JK p i) 0 c (JK p (i+1))/\∀x∈c,RI (cC p) (JK p i) (JK p (i+1)) 0 c.length x:=λi=>by
  by_cases h:i<p.threads.length
  .obtain⟨c,E,Y,h3⟩:=sts_ex hd (M i h) p.threads[i].body (hsh i h) (hp.sts i h) (JK p i) 0;have:=hbw i h;rw[<-hnx i h]at E h3;exact⟨c,YC,λ_=>⟨E,by simpa using h3⟩⟩
  .exact⟨[],YF,λg=>absurd g h⟩
 obtain⟨cs,D⟩:=Classical.axiomOfChoice hall;have B:∀i,i<p.threads.length->∀x∈cs i++[ov],∀r∈aC x,0<=r/\r<16:=λi h=>cJ (λx j=>(((D i).2 h).2 x j).regs) (cK (by simp[aC,ov]))
 refine⟨cs,p.threads.mapIdx λi t=>Mn t.locals (cs i),⟨by simp[JK,bT],YF,λi h=>((D i).2 h).1,λi h=>by simp,λi=>(D i).1,hfew,λi h x j r Z=>by have:=B i h x j r Z;omega⟩,λi h=>?_⟩;have hi:i<p.threads.length:=by simpa using h
 obtain⟨hS,S⟩:=(D i).2 hi;rw[List.getElem_mapIdx];have hR:=QK p.threads[i].locals.length (cs i++[ov]);have hm:∀x∈cs i++[ov],x∈cs i\/x=ov:=λx j=>by
  rcases WM.1 j with h|h
  .exact .inl h
  .exact .inr (WP.1 h)
 refine⟨?_,?_,?_,?_,?_,?_,?_,?_,?_,?_,?_,?_,?_⟩
 .show 0<=rV _ _;omega
 .show rV _ _<=32;exact QL (by have:=M i hi;omega) λx j r Z=>by have:=B i hi x j r Z;omega
 .simp[Mn]
 .have:=(D i).1;simp[Mn];omega
 .intro x j;rcases hm x j with h|rfl
  .have:=(S x h).op;omega
  .exact⟨YG,YG⟩
 .intro k x hk;have u:(cs i++[ov])[k]? =some x:=hk;have hlen:(Mn p.threads[i].locals (cs i)).ins.length=(cs i).length+1:=by simp[Mn]
  rw[hlen];rcases Fn k (cs i).length with g|g
  .rw[WW g]at u;have:=(S x (XC u)).op;constructor<;>intro<;>omega
  .rw[WQ g]at u;have:k-(cs i).length=0:=by
    rcases XH (k-(cs i).length)with e|e
    .exact e
    .rw[ST YH]at u;cases u
   rw[this]at u;cases u;constructor
   .intro;omega
   .intro;rfl
 .intro x j;rcases hm x j with h|rfl
  .exact(S x h).obj
  .rfl
 .intro x j r Z;exact⟨(B i hi x j r Z).1,hR.2 x j r Z⟩
 .intro x j G;rcases hm x j with h|rfl
  .have:=(S x h).op;omega
  .rfl
 .intro x j G;rcases hm x j with h|rfl
  .have hs:=(S x h).site;obtain⟨E,Y⟩:=QM hd hi (k:=x.site.toNat) YC YC;exact⟨x.site.toNat,E,YC,Y⟩
  .exact absurd rfl G
 .intro x j G;rcases hm x j with h|rfl
  .have:=(S x h).jmp G;simp[Mn];omega
  .cases G
 .intro x j G;rcases hm x j with h|rfl
  .have:=(S x h).br G;simp[Mn];omega
  .cases G
 .have hst:hD (cs i++[ov]) (cs i) 0:=λk x hk=>by rw[Xn,WW (Xm.1 hk).1];exact hk
  have hend:eu (cs i++[ov]) (0+(cs i).length):=qW (i:=ov) (by rw[Xn,WQ (Fd _),X9];rfl) YG;have hA:=TV.2 hS hst hend;intro k hk;have u:k<(cs i++[ov]).length:=hk;exact hA k (Xq _) (by simp at u;omega)
end
end
def JL(s:UInt8):∀a∈eJ s,cE a:=λa h=>by rw[WP.1 h];exact .int _ _
structure Pe(t:List UInt8)(p:aY)(cs:Nat->List az)(c:aL):Prop where
 prog:ao Tryz.prog 7 [.lst (t.map eJ)] (.agg p.enc)
 code:ao Tryz.prog 8 [.lst (t.map eJ)] (.agg c.enc)
 decls:p.decls=bD
 names:B7 p
 ok:i5 p
 w:c.w=cC p
 codes:O8 p (JK p) cs c.ts
 valid:∀i (h:i<c.ts.length),VR c.w i c.ts[i]
def QN(t:List UInt8)(ht:t.length<2^40):∃p cs c,Pe t p cs c:=by
 obtain⟨v,K,⟨p,rfl,rfl,O,hp,E,D,j⟩,hprog⟩:=(QG t YC).pure (by simp only[Xk,Xv,false_implies,implies_true,and_true];exact .lmap λx _=>JL x) (λu K ⟨p,G,_⟩=>by rw[G];exact p.pure);obtain⟨cs,B,Y,hV⟩:=Pd E hp O;have hs:∀i (h:i<p.threads.length),JB (cC p) p.threads[i].locals:=λi h=>by obtain⟨G,h2,h3,h4,h5⟩:=FQ E;have:=(hp.threads.locals i h).few;have:=hp.few;exact⟨by rw[G];decide,by rw[h2];decide,by rw[h3];decide,by rw[h4];decide,by rw[h5];simp;omega,YC⟩
 have hP:=JH p hp D O Y hs;refine⟨p,cs,⟨cC p,B⟩,hprog,?_,E,j,hp,rfl,Y,hV⟩;refine ac.fz (FE _ _ _ ?_);refine vw ?_;generalize S:(λ(v:AV) (L:SH)=>∃M Z,aE [v] L [M] Z/\M=AV.agg (aL.enc ⟨cC p,B⟩)/\Z=[])=Q;have hq:∀L,Q (.agg (aL.enc ⟨cC p,B⟩)) L:=λL=>by subst S;exact⟨_,[],aE.all (.refl _),rfl,rfl⟩
 clear S
 repeat' (first|refine sy ?_|refine s2 ?_ ?_|intro)
 exact hq _
def Cd{n:Nat}(B:List bM):∀(A:List bM) (t x:Int),t<n->(∀k (h:k<A.length),A[k].thread=t/\A[k].stmt=x+k)->mL n t (x+A.length) B->mL n t x (A++B)
 |[],t,x,_,_,h=>by simpa using h
 | s::A,t,x,ht,hA,h=>by
  have j:=hA 0 YF;simp only[List.getElem_cons_zero,Int.natCast_zero,Int.add_zero]at j;refine⟨YC,YC,?_,?_⟩
  .rw[if_neg YC];exact j.2
  .rw[j.1,j.2];refine Cd B A t (x+1) ht (λk u=>?_) ?_
   .have:=hA (k+1) (by simpa using u);simp only[XY]at this;exact⟨this.1,by rw[this.2];omega⟩
   .rw[WO]at h;rw[show x+1+(A.length:Int)=x+((A.length+1:Nat):Int) by omega];exact h
def Mg{n:Nat}(A B:List bM)(t x u:Int)(G:t<u)(E:u<n)(D:∀k (h:k<A.length),A[k].thread=u/\A[k].stmt=(k:Int))(O:A=[]->mL n t x B)(h2:mL n u (A.length:Int) B):mL n t x (A++B):=by
 cases A with
 |nil=>exact O rfl
 |cons s A=>
  have j:=D 0 YF;simp only[List.getElem_cons_zero,Int.natCast_zero]at j;refine⟨YC,YC,?_,?_⟩
  .rw[if_pos YC];exact j.2
  .rw[j.1,j.2];refine Cd B A u (0+1) E (λk M=>?_) ?_
   .have:=D (k+1) (by simpa using M);simp only[XY]at this;exact⟨this.1,by rw[this.2];omega⟩
   .rw[WO]at h2;rw[show(0:Int)+1+(A.length:Int)=((A.length+1:Nat):Int) by omega];exact h2
def Ce{n:Nat}:∀(ts:List aj) (k:Nat) (t x:Int),t<(k:Int)->k+ts.length<=n->mL n t x (iH k ts)
 |[],k,t,x,_,_=>trivial
 | th::l,k,t,x,htk,hn=>by rw[iH];rw[WO]at hn;refine Mg _ _ t x k htk YC (λj u=>?_) (λ_=>Ce l (k+1) t x YC YC) (Ce l (k+1) k _ YC YC);have:=sitL_at k 0 th.body j u;exact⟨this.1,by rw[this.2,Xn]⟩
def Mh(ts:List aj):mL ts.length 0 0 (iH 0 ts):=by
 cases ts with
 |nil=>trivial
 |cons u l=>rw[iH];refine Cd _ _ 0 0 YF (λj B=>?_) (Ce l 1 0 _ YC YH);have:=sitL_at 0 0 u.body j B;exact⟨this.1,by rw[this.2];simp⟩
def Mi{p:aY}(O:p.decls=bD)(Z:B7 p)(hp:i5 p):uU (cC p):=by
 obtain⟨Y,D,B,G,u⟩:=FQ O;obtain⟨k,k1,k4,j⟩:=Z.1;have S:=Cc O;have M:(cC p).threads.length=k:=by rw[u,j];simp[mb];omega
 have E:p.threads.length=k:=by rw[<-M,u,Xd]
 refine⟨by rw[Y];decide,by rw[D];decide,by rw[B];decide,by rw[G];decide,?_,YC,YC,?_,?_,?_⟩
 .rw[S,Cb];exact hp.stmts
 .refine⟨[[120],[121],[118],[113]],?_,?_,?_⟩
  .rw[Y];refine .one _ _ _ rfl rfl (.one _ _ _ rfl rfl (.one _ _ _ rfl rfl (.arr _ _ _ YG ⟨YG,YG,YG,λk j=>?_⟩ .nil)))
   match k,j with
   |0,_=>rfl
   |1,_=>rfl
   |k+2,j=>exact absurd j (by show¬((k+2:Nat):Int)<2;omega)
  .unfold eD;rw[D,B,G,u,j];rcases(by omega:k=1\/k=2\/k=3\/k=4)with rfl|rfl|rfl|rfl
   all_goals decide
  .unfold eD;rw[D,B,G,u,j];rcases(by omega:k=1\/k=2\/k=3\/k=4)with rfl|rfl|rfl|rfl
   all_goals decide
 .rw[B];unfold jB;rw[D];decide
 .rw[M,S,<-E];exact Mh p.threads
def Mj{t:List UInt8}{p:aY}{cs:Nat->List az}{c:aL}(h:Pe t p cs c)(B:c.ts.length=c.w.threads.length):fy c:=by
 refine⟨by rw[h.w];exact Mi h.decls h.names h.ok,B,λi M=>?_⟩;have V:=h.valid i M;refine⟨V.r0,V.r32,V.ne,λk E=>?_,V.lans⟩;have u:=WN E;have D:=λg=>V.site _ u g
 refine⟨(V.op _ u).1,(V.op _ u).2,V.last k _ (mt E),V.endS _ u,λg=>?_,λg=>?_,V.regs _ u,V.obj _ u,?_⟩
 .obtain⟨j,G,e,_⟩:=D g;exact aw.2 ⟨YC,YC⟩
 .obtain⟨j,G,e,O⟩:=D g;rw[e,Xx];simpa[G]using O
 .unfold AH;split
  .next g=>exact aw.2 (V.jmp _ u g)
  .split
   .next g=>exact aw.2 (V.br _ u g)
   .rfl
def Cf(t:List UInt8)(h:t.length<2^40):∃c:aL,ao Tryz.prog 8 [.lst (t.map eJ)] (.agg c.enc)/\(∀x∈c.ts,x.ins.length<2^40)/\fy c:=by
 obtain⟨p,B,c,H⟩:=QN t h;refine⟨c,H.code,λx j=>?_,Mj H ?_⟩
 .obtain⟨i,u,rfl⟩:=XJ j;have:=(H.valid i u).short;omega
 .rw[H.codes.len,H.w,(FQ H.decls).2.2.2.2,Xd]
