/- part -/
import Derived.Test.YtfckbjehkbhkgaaGreatQwD
import Derived.Test.YtfckbjehkbhkgaaGreatQwE
set_option linter.all false
set_option maxRecDepth 100000
set_option maxHeartbeats 0
namespace Go.Proofs.YtfckbjehkbhkgaaGreat.Am
def uW(w:aF)(ev:List bA):(⟨w,ev⟩:el).enc=[.lst (w.cells.map aU.enc),.lst (w.locks.map bZ.enc),.lst (w.conds.map cM.enc),.lst (w.futures.map ay),.lst (w.threads.map ay),.lst (w.sites.map cF.enc),.lst (ev.map bA.enc)]:=rfl
structure nS(w:aF)(s:gO)(n:Nat):Prop where
 lk:s.sync.locks.length=w.locks.length
 dn:s.sync.done.length=w.futures.length
 th:s.sync.threads.length=w.threads.length
 ce:s.cells.length=w.cells.length
 fu:s.futures.length=w.futures.length
 ct:s.count.length=w.threads.length
 rd:∀l∈s.sync.locks,l.readers.length<=n
def uX(w:aF):nS w (bG w) 0:=⟨by simp[bG,bM],by simp[bG,bM],by simp[bG,bM],by simp[bG],by simp[bG],by simp[bG],(yS w).2⟩
def GM{w:aF}{s:gO}{n:Nat}{e:bA}(H:nS w s n)(B:H7 w s e=true):nS w (gW w s e) (n+1):=by
 have u:=(hM.1 B).en;have j:=rT (w:=w) (t:=e.thread) (k:=e.kind) (o:=e.obj) (wake:=if e.kind=18 then e.value else -1) H.rd;unfold gW;rw[(uH u).1];refine⟨by dsimp only;rw[j.lk];exact H.lk,by dsimp only;rw[j.dn];exact H.dn,by dsimp only;rw[j.th];exact H.th,?_,?_,by simp[H.ct],j.rd⟩
 .dsimp only;split<;>simp[H.ce]
 .dsimp only;split<;>simp[H.fu]
def nT{w:aF}:∀(l:List bA) {s:gO} {n:Nat},nS w s n->jQ w s l->nS w (cf w s l) (n+l.length)
 |[],s,n,H,_=>H
 | e::l,s,n,H,hp=>by have:=nT l (GM H hp.1) hp.2;rw[abi,show n+(l.length+1)=n+1+l.length by omega];exact this
def rE{w:aF}{s:gO}{n:Nat}(W:oK w)(u:n<=1000)(H:nS w s n):CJ w s.sync:=⟨by have:=W.d2;omega,by rw[H.lk];have:=W.l4;omega,by rw[H.dn];have:=W.f2;omega,by rw[H.th];have:=W.t4;omega,λl j=>by have:=H.rd l j;omega⟩
structure XG(w:aF)(ev:List bA)(k:Nat):Prop where
 play:jQ w (bG w) (ev.take k)
 rds:∀(j:Nat) (hj:j<ev.length),j<k->∀d,d∈ev[j].deps\/d∈ev[j].frm->FN ev j ev[j].thread d
def Sz{w:aF}{ev:List bA}{k:Nat}(D:k<ev.length)(H:XG w ev k)(B:H7 w (cf w (bG w) (ev.take k)) ev[k]=true)(M:∀d∈ev[k].deps,FN ev k ev[k].thread d)(h2:∀d∈ev[k].frm,FN ev k ev[k].thread d):XG w ev (k+1):=by
 refine⟨?_,λj G E d u=>?_⟩
 .rw[Fn D,jd];exact⟨H.play,B,trivial⟩
 .rcases LE j k with g|g
  .exact H.rds j G g d u
  .obtain rfl:j=k:=by omega
   rcases u with u|u
   .exact M d u
   .exact h2 d u
def MU(w:aF)(ev:List bA)(hE:∀e∈ev,wO e)(hl:ev.length<=400):ac Tryz.prog 67 [.agg (⟨w,ev⟩:el).enc] [] λv L=>∃i e:Int,v=.tup [.acU i,.acU e]/\L=[]/\(e=0->K4 w ev):=by
 have hv:=yB w;refine ac.fz (Dv _ _ _ ?_);refine vw ?_;generalize hQ:(λ(v:AV) (L:SH)=>∃v2 L2,ax [v] L [v2] L2/\∃i e:Int,v2=.tup [.acU i,.acU e]/\L2=[]/\(e=0->K4 w ev))=Q;have N:∀(i e:Int) L,(e=0->K4 w ev)->Q (.tup [.acU i,.acU e]) L:=λi e L h=>by subst hQ;exact⟨_,[],ax.all (.refl _),i,e,rfl,rfl,h⟩
 clear hQ;have d0:decide ((400:Int)<(ev.length:Int))=false:=decide_eq_false acN;by_cases E:oK w
 .rw[iG E]at hv;have hst:=o7 w (by have:=E.l4;omega) (by have:=E.f2;omega) (by have:=E.t4;omega) (by have:=E.c12;omega);rw[dO,uW]at *;have lp:∀Y:Nat,W.loop (Du Q) [.pptr [(⟨w,ev⟩:el).enc] 0 0,.ptr Y 0 0,.acU (0:Nat)] [(Y,⟨7,[(bG w).enc]⟩)]:=by
   intro Y;refine JT ev.length (XG w ev) (λk=>([.pptr [(⟨w,ev⟩:el).enc] 0 0,.ptr Y 0 0,.acU k],[(Y,⟨7,[(cf w (bG w) (ev.take k)).enc]⟩)])) acN ⟨trivial,λj _ h=>absurd h acN⟩ rfl rfl (λk O hd hkk hP nx G=>?_) (λk O hd hP nx=>?_)
   all_goals refine vw ?_
   .have hx:=aj (f:=bA.enc) O;have he:=hE _ (LT O);have hL:nS w (cf w (bG w) (ev.take k)) k:=by have:=nT (ev.take k) (uX w) hP.play;rw[show 0+(ev.take k).length=k by simp;omega]at this;exact this
    have u:=nR w (cf w (bG w) (ev.take k)) ev[k] (rE E acN hL) (by have:=he.1;omega) (by have:=he.2;omega) (by rw[hL.ce];have:=E.c12;omega) (by rw[hL.fu];have:=E.f2;omega) (by rw[hL.ct];have:=E.t4;omega);have r1:=DR ev k ev[k].thread ev[k].deps acN acN (by have:=he.1;omega);have r2:=DR ev k ev[k].thread ev[k].frm acN acN (by have:=he.2;omega);have D:∀(e:Int) (L:SH),e≠0->Q (.tup [.acU k,.acU e]) L:=λe L h=>N _ _ L λg=>absurd g h
    have B:=Sz O hP;have Z:cf w (bG w) (ev.take (k+1))=gW w (cf w (bG w) (ev.take k)) ev[k]:=by rw[Fn O,i9]
    rw[Z]at G;clear N Z;unfold px at u;cases ho:H7 w (cf w (bG w) (ev.take k)) ev[k]with
    |false=>
     rw[ho,if_neg acR]at u;clear G B r1 r2;generalize ev[k]=e at *;generalize cf w (bG w) (ev.take k)=s at *;rw[eH]at hx u;unfold yW gO.zero at u;dsimp only at u;rw[dO,uW,dL,dL]at *
     repeat' (first|refine sy ?_|refine s2 ?_ ?_|intro)
     exact D _ _ (show(_:Int)≠0 from by decide)
    |true=>
     rw[ho,if_pos rfl]at u;have B:=B ho;by_cases M:∀d∈ev[k].deps,FN ev k ev[k].thread d
     .rw[iG M]at r1;by_cases S:∀d∈ev[k].frm,FN ev k ev[k].thread d
      .rw[iG S]at r2;have G:=G (B M S);clear D B M S;generalize gW w (cf w (bG w) (ev.take k)) ev[k]=s2 at *;generalize ev[k]=e at *;generalize cf w (bG w) (ev.take k)=s at *;rw[eH]at hx u;unfold yW at u;dsimp only at u;rw[dO,uW,dL,dL]at *
       repeat' (first|refine sy ?_|refine s2 ?_ ?_|intro)
       refine G _ _ ?_;exact ax.pickE rp rfl rfl
      .rw[gU S]at r2;clear G B M S;generalize gW w (cf w (bG w) (ev.take k)) ev[k]=s2 at *;generalize ev[k]=e at *;generalize cf w (bG w) (ev.take k)=s at *;rw[eH]at hx u;unfold yW at u;dsimp only at u;rw[dO,uW,dL,dL]at *
       repeat' (first|refine sy ?_|refine s2 ?_ ?_|intro)
       exact D _ _ (show(_:Int)≠0 from by decide)
     .rw[gU M]at r1;clear G B M;generalize gW w (cf w (bG w) (ev.take k)) ev[k]=s2 at *;generalize ev[k]=e at *;generalize cf w (bG w) (ev.take k)=s at *;rw[eH]at hx u;unfold yW at u;dsimp only at u;rw[dO,uW,dL,dL]at *
      repeat' (first|refine sy ?_|refine s2 ?_ ?_|intro)
      exact D _ _ (show(_:Int)≠0 from by decide)
   .have hz:∀L,Q (.tup [.acU 0,.acU 0]) L:=λL=>N _ _ L λ_=>by have hp:=hP.play;rw[O,aaT (Fd _)]at hp;exact⟨E,hp,hl,λj hj d hd=>hP.rds j hj acN d hd⟩
    clear N;rw[uW]at *
    repeat' (first|refine sy ?_|refine s2 ?_ ?_|intro)
    exact hz _
  clear N
  repeat' (first|refine sy ?_|refine s2 ?_ ?_|intro)
  exact lp _
 .rw[gU E]at hv;have hz:=N 0 1;rw[dO,uW]at *
  repeat' (first|refine sy ?_|refine s2 ?_ ?_|intro)
  exact hz _ nofun
section
theorem an{P:Prop}(h:P:=by first|assumption|exact nofun|fail):P:=h
theorem om{P:Prop}(h:P:=by omega):P:=h
def nX(f:FuncId)(args:List AV)(w:aF)(loc:List bU)(k:Nat):Prop:=∀(bg:Nat) (o:Option Nat) (out:List cb) (site next:Int),(o=none->out=[])->out.length+k<2^30->
 ac Tryz.prog f (.ptr bg 0 0::args) ((bg,iM w loc (af o out.length) site next)::ab o 6 (out.map cb.enc)) λu K=>∃(o':Option Nat) (out':List cb) (site' next':Int),u=.tup []/\(o'=none->out'=[])/\out.length<=out'.length/\out'.length<=out.length+k/\K=(bg,iM w loc (af o' out'.length) site' next')::ab o' 6 (out'.map cb.enc)
section
variable {f:FuncId} {args:List AV} {w:aF} {loc:List bU} {k m bg:Nat} {o:Option Nat} {out:List cb} {site next:Int} {L L1 L2:SH} {KL:R}
theorem eF(h:nX f args w loc k)(h1:dF bg (iM w loc (af o m) site next) L L1)(h2:eG o 6 (out.map cb.enc) L1 L2)(O:m=out.length)(h0:o=none->out=[])(S:out.length+k<2^30)
  (N:∀(D:Option Nat) (j:List cb) (u B:Int),(D=none->j=[])->out.length<=j.length->j.length<=out.length+k->KL (.tup []) ((bg,iM w loc (af D j.length) u B)::(L2++ab D 6 (j.map cb.enc)))):W.callM Tryz.prog f (.ptr bg 0 0::args) L KL:=by
 subst O;refine oW (M:=L2) (h bg o out site next h0 S) (h1.perm.trans (h2.perm.cons _)) ?_;rintro _ _ ⟨D,j,E,G,rfl,h3,Z,Y,rfl⟩;exact⟨_,.cons _ aar,N D j E G h3 Z Y⟩
theorem rJ{b:Nat}(h:nX f args w loc k)(h1:dF bg (iM w loc (af (some b) m) site next) L L1)(h2:eG (some b) 6 (out.map cb.enc) L1 L2)(S:m=out.length)(hp:0<out.length)(Y:out.length+k<2^30)
  (O:∀(D:Nat) (j:List cb) (u B:Int),out.length<=j.length->j.length<=out.length+k->KL (.tup []) ((bg,iM w loc (af (some D) j.length) u B)::(L2++ab (some D) 6 (j.map cb.enc)))):W.callM Tryz.prog f (.ptr bg 0 0::args) L KL:=by
 refine eF h h1 h2 S nofun Y λM j G N h3 E Z=>?_
 rcases M with _|D
 .have:=h3 rfl;subst this;have h6:out.length<=0:=E;omega
 .exact O D j G N E Z
theorem fh{M G E D B u:Int}(Y:dF bg (iM w loc (af o m) site next) L L1)(h2:eG o 6 (out.map cb.enc) L1 L2)(O:m=out.length)(Z:o=none->out=[])(S:out.length<2^30)
  (N:∀(b:Nat) (j:List cb),j.length=out.length+1->KL (.tup []) ((bg,iM w loc (af (some b) j.length) site next)::(L2++ab (some b) 6 (j.map cb.enc)))):W.callM Tryz.prog 126 [.ptr bg 0 0,.agg [.acU M,.acU G,.acU E,.acU D,.acU B,.acU u]] L KL:=by
 subst O;exact XV (i:=⟨M,G,E,D,B,u⟩) Y h2 Z S λb=>N b _ acQ
theorem zf{Q:R}
  (N:(λ(v:AV) (L:SH)=>∃v2 L2,ax [v] L [v2] L2/\∃(E:Option Nat) (u:List cb) (B D:Int),v2=.tup []/\(E=none->u=[])/\out.length<=u.length/\u.length<=out.length+k/\L2=(bg,iM w loc (af E u.length) B D)::ab E 6 (u.map cb.enc))=Q)
  (E:Option Nat) (u:List cb) (B D:Int) (j:Nat) (L:SH) (h:cO L ((bg,iM w loc (af E j) B D)::ab E 6 (u.map cb.enc))) (M:j=u.length) (G:E=none->u=[]) (O:out.length<=u.length) (h2:u.length<=out.length+k):Q (.tup []) L:=by
 subst N M;exact⟨_,_,ax.pick h rfl,E,u,B,D,rfl,G,O,h2,rfl⟩
theorem nX.mono{B:Nat}(h:nX f args w loc k)(O:k<=B):nX f args w loc B:=λbg o out site next M N=>(h bg o out site next M acN).mono λu K ⟨E,j,D,G,a,b,c,d,e⟩=>⟨E,j,D,G,a,b,c,acN,e⟩
theorem IJ{K:AV->Prop}(h:K (.acU (out.length:Int)))(j:o=none->out=[]:=by assumption):W.len (af o out.length) K:=A6 h λe=>by rw[j e];rfl
end
theorem XW{op:Int}{name:bU}{n:Nat}(h:BP op name n+z0 op<2^50):op≠0/\(n=0->op=1\/op=2)/\(op=3->name=[113]):=by
 unfold BP z0 z3 at h;refine⟨λe=>?_,λe=>?_,λe=>?_⟩
 .rw[if_pos e]at h;omega
 .rw[if_pos e]at h;by_cases g:op=0\/op=1\/op=2
  .rcases g with g|g|g
   .rw[if_pos g]at h;omega
   .exact .inl g
   .exact .inr g
  .rw[if_neg g]at h;omega
 .by_cases g:name=[113]
  .exact g
  .rw[if_neg g,if_pos e]at h;omega
theorem Vb:∀(l:List aB) (h:1<l.length),(l[0]'acN).wt+l[1].wt<=aB.wts l
 |x::y::l,_=>by simp only[aB.wts,List.getElem_cons_zero,List.getElem_cons_succ];omega
structure WQ(w:aF):Prop where
 c:w.cells.length<2^40
 l:w.locks.length<2^40
 d:w.conds.length<2^40
 f:w.futures.length<2^40
 t:w.threads.length<2^40
 q:∃b:Nat,b<w.cells.length/\wE w.cells [113]=b
section
variable {w:aF} {loc:List bU} (hw:WQ w) (hlo:loc.length<2^40)
include hw hlo
theorem Be:∀(n:Nat) (e:aB) (d:Int),e.wt+z0 e.op<=n->n<2^29->nX 186 [.agg e.row,.acU d] w loc e.wt:=by
 intro n
 induction n using Nat.strongRecOn with
 |_ n ih=>
 intro e d hn hn2 bg o out site next h0 hl
 have hwe:=e.wt_eq;have B:∀(i:Nat) (h:i<e.l.length) (d:Int),nX 186 [.agg e.l[i].row,.acU d] w loc e.l[i].wt:=λi h d=>ih _ (by have:=aB.wts_get0 e.l i h;omega) e.l[i] d (Fd _) (by have:=aB.wts_get0 e.l i h;omega)
 have Z:=aB.wts_get0 e.l;have D:=Vb e.l;have O:=λ(i:Nat) (h:i<e.l.length)=>BO h;obtain⟨b1,b2,Y⟩:=XW (op:=e.op) (name:=e.name) (n:=e.l.length) acN;have ha:=KW loc e.name acN;have hc:=GS w e.name (by have:=hw.c;omega);refine ac.fz (uZ _ _ _ _ _ ?_);refine vw ?_;generalize hQ:(λ(v:AV) (L:SH)=>∃v2 L2,ax [v] L [v2] L2/\∃(o':Option Nat) (out':List cb) (site' next':Int),_)=Q;have fin:=zf hQ;clear hQ;unfold aB.row;clear ih hn;generalize e.l=l at *;generalize e.op=op at *;generalize e.name=name at *;by_cases p1:op=1
 .subst p1
  repeat' (first|refine sy ?_|((with_reducible refine aN 126 ?_);(refine fh rp rp om an om (λS j u=>?_)))|refine s2 ?_ ?_|intro)
  exact fin _ _ _ _ _ _ (.one (.here _) (.slotl .last)) om an om om
 by_cases p2:op=2
 .subst p2
  repeat' (first|refine sy ?_|((with_reducible refine aN 126 ?_);(refine fh rp rp om an om (λS j u=>?_)))|((with_reducible refine cy 126 ?_);refine oX ?_;refine fh rp rp om an om (λS j u ks_=>?_))|refine s2 ?_ ?_|intro)
  all_goals exact fin _ _ _ _ _ _ (.one (.here _) (.slotl .last)) om an om om
 have d1:decide (op=1)=false:=decide_eq_false p1;have d2:decide (op=2)=false:=decide_eq_false p2;have N:0<l.length:=by
  rcases abZ l.length with h|h
  .rcases b2 h with h|h
   .exact absurd h p1
   .exact absurd h p2
  .exact h
 have k0:=B 0 N;have x0:=O 0 N;have g0:=Z 0 N;by_cases p3:op=3
 .subst p3;obtain⟨b,hb,hcb⟩:=hw.q;rw[Y rfl,hcb]at hc;have e3:=Y rfl;subst e3;have hxc:=aj (f:=aU.enc) hb;clear B Z D O b1 b2 Y;generalize l[0]=a at *
  repeat' (first|refine sy ?_|((with_reducible refine aN 186 ?_);(refine eF (k0 _) rp rp om an om (λo_ j s_ n_ E u G=>?_)))|((with_reducible refine aN 126 ?_);(refine fh rp rp om an om (λS j u=>?_)))|refine s2 ?_ ?_|intro)
  exact fin _ _ _ _ _ _ (.one (.here _) (.slotl .last)) om an om om
 have d3:decide (op=3)=false:=decide_eq_false p3;by_cases p4:l.length=1
 .have d4:decide ((l.length:Int)=1)=true:=decide_eq_true acN;clear B Z D O b1 b2 Y;generalize l[0]=a at *
  repeat' (first|refine sy ?_|((with_reducible refine aN 186 ?_);(refine eF (k0 _) rp rp om an om (λo_ j s_ n_ E u G=>?_)))|((with_reducible refine aN 126 ?_);(refine fh rp rp om an om (λS j u=>?_)))|refine s2 ?_ ?_|intro)
  exact fin _ _ _ _ _ _ (.one (.here _) (.slotl .last)) om an om om
 .have d4:decide ((l.length:Int)=1)=false:=decide_eq_false acN;have M:1<l.length:=by omega
  have k1:=B 1 M;have x1:=O 1 M;have g1:=D M;clear B Z D O b1 b2 Y;generalize l[0]=a at *;generalize l[1]=c at *
  repeat' (first|refine sy ?_|((with_reducible refine aN 186 ?_);(refine eF (k0 _) rp rp om an om (λo_ j s_ n_ E u G=>?_)))|((with_reducible refine aN 186 ?_);(refine eF (k1 _) rp rp om an om (λo_ j s_ n_ E u G=>?_)))|((with_reducible refine aN 126 ?_);(refine fh rp rp om an om (λS j u=>?_)))|refine s2 ?_ ?_|intro)
  exact fin _ _ _ _ _ _ (.one (.here _) (.slotl .last)) om an om om
end
end
def P9(b:UInt8):aD:=⟨(b.toNat:Int).tmod 4,((b.toNat:Int).tdiv 4).tmod 5-1⟩
def Yg(b:UInt8):IntKind.i64.wrap (((b.toNat:Int).tdiv 4).tmod 5-1)=((b.toNat:Int).tdiv 4).tmod 5-1:=by
 have h:(b.toNat:Int)<256:=by have:=b.toNat_lt;omega
 have j:((b.toNat:Int).tdiv 4).tmod 5=((b.toNat:Int) / 4) % 5:=by rw[Int.tdiv_eq_ediv_of_nonneg acN,Int.tmod_eq_emod_of_nonneg acN]
 rw[abg _ (by rw[j];omega)]
def Lt(t:List UInt8)(ht:t.length<2^20):aq Tryz.prog 66 [.lst (t.map aY)] (.lst ((t.map P9).map aD.enc)):=by
 refine OY λQ S=>AR _ _ _ ?_
 refine vw ?_;refine aL t.length (λk (o:Option Nat)=>([.lst (t.map aY),af o k,.acU k],ab o 2 (((t.take k).map P9).map aD.enc))) (λk o=>o=none->k=0) none (λ_=>rfl) (ax.drop (K:=[]) (.refl _) rfl (fy.at_ (.cons (.refl _) (.cons .nile (.cons (.refl _) .nil)))).2) ?_;intro k o hk Y;dsimp only;refine vw ?_;rcases Nat.lt_or_ge k t.length with u|u
 .have hd:=aS u;have hx:=aj (f:=aY) u;have M:t.take (k+1)=t.take k++[t[k]]:=Fn u;have N:o=none->((t.take k).map P9).map aD.enc=[]:=λe=>by rw[Y e];rfl
  have hl:((t.take k).map P9).length=k:=by simp;omega
  generalize t[k]=b at *;have hb:(b.toNat:Int)<256:=by have:=b.toNat_lt;omega
  have w1:IntKind.i64.wrap (b.toNat:Int)=(b.toNat:Int):=abg _ acN;have w2:=Yg b;have fin:∀(E:Nat) (L:SH),cO L (ab (some E) 2 (((t.take k).map P9).map aD.enc++[(P9 b).enc]))->∃(j:Nat) (G:Option Nat),k<j/\j<=t.length/\(G=none->j=0)/\ax [.lst (t.map aY),.sl E 0 (k+1),.acU (IntKind.i64.wrap ((k:Int)+1))] L [.lst (t.map aY),af G j,.acU j] (ab G 2 (((t.take j).map P9).map aD.enc)):=by intro E L hL;refine⟨k+1,some E,acN,acN,nofun,?_⟩;rw[av u acN];exact ax.pickE hL rfl (by rw[M];simp)
  rw[show(P9 b).enc=[.acU ((b.toNat:Int).tmod 4),.acU (((b.toNat:Int).tdiv 4).tmod 5-1)]from rfl]at fin;rw[show aY b=[.int .u8 (b.toNat:Int)]from rfl]at hx;clear S;generalize hX:((t.take k).map P9).map aD.enc=X at *;have hXl:X.length=k:=by rw[<-hX];simp;omega
  repeat' (first|refine sx ?_|refine aM rp rp acN N acP acQ acS acS acP (λB D=>?_)|refine sb λB D=>?_|refine s2 ?_ ?_|intro)
  have Z:IntKind.i64.wrap ((b.toNat:Int).tdiv 4)=(b.toNat:Int).tdiv 4:=by rw[Int.tdiv_eq_ediv_of_nonneg acN];exact abg _ acN
  simp only[w1,Z,w2];exact fin B _ rp
 .have hd:=aW u;have O:k=t.length:=by omega
  subst O;rw[aaT (Fd _)];have fin:∀L,(∀q∈ab o 2 ((t.map P9).map aD.enc),q∈L)->Q (af o t.length) L:=λL hm=>by
   refine S _ _ ?_;cases o with
   |none=>have:t=[]:=abU.1 (Y rfl);subst this;exact .emp
   |some b=>exact Fz.sls (hm _ (.head _)) rfl acR acQ
  repeat' (first|refine sy ?_|refine s2 ?_ ?_|intro)
  exact fin _ λq h=>h
