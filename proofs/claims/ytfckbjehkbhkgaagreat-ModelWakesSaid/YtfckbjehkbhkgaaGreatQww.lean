/- part -/
import Derived.Test.YtfckbjehkbhkgaaGreatQwt
import Derived.Test.YtfckbjehkbhkgaaGreatQwv
set_option linter.all false
set_option maxRecDepth 100000
set_option maxHeartbeats 0
namespace Go.Proofs.YtfckbjehkbhkgaaGreat.Am
section
open Go.RowKit
def yH(xs:List eu)(B:xs.length*16<=140737488355328):ac Tryz.prog 50 [.lst (xs.map eu.enc)] [] λv L=>∃o,v=cU o xs.length/\L=ab o 2 (xs.map eu.enc)/\(o=none->xs=[]):=by refine(yq (λA n c xs w D G u E=>cloneC_any A n c xs w D G u E) ⟨_,_,Tryz.func50,rfl⟩ (xs.map eu.enc) (by simp[eu.enc,AV.one]) (λr j=>by obtain⟨x,_,rfl⟩:=abP.1 j;rfl) (by simpa using B)).mono ?_;rintro v L ⟨o,rfl,rfl,h⟩;exact⟨o,acQ,rfl,λe=>by simpa using h e⟩
def KK(xs:List eu)(u:xs.length*16<=140737488355328):aq Tryz.prog 50 [.lst (xs.map eu.enc)] (.lst (xs.map eu.enc)):=by
 refine ac.fz ((yH xs u).mono ?_);rintro v L ⟨o,rfl,rfl,j⟩;refine⟨_,[],ax.all (v2:=.lst (xs.map eu.enc)) ?_,rfl,rfl⟩;cases o with
 |none=>rw[j rfl];exact .refl _
 |some b=>exact Fz.sls (.head _) rfl acR rfl
def Pt{n b m:Nat}{y:Blk}{kd j:IntKind}{L:SH}{K:AV->Prop}(B:(b,y)∈L)(u:y.size=n)(D:K (.sl b 0 m)):W.slice n (.sl b 0 m) none (some (.int kd (m:Int))) (some (.int j (m:Int))) L K:=
 ⟨m,0,m,m,rfl,rfl,rR,rR,abt _,Fd _,Fd _,⟨y,B,u⟩,by rw[Nat.sub_zero];exact D⟩
def MC{n:Nat}{kd j:IntKind}{L:SH}{K:AV->Prop}(u:K .nils):W.slice n .nils none (some (.int kd 0)) (some (.int j 0)) L K:=
 ⟨0,0,0,0,rfl,rfl,rfl,rfl,abt _,Fd _,Fd _,u⟩
def ZP(a:Int)(b:Bool)(v:Int){K:AV->Prop}(h:K (.bool (Kk ⟨a,b⟩ v))):W.bin Tryz.prog Fl .eql 80 (.agg [.acU a,.bool b]) (.agg [.acU v,.bool true]) K:=by
 rw[gg];refine⟨.bool (Kk ⟨a,b⟩ v),?_,h⟩;have u:Fl 80=some [2,4]:=by kernel_rfl
 simp only[iS,u,abQ];cases b<;>by_cases j:a=v<;>simp[xB,vg,Kk,j,show Tryz.prog.underlying 2=some (.int .i64) by kernel_rfl,show Tryz.prog.underlying 4=some .bool by kernel_rfl]
def MD(w:aG)(c:aP)(t wake:Int)(K:SH)(v:AV)(L:SH):Prop:=match c8 w c t wake with
 |none=>v=.tup [.agg aP.zero.enc,.bool false]/\L=K
 |some n=>∃b:Nat,v=.tup [.agg (gr n (.sl b 0 n.order.length)),.bool true]/\L=[(b,⟨1,n.order.map aa⟩)]
def aG.pure(w:aG):bv (.agg w.enc):=.aggs (by
 rw[bj];exact aA (.lmap λx _=>by unfold aU.enc;exact pv) (aA (.lmap λx _=>by unfold bZ.enc;exact pv) (aA (.lmap λx _=>by unfold cM.enc;exact pv) (aA (.lmap λx _=>gD x) (aA (.lmap λx _=>gD x) (aA (.lmap λx _=>by unfold cF.enc;exact pv) (aA (.int _ _) (aA (.lmap λx _=>by unfold LockD.enc;exact aA (.int _ _) (aA (.lmap λx _=>by unfold aa;exact pv) dS)) (aA (.int _ _) (aA (.lmap λx _=>by unfold au;exact pv) (aA (.lmap λx _=>by unfold ThrD.enc;exact pv)
  (aA (.lmap λx _=>by unfold aa;exact pv) (aA (.lmap λx _=>by unfold aa;exact pv) (aA (.lmap λx _=>by unfold aa;exact pv) (aA (.lmap λx _=>by unfold bA.enc;exact aA (.int _ _) (aA (.int _ _) (aA (.int _ _) (aA (.int _ _) (aA (.int _ _) (aA (.lmap λx _=>by unfold aa;exact pv) (aA (.lmap λx _=>by unfold aa;exact pv) dS))))))) dS)))))))))))))))
def aP.pure(c:aP):bv (.agg c.enc):=.aggs (by
 rw[cG];exact aA (.lmap λx _=>by unfold LockD.enc;exact aA (.int _ _) (aA (.lmap λx _=>by unfold aa;exact pv) dS)) (aA (.int _ _) (aA (.lmap λx _=>by unfold au;exact pv) (aA (.lmap λx _=>by unfold ThrD.enc;exact pv) (aA (.lmap λx _=>by unfold eu.enc;exact pv) (aA (.lmap λx _=>by unfold eu.enc;exact pv) (aA (.lmap λx _=>by unfold aa;exact pv) (aA (.lmap λx _=>by unfold au;exact pv) (aA (.lmap λx _=>by unfold aa;exact pv) dS)))))))))
def rX(w:aG)(c:aP)(t:Int):∀(i:Nat) (a:AV),([.agg w.enc,.agg c.enc,.acU t]:List AV)[i]? =some a->bv a:=λi a h=>by
 match i with
 |0=>cases h;exact w.pure
 |1=>cases h;exact c.pure
 |2=>cases h;exact .int _ _
 |i+3=>simp at h
def Ob(c:aP)(j:Nat){K:SH}(h:(j,(⟨1,c.order.map aa⟩:Blk))∈K):Fz K (.agg (gr c (.sl j 0 c.order.length))) (.agg c.enc):=
 Fz.aggs (m:=c.enc) (.cons (.refl _) (.cons (.refl _) (.cons (.refl _) (.cons (.refl _) (.cons (.refl _) (.cons (.refl _) (.cons (Fz.sls h rfl acR rfl) (.cons (.refl _) (.cons (.refl _) .nil)))))))))
def UE(w:aG)(c:aP)(t:Int)(j:Nat):ax [.agg w.enc,.agg (gr c (.sl j 0 c.order.length)),.acU t] [(j,(⟨1,c.order.map aa⟩:Blk))] [.agg w.enc,.agg c.enc,.acU t] []:=
 ax.drop (K:=[(j,(⟨1,c.order.map aa⟩:Blk))]) (.refl _) rfl (fy.at_ (.cons (.refl _) (.cons (Ob c j (.head _)) (.cons (.refl _) .nil)))).2
end
def wN(T:List ThrD)(c:Int)(k:Nat):List Int:=(aJ T c k).map λi:Nat=>(i:Int)
def MK(T:List ThrD)(c:Int)(k:Nat):(wN T c k).length<=k:=by unfold wN aJ;rw[acl];exact abe (aci _ _) acQ
def UK{T:List ThrD}{c:Int}{k:Nat}(h:k<T.length):wN T c (k+1)=if T[k].status=3/\T[k].cond=c then wN T c k++[(k:Int)]else wN T c k:=by
 unfold wN;rw[iF,ST];have:eR T c k=bH T[k] c:=by simp[eR,h]
 rw[this];by_cases g:T[k].status=3/\T[k].cond=c
 .rw[if_pos g,show bH T[k] c=true by simp[bH,g.1,g.2]];rfl
 .rw[if_neg g,show bH T[k] c=false by unfold bH;rw[<-Bool.not_eq_true];simpa using g];simp
def KR(s:SyncD)(c:Int)(hT:s.threads.length<2^40):aq Tryz.prog 87 [.agg s.enc,.acU c] (.lst ((jw s c).map aa)):=by
 refine ac.fz (mY _ _ _ _ ?_);refine vw ?_;rw[show jw s c=wN s.threads c s.threads.length from rfl];obtain⟨lk,u,D,T⟩:=s;dsimp only at *;rw[show SyncD.enc ⟨lk,u,D,T⟩=[.lst (lk.map LockD.enc),.acU u,.lst (D.map au),.lst (T.map ThrD.enc)]from rfl];generalize hQ:(λ(v:AV) (L:SH)=>∃v2 L2,ax [v] L [v2] L2/\v2=AV.lst ((wN T c T.length).map aa)/\L2=[])=Q;have hq:∀v L,Fz L v (.lst ((wN T c T.length).map aa))->Q v L:=λv L h=>by subst hQ;exact⟨_,[],ax.all h,rfl,rfl⟩
 clear hQ;have lp:W.loop (yh Q) [.acU c,.pptr [[.lst (lk.map LockD.enc),.acU u,.lst (D.map au),.lst (T.map ThrD.enc)]] 0 0,.nils,.acU (0:Nat)] []:=by
  refine aL T.length (λk (o:Option Nat)=>([.acU c,.pptr [[.lst (lk.map LockD.enc),.acU u,.lst (D.map au),.lst (T.map ThrD.enc)]] 0 0,af o (wN T c k).length,.acU k],ab o 1 ((wN T c k).map aa))) (λk o=>o=none->wN T c k=[]) none (λ_=>rfl) (ax.drop (K:=[]) (.refl _) rfl (fy.at_ (.cons (.refl _) (.cons (.refl _) (.cons .nile (.cons (.refl _) .nil))))).2) ?_;intro k o hk ho;dsimp only;refine vw ?_;have hle:=MK T c k;rcases Nat.lt_or_ge k T.length with M|M
  .have hd:=aS M;have hx:=aj (f:=ThrD.enc) M;have G:wN T c (k+1)=if T[k].status=3/\T[k].cond=c then wN T c k++[(k:Int)]else wN T c k:=UK M
   have ho2:o=none->(wN T c k).map aa=[]:=λe=>by rw[ho e];rfl
   have B:wN T c (k+1)=wN T c k->∀V,V=[.acU c,.pptr [[.lst (lk.map LockD.enc),.acU u,.lst (D.map au),.lst (T.map ThrD.enc)]] 0 0,af o (wN T c k).length,.acU (IntKind.i64.wrap ((k:Int)+1))]->∃(j:Nat) (E:Option Nat),k<j/\j<=T.length/\(E=none->wN T c j=[])/\ax V (ab o 1 ((wN T c k).map aa))
     [.acU c,.pptr [[.lst (lk.map LockD.enc),.acU u,.lst (D.map au),.lst (T.map ThrD.enc)]] 0 0,af E (wN T c j).length,.acU j] (ab E 1 ((wN T c j).map aa)):=λh V hV=>by
    subst hV;exact⟨k+1,o,acN,acN,by rw[h];exact ho,fR (by rw[av M acN,h]) (by rw[h])⟩
   have fin:wN T c (k+1)=wN T c k++[(k:Int)]->∀(nb n:Nat) (L:SH),n=(wN T c k).length+1->cO L (ab (some nb) 1 ((wN T c k).map aa++[[.acU (k:Int)]]))->∃(j:Nat) (E:Option Nat),k<j/\j<=T.length/\(E=none->wN T c j=[])/\ax [.acU c,.pptr [[.lst (lk.map LockD.enc),.acU u,.lst (D.map au),.lst (T.map ThrD.enc)]] 0 0,.sl nb 0 n,.acU (IntKind.i64.wrap ((k:Int)+1))] L
     [.acU c,.pptr [[.lst (lk.map LockD.enc),.acU u,.lst (D.map au),.lst (T.map ThrD.enc)]] 0 0,af E (wN T c j).length,.acU j] (ab E 1 ((wN T c j).map aa)):=λh nb n L hn hL=>by
    refine⟨k+1,some nb,acN,acN,nofun,?_⟩;rw[av M acN,hn];exact ax.pickE hL (by rw[h];simp[af]) (by rw[h];simp[aa])
   generalize T[k]=y at *;obtain⟨N,O,ya⟩:=y;dsimp only at G;rw[show ThrD.enc ⟨N,O,ya⟩=[.acU N,.acU O,.bool ya]from rfl]at hx;generalize hX:(wN T c k).map aa=X at *;have hXl:X.length=(wN T c k).length:=by rw[<-hX];simp
   clear hq;by_cases p1:N=3
   .have d1:decide (N=3)=true:=decide_eq_true p1;by_cases Z:O=c
    .have d2:decide (O=c)=true:=decide_eq_true Z;rw[if_pos ⟨p1,Z⟩]at G
     repeat' (first|refine sx ?_|refine aM rp rp acN ho2 acP acQ acS acS acP (λS Y=>?_)|refine sb λS Y=>?_|refine s2 ?_ ?_|intro)
     exact fin G S _ _ rfl rp
    .have d2:decide (O=c)=false:=decide_eq_false Z;rw[if_neg (λh=>Z h.2)]at G
     repeat' (first|refine sy ?_|refine s2 ?_ ?_|intro)
     exact B G _ rfl
   .have d1:decide (N=3)=false:=decide_eq_false p1;rw[if_neg (λh=>p1 h.1)]at G
    repeat' (first|refine sy ?_|refine s2 ?_ ?_|intro)
    exact B G _ rfl
  .have hd:=aW M;have hk0:k=T.length:=by omega
   subst hk0;have fin:∀L,(∀q∈ab o 1 ((wN T c T.length).map aa),q∈L)->Q (af o (wN T c T.length).length) L:=λL hm=>by
    refine hq _ _ ?_;cases o with
    |none=>rw[ho rfl];exact .emp
    |some b=>exact Fz.sls (hm _ (.head _)) rfl acR acQ
   clear hq
   repeat' (first|refine sy ?_|refine s2 ?_ ?_|intro)
   exact fin _ λq h=>h
 repeat' (first|exact lp|refine sy ?_|refine s2 ?_ ?_|intro)
def Oj(i:Int)(n:Nat):aq Tryz.prog 89 [.acU i,.acU n] (.bool (inB i n)):=by
 refine KQ _ _ _ _ ?_;refine vw ?_;generalize j:(λ(u:AV) (K:SH)=>u=AV.bool (inB i n)/\K=[])=Q
 repeat' (first|refine sy ?_|refine s2 ?_ ?_|intro)
 all_goals
  subst j;refine⟨?_,rfl⟩;simp_all[inB]<;>omega
def KT(w:aF)(s:gO)(Z:w.conds.length<2^62):aq Tryz.prog 88 [.agg w.enc,.agg s.enc] (.bool (nB w s)):=by
 have Y:=CD w s.sync Z;refine Fj _ _ _ _ ?_;refine vw ?_;generalize N:(λ(u:AV) (K:SH)=>u=AV.bool (nB w s)/\K=[])=Q;have j:∀b,nB w s=b->Q (.bool b) []:=λb hb=>by subst N;exact⟨by rw[hb],rfl⟩
 clear N;have G:w.enc=[.lst (w.cells.map aU.enc),.lst (w.locks.map bZ.enc),.lst (w.conds.map cM.enc),.lst (w.futures.map ay),.lst (w.threads.map ay),.lst (w.sites.map cF.enc)]:=rfl;have M:s.enc=[.lst (s.sync.locks.map LockD.enc),.acU s.sync.tx,.lst (s.sync.done.map au),.lst (s.sync.threads.map ThrD.enc),.lst (s.cells.map aa),.lst (s.futures.map aa),.lst (s.count.map aa)]:=rfl;have E:s.sync.enc=[.lst (s.sync.locks.map LockD.enc),.acU s.sync.tx,.lst (s.sync.done.map au),.lst (s.sync.threads.map ThrD.enc)]:=rfl;have D:nB w s=(fitsS w s.sync&&decide (s.cells.length=w.cells.length)&&decide (s.futures.length=w.futures.length)&&decide (s.count.length=w.threads.length)):=rfl;rw[E]at Y;rw[G,M]at *;generalize fitsS w s.sync=b at *;rw[D]at j;clear D;cases b with
 |false=>
  repeat' (first|refine sy ?_|refine s2 ?_ ?_|intro)
  exact j _ rfl
 |true=>
  by_cases S:s.cells.length=w.cells.length
  .have d1:decide ((s.cells.length:Int)=(w.cells.length:Int))=true:=decide_eq_true acN;by_cases O:s.futures.length=w.futures.length
   .have d2:decide ((s.futures.length:Int)=(w.futures.length:Int))=true:=decide_eq_true acN;have B:=j (decide ((s.count.length:Int)=(w.threads.length:Int))) (by rw[decide_eq_true S,decide_eq_true O];simp only[acB];apply decide_eq_decide.2;omega);clear j
    repeat' (first|refine sy ?_|refine s2 ?_ ?_|intro)
    exact B
   .have d2:decide ((s.futures.length:Int)=(w.futures.length:Int))=false:=decide_eq_false acN;have B:=j false (by rw[decide_eq_false O];simp);clear j
    repeat' (first|refine sy ?_|refine s2 ?_ ?_|intro)
    exact B
  .have d1:decide ((s.cells.length:Int)=(w.cells.length:Int))=false:=decide_eq_false acN;have B:=j false (by rw[decide_eq_false S];simp);clear j
   repeat' (first|refine sy ?_|refine s2 ?_ ?_|intro)
   exact B
def KU(l:List Int)(n:Int)(hl:l.length<2^62):aq Tryz.prog 90 [.lst (l.map aa),.acU n] (.bool (lu (qN l n))):=by
 refine yJ _ _ _ _ ?_;refine vw ?_;generalize hQ:(λ(u:AV) (K:SH)=>u=AV.bool (lu (qN l n))/\K=[])=Q;have Y:∀b,lu (qN l n)=b->Q (.bool b) []:=λb hb=>by subst hQ;exact⟨by rw[hb],rfl⟩
 clear hQ;refine cT l.length (λi=>∀j (h:j<l.length),j<i->1<=l[j]/\l[j]<n/\(0<j->l.getD (j-1) 0<l[j])) (λi=>[.lst (l.map aa),.acU n,.acU i]) hl (λj h N=>absurd N acN) rfl (λi Z hd hii S nx hn=>?_) (λi Z hd S nx=>?_)
 all_goals refine vw ?_
 .have M:=aj (f:=aa) Z;have B:¬(1<=l[i]/\l[i]<n/\(0<i->l.getD (i-1) 0<l[i]))->Q (.bool false) []:=λh=>Y _ (gU λhN=>h (hN i Z))
  have D:(1<=l[i]/\l[i]<n/\(0<i->l.getD (i-1) 0<l[i]))->nx [.lst (l.map aa),.acU n,.acU ((i+1:Nat):Int)] []:=λh=>hn λj N hji=>by
   rcases LE j i with g|g
   .exact S j N g
   .obtain rfl:j=i:=by omega
    exact h
  clear hn Y S;by_cases p1:l[i]<1
  .have d1:decide (l[i]<1)=true:=decide_eq_true p1;have E:=B acN;clear B D;generalize l[i]=d at *;rw[show aa d=[.acU d]from rfl]at M
   repeat' (first|refine sy ?_|refine s2 ?_ ?_|intro)
   exact E
  have d1:decide (l[i]<1)=false:=decide_eq_false p1;by_cases p2:n<=l[i]
  .have d2:decide (n<=l[i])=true:=decide_eq_true p2;have E:=B acN;clear B D;generalize l[i]=d at *;rw[show aa d=[.acU d]from rfl]at M
   repeat' (first|refine sy ?_|refine s2 ?_ ?_|intro)
   exact E
  have d2:decide (n<=l[i])=false:=decide_eq_false p2;by_cases p3:i=0
  .subst p3;have E:=D ⟨acN,acN,acN⟩;clear B D;generalize l[0]=d at *;rw[show aa d=[.acU d]from rfl]at M
   repeat' (first|refine sy ?_|refine s2 ?_ ?_|intro)
   exact E
  .have d3:decide ((0:Int)<(i:Int))=true:=decide_eq_true acN;have O:i-1<l.length:=by omega
   have G:=aj (f:=aa) O;have e1:IntKind.i64.wrap ((i:Int)-1)=((i-1:Nat):Int):=by rw[abg _ acN];omega
   have hg:l.getD (i-1) 0=l[i-1]:=by simp[O]
   rw[hg]at B D;by_cases p4:l[i]<=l[i-1]
   .have d4:decide (l[i]<=l[i-1])=true:=decide_eq_true p4;have E:=B acN;clear B D;generalize l[i]=d at *;generalize l[i-1]=d' at *;rw[show aa d=[.acU d]from rfl]at M;rw[show aa d'=[.acU d']from rfl]at G
    repeat' (first|refine sy ?_|refine s2 ?_ ?_|intro)
    exact E
   .have d4:decide (l[i]<=l[i-1])=false:=decide_eq_false p4;have E:=D ⟨acN,acN,λ_=>by omega⟩;clear B D;generalize l[i]=d at *;generalize l[i-1]=d' at *;rw[show aa d=[.acU d]from rfl]at M;rw[show aa d'=[.acU d']from rfl]at G
    repeat' (first|refine sy ?_|refine s2 ?_ ?_|intro)
    exact E
 .have E:=Y true (iG λj N=>S j N acN);clear Y S
  repeat' (first|refine sy ?_|refine s2 ?_ ?_|intro)
  exact E
def GD(b:Bool):aq Tryz.prog 204 [.bool b] (.acU (mo b)):=by
 refine Dc _ _ _ ?_;refine vw ?_;cases b
 all_goals
  repeat' (first|refine sy ?_|refine s2 ?_ ?_|intro)
  exact⟨rfl,rfl⟩
def PC(op a:Int):aq Tryz.prog 194 [.acU op,.acU a] (O7 (Md op a)):=by
 refine Dd _ _ _ _ ?_;refine vw ?_;generalize j:(λ(u:AV) (K:SH)=>u=O7 (Md op a)/\K=[])=Q
 repeat' (first|refine sy ?_|(refine pf 204 ?_;refine pm (GD _) ?_)|refine s2 ?_ ?_|intro)
 all_goals
  subst j;refine⟨?_,rfl⟩;simp_all[Md,O7]
def MM(op a b:Int):aq Tryz.prog 196 [.acU op,.acU a,.acU b] (O7 (uC op a b)):=by
 refine AA _ _ _ _ _ ?_;refine vw ?_;generalize j:(λ(u:AV) (K:SH)=>u=O7 (uC op a b)/\K=[])=Q
 repeat' (first|refine sy ?_|(refine pf 204 ?_;refine pm (GD _) ?_)|refine s2 ?_ ?_|intro)
 all_goals
  subst j;refine⟨?_,rfl⟩;simp_all[uC,O7]
def zH(n:Int):aq Tryz.prog 195 [.acU n] (.acU (Rm n)):=by
 refine wX _ _ _ ?_;refine vw ?_;generalize j:(λ(u:AV) (K:SH)=>u=AV.acU (Rm n)/\K=[])=Q
 repeat' (first|refine sy ?_|refine s2 ?_ ?_|intro)
 all_goals
  subst j;refine⟨?_,rfl⟩;simp_all[Rm]<;>omega
def MN(op:Int):Bool:=decide (1<=op)&&decide (op<=5)
def PD(op:Int):aq Tryz.prog 171 [.acU op] (.bool (MN op)):=by
 refine pz _ _ _ ?_;refine vw ?_;generalize j:(λ(u:AV) (K:SH)=>u=AV.bool (MN op)/\K=[])=Q
 repeat' (first|refine sy ?_|refine s2 ?_ ?_|intro)
 all_goals
  subst j;refine⟨?_,rfl⟩;simp_all[MN]<;>omega
def rv(r:Option bI)(o t:Option Nat)(v:AV)(L:SH):Prop:=
 match r with
 |none=>v=.tup [.agg qM,.bool false]\/∃s3:bI,v=.tup [.agg (gN s3 o t),.bool false]
 |some s2=>v=.tup [.agg (gN s2 o t),.bool true]/\L=ab o 1 (s2.regs.map aa)++ab t 1 (s2.taint.map eX)
def nM(s:bI)(o t:Option Nat)(ho:o=none->s.regs=[])(hsm:s.regs.length<2^40)(i:cb)(E D:Nat)(R:SH)(Q:AV->SH->Prop)(l:List Int)(hl:l.length<2^40)
  (u:l.all s.has=false->∀L,Q (.tup [.agg qM,.bool false]) L)
  (j:l.all s.has=true->Ff Q ((D,⟨4,[qM]⟩)::(E,⟨4,[gN s o t]⟩)::R) (.pptr [i.enc] 0 0) (.ptr E 0 0) (.ptr D 0 0)) :
  W.loop (Fg Q) [.pptr [i.enc] 0 0,.ptr E 0 0,.ptr D 0 0,.lst (l.map aa),.acU (0:Nat)] ((D,⟨4,[qM]⟩)::(E,⟨4,[gN s o t]⟩)::R):=by
 refine qi l.length (λk=>([.pptr [i.enc] 0 0,.ptr E 0 0,.ptr D 0 0,.lst (l.map aa),.acU k],(D,⟨4,[qM]⟩)::(E,⟨4,[gN s o t]⟩)::R)) (λk=>∀x∈l.take k,s.has x=true) acQ rfl rfl ?_;intro k hk hG;dsimp only;refine vw ?_;rcases Nat.lt_or_ge k l.length with B|B
 .have hd:=aS B;have N:=aj (f:=aa) B;have S:l.take (k+1)=l.take k++[l[k]]:=Fn B;have no:s.has l[k]=false->l.all s.has=false:=λh=>by rw[List.all_eq_false];exact⟨_,LT B,by simp[h]⟩
  have G:s.has l[k]=true->∀x∈l.take (k+1),s.has x=true:=λh x N=>by
   rw[S]at N;rcases aak.1 N with O|O
   .exact hG x O
   .simp at O;rw[O];exact h
  cases o with
  |none=>
   have h0:=ho rfl;have Z:s.has l[k]=false:=by simp[bI.has,inB,h0]
   unfold gN;dsimp only[cU]
   repeat' (first|refine sy ?_|refine s2 ?_ ?_|intro)
   all_goals first|exact u (no Z) _|skip
   all_goals
    exfalso;simp_all
    try omega
  |some b1=>
   have M:s.has l[k]=(decide (0<=l[k])&&decide (l[k]<(s.regs.length:Int))):=rfl;unfold gN;dsimp only[cU]
   repeat' (first|refine sy ?_|refine s2 ?_ ?_|intro)
   all_goals first|exact u (no (by rw[M];simp_all<;>omega)) _|exact⟨k+1,acN,acN,G (by rw[M];simp_all<;>omega),fR (by rw[av B acN]<;>rfl) rfl⟩
 .have hd:=aW B;have Y:k=l.length:=by omega
  subst Y;have j:=j (abh.2 λx N=>hG x (by simpa using N))
  repeat' (first|exact j|refine sy ?_|refine s2 ?_ ?_|intro)
def UM{b i n by_:Nat}{rows:List (List AV)}{L B:SH}{KL:AV->SH->Prop}(u:dF b ⟨n,rows⟩ L B)(D:rows.length=i)(h2:2*i*by_<=2^48)(G:2*i<=2^62)(h:∀j,j∉L.names->KL (.sl j 0 i) ((j,⟨n,rows⟩)::B)):W.append n by_ (.sl b 0 i) .nils L KL:=by subst D;exact lJ (y:=⟨n,rows⟩) (l:=rows) (m:=[]) u.mem' rfl acQ acQ rfl (by simpa using h2) (by simpa using G) rfl u (λj E=>by simpa using h j E)
def A9(s:bI)(op a ib ic n site v:Int)(k:Nat)(u:List Int)(hu:u.length<=2^31)(E b2 S b4:Nat)(Y:Bool)(ha:a=k)(hal:k<s.regs.length)(O:k<s.taint.length)(h13:S≠E)(h23:S≠b2)(x:AV)(hx:x=.nils/\u=[]\/x=.lst (u.map aa))(Q:AV->SH->Prop)
  (hq:∀vv L,(∃v2 L2,ax [vv] L [v2] L2/\rv (if Y then some (s.put a v u)else none) (some E) (some b2) v2 L2)->Q vv L) :
  mv Q [.pptr [(cb.mk op a ib ic n site).enc] 0 0,.ptr S 0 0,.ptr b4 0 0,.acU v,.bool Y,x] [(b4,⟨4,[qM]⟩),(S,⟨4,[gN s (some E) (some b2)]⟩),(E,⟨1,s.regs.map aa⟩),(b2,⟨1,s.taint.map eX⟩)]:=by
 subst ha;have hxa:=aj (f:=aa) hal;have hya:=aj (f:=eX) O;have e1:(s.put k v u).regs.map aa=(s.regs.map aa).set k [.acU v]:=by simp[bI.put,abT,aa]
 have e2:(s.put k v u).taint.map eX=(s.taint.map eX).set k [.lst (u.map aa)]:=by simp[bI.put,abT,eX]
 have e3:gN (s.put k v u) (some E) (some b2)=[.acU (IntKind.i64.wrap (s.pc+1)),.sl E 0 s.regs.length,.sl b2 0 s.taint.length,.acU s.ev]:=by simp[gN,bI.put,cU]
 have fin:∀(Z m:Nat) (L:SH) (c3 c4:Blk) (r:List AV),r=[.sl Z 0 m]->m=u.length->CF L ([(E,⟨1,(s.regs.map aa).set k [.acU v]⟩)]++(b2,⟨1,(s.taint.map eX).set k r⟩)::[]) [(Z,⟨1,u.map aa⟩),(b4,c4),(S,c3)]->Q (.tup [.agg [.acU (IntKind.i64.wrap (s.pc+1)),.sl E 0 s.regs.length,.sl b2 0 s.taint.length,.acU s.ev],.bool Y]) L:=by
  intro Z m L c3 c4 r hr hm M;subst hr;refine hq _ _ ?_;cases Y with
  |false=>exact⟨_,[],ax.all (.refl _),.inr ⟨s.put k v u,by rw[e3]⟩⟩
  |true=>
   refine⟨.tup [.agg (gN (s.put k v u) (some E) (some b2)),.bool true],[(E,⟨1,(s.regs.map aa).set k [.acU v]⟩),(b2,⟨1,(s.taint.map eX).set k [.lst (u.map aa)]⟩)],?_,rfl,?_⟩
   .refine ax.rowA (A:=[(E,_)]) (b:=b2) (R:=[]) (rows':=(s.taint.map eX).set k [.lst (u.map aa)]) M acQ (λj r r' N G=>?_) (by rw[e3]);rw[abs]at N G;by_cases hj:k=j
    .rw[if_pos hj]at N G;rw[if_pos acS]at N G;cases N;cases G;exact .cons (Fz.sls (l:=u) (.head _) rfl acR hm) .nil
    .rw[if_neg hj]at N G;rw[N]at G;cases G;exact fy.refl _ _
   .rw[e1,e2];rfl
 refine vw ?_;rcases hx with⟨rfl,rfl⟩|rfl
 .repeat' (first|refine sx ?_|refine UM rp rfl acR acR (λB D=>?_)|refine sb λB D=>?_|refine s2 ?_ ?_|intro)
  exact fin B 0 _ _ _ _ rfl rfl rp
 .repeat' (first|refine sx ?_|refine dJ rp (λ_=>rfl) acP acS acS (λ_=>rfl) (λB D=>?_)|refine sb λB D=>?_|refine s2 ?_ ?_|intro)
  exact fin B (0+u.length) _ _ _ _ rfl acQ rp
section
structure aaU(P:Prop):Prop where
 h:P
theorem Om{Q:AV->SH->Prop}{vs:List AV}{L:SH}(h:aaU (mv Q vs L)):mv Q vs L:=h.h
theorem MO(o:Option Nat)(n:Nat):(cU o n).one=true:=by cases o<;>rfl
theorem ry(s:bI)(o t:Option Nat):(gN s o t).all AV.one=true:=by unfold gN;simp[MO];exact⟨rfl,rfl⟩
theorem unR(n a:Int):aq Tryz.prog 194 [.acU (Rm n),.acU a] (.tup [.acU (Md n a).1,.bool (Md n a).2]):=by
 have:=PC (Rm n) a
 rwa [Zp]at this
theorem aaV(n a b:Int):aq Tryz.prog 196 [.acU (Rm n),.acU a,.acU b] (.tup [.acU (uC n a b).1,.bool (uC n a b).2]):=by
 have:=MM (Rm n) a b
 rwa [WX]at this
section
variable (s:bI) (o t:Option Nat) (ho:o=none->s.regs=[]) (ht:t=none->s.taint=[]) (hlen:s.taint.length=s.regs.length) (hsm:s.regs.length<2^40) (hsh:∀l∈s.taint,l.length<=2^30) (ia ib ic n site:Int)
include ho ht hlen hsm hsh
theorem Xn:ac Tryz.prog 176 [.agg (cb.mk 5 ia ib ic n site).enc,.agg (gN s o t)] (ab o 1 (s.regs.map aa)++ab t 1 (s.taint.map eX)) (rv (cL ⟨5,ia,ib,ic,n,site⟩ s) o t):=by
 have O:aq Tryz.prog 127 [.agg (cb.mk 5 ia ib ic n site).enc] (.lst (([]:List Int).map aa)):=by have:=oS ⟨5,ia,ib,ic,n,site⟩;simpa[bS]using this
 refine ac.fz (g9 _ _ _ _ ?_);refine vw ?_;generalize G:(λ(v:AV) (L:SH)=>∃B E,ax [v] L [B] E/\rv (cL ⟨5,ia,ib,ic,n,site⟩ s) o t B E)=Q;have D:∀vv L,(∃B E,ax [vv] L [B] E/\rv (cL ⟨5,ia,ib,ic,n,site⟩ s) o t B E)->Q vv L:=by subst G;exact λ_ _ h=>h
 clear G
 repeat' (first|refine sx ?_|refine lI (cs:=gN s o t) rfl (ry s o t) (λj u=>?_)|refine sb λj u=>?_|refine s2 (λh=>?_) λh=>?_|fail)
 rename_i M N;refine nM s o t ho hsm (cb.mk 5 ia ib ic n site) M j _ Q [] acQ (λh L=>?_) (λh=>?_)
 .simp at h
 .have e:cL ⟨5,ia,ib,ic,n,site⟩ s=some {s with pc:=ia}:=by simp[cL]
  rw[e]at D;refine vw ?_;rcases o with _|Y<;>rcases t with _|S
  all_goals
   dsimp only[ab,List.cons_append,List.nil_append]
   repeat' (first|refine sx ?_|refine sb λj u=>?_|refine s2 ?_ ?_|intro)
   exact D _ _ ⟨_,_,ax.forget (K:=[(j,_),(M,_)]) (List.Perm.refl _),rfl,rfl⟩
theorem Xo:ac Tryz.prog 176 [.agg (cb.mk 1 ia ib ic n site).enc,.agg (gN s o t)] (ab o 1 (s.regs.map aa)++ab t 1 (s.taint.map eX)) (rv (cL ⟨1,ia,ib,ic,n,site⟩ s) o t):=by
 have hr:aq Tryz.prog 127 [.agg (cb.mk 1 ia ib ic n site).enc] (.lst ([ia].map aa)):=by have:=oS ⟨1,ia,ib,ic,n,site⟩;simpa[bS]using this
 refine ac.fz (g9 _ _ _ _ ?_);refine vw ?_;generalize hQ:(λ(v:AV) (L:SH)=>∃G N,ax [v] L [G] N/\rv (cL ⟨1,ia,ib,ic,n,site⟩ s) o t G N)=Q;have u:∀vv L,(∃G N,ax [vv] L [G] N/\rv (cL ⟨1,ia,ib,ic,n,site⟩ s) o t G N)->Q vv L:=by subst hQ;exact λ_ _ h=>h
 clear hQ
 repeat' (first|refine sx ?_|refine lI (cs:=gN s o t) rfl (ry s o t) (λj B=>?_)|refine sb λj B=>?_|refine s2 (λh=>?_) λh=>?_|fail)
 rename_i O M;refine nM s o t ho hsm (cb.mk 1 ia ib ic n site) O j _ Q [ia] acQ (λh L=>?_) (λh=>?_)
 .have e:cL ⟨1,ia,ib,ic,n,site⟩ s=none:=by simp at h;simp_all[cL]
  rw[e]at u;exact u _ _ ⟨_,[],ax.all (.refl _),.inl rfl⟩
 .have Z:s.has ia=true:=by simpa using h
  have e:cL ⟨1,ia,ib,ic,n,site⟩ s=if true then some (s.put ia n [])else none:=by simp[cL,Z]
  rw[e]at u;obtain⟨a,rfl,E⟩:=lQ.1 Z;obtain⟨b1,rfl⟩:=lR ho E;obtain⟨b2,rfl⟩:=lR ht (k:=a) acN;have Y:O≠b1:=λe=>M (by simp[SH.names,ab,e])
  have S:O≠b2:=λe=>M (by simp[SH.names,ab,e])
  have D:a<s.taint.length:=by omega
  have hxa:=aj (f:=aa) E;have hya:=aj (f:=eX) D;refine vw ?_;dsimp only[ab,List.cons_append,List.nil_append]
  repeat' (first|(with_reducible refine Om ?_)|refine sx ?_|refine sb λj B=>?_|refine s2 ?_ ?_|intro)
  exact⟨A9 s 1 a _ _ n site n a [] acR b1 b2 O j true rfl E D Y S _ (.inl ⟨rfl,rfl⟩) Q u⟩
theorem Xp:ac Tryz.prog 176 [.agg (cb.mk 2 ia ib ic n site).enc,.agg (gN s o t)] (ab o 1 (s.regs.map aa)++ab t 1 (s.taint.map eX)) (rv (cL ⟨2,ia,ib,ic,n,site⟩ s) o t):=by
 have hr:aq Tryz.prog 127 [.agg (cb.mk 2 ia ib ic n site).enc] (.lst ([ia,ib].map aa)):=by have:=oS ⟨2,ia,ib,ic,n,site⟩;simpa[bS]using this
 refine ac.fz (g9 _ _ _ _ ?_);refine vw ?_;generalize hQ:(λ(v:AV) (L:SH)=>∃M S,ax [v] L [M] S/\rv (cL ⟨2,ia,ib,ic,n,site⟩ s) o t M S)=Q;have j:∀vv L,(∃M S,ax [vv] L [M] S/\rv (cL ⟨2,ia,ib,ic,n,site⟩ s) o t M S)->Q vv L:=by subst hQ;exact λ_ _ h=>h
 clear hQ
 repeat' (first|refine sx ?_|refine lI (cs:=gN s o t) rfl (ry s o t) (λB D=>?_)|refine sb λB D=>?_|refine s2 (λh=>?_) λh=>?_|fail)
 rename_i Y O;refine nM s o t ho hsm (cb.mk 2 ia ib ic n site) Y B _ Q [ia,ib] acQ (λh L=>?_) (λh=>?_)
 .have e:cL ⟨2,ia,ib,ic,n,site⟩ s=none:=by simp at h;simp_all[cL]
  rw[e]at j;exact j _ _ ⟨_,[],ax.all (.refl _),.inl rfl⟩
 .obtain⟨ha,hb⟩:s.has ia=true/\s.has ib=true:=by simpa using h
  have e:cL ⟨2,ia,ib,ic,n,site⟩ s=if true then some (s.put ia (s.reg ib) (s.tnt ib))else none:=by simp[cL,ha,hb]
  rw[e]at j;obtain⟨a,rfl,G⟩:=lQ.1 ha;obtain⟨b,rfl,N⟩:=lQ.1 hb;obtain⟨b1,rfl⟩:=lR ho G;obtain⟨b2,rfl⟩:=lR ht (k:=a) acN;have h13:Y≠b1:=λe=>O (by simp[SH.names,ab,e])
  have h23:Y≠b2:=λe=>O (by simp[SH.names,ab,e])
  have E:a<s.taint.length:=by omega
  have hxa:=aj (f:=aa) G;have hya:=aj (f:=eX) E;have u:b<s.taint.length:=by omega
  have hxb:=aj (f:=aa) N;have hyb:=aj (f:=eX) u;have Z:s.taint[b].length<=2^31:=by have:=hsh _ (LT u);omega
  have hrb:s.reg b=s.regs[b]:=by simp[bI.reg,List.getD,N]
  have htb:s.tnt b=s.taint[b]:=by simp[bI.tnt,List.getD,u]
  rw[hrb,htb]at j;refine vw ?_;dsimp only[ab,List.cons_append,List.nil_append]
  repeat' (first|(with_reducible refine Om ?_)|refine sx ?_|refine sb λB D=>?_|refine s2 ?_ ?_|intro)
  exact⟨A9 s 2 a _ _ n site _ a _ Z b1 b2 Y B true rfl G E h13 h23 _ (.inr rfl) Q j⟩
theorem Xq:ac Tryz.prog 176 [.agg (cb.mk 3 ia ib ic n site).enc,.agg (gN s o t)] (ab o 1 (s.regs.map aa)++ab t 1 (s.taint.map eX)) (rv (cL ⟨3,ia,ib,ic,n,site⟩ s) o t):=by
 have hr:aq Tryz.prog 127 [.agg (cb.mk 3 ia ib ic n site).enc] (.lst ([ia,ib].map aa)):=by have:=oS ⟨3,ia,ib,ic,n,site⟩;simpa[bS]using this
 refine ac.fz (g9 _ _ _ _ ?_);refine vw ?_;generalize hQ:(λ(v:AV) (L:SH)=>∃M S,ax [v] L [M] S/\rv (cL ⟨3,ia,ib,ic,n,site⟩ s) o t M S)=Q;have j:∀vv L,(∃M S,ax [vv] L [M] S/\rv (cL ⟨3,ia,ib,ic,n,site⟩ s) o t M S)->Q vv L:=by subst hQ;exact λ_ _ h=>h
 clear hQ
 repeat' (first|refine sx ?_|refine lI (cs:=gN s o t) rfl (ry s o t) (λB D=>?_)|refine sb λB D=>?_|refine s2 (λh=>?_) λh=>?_|fail)
 rename_i Y O;refine nM s o t ho hsm (cb.mk 3 ia ib ic n site) Y B _ Q [ia,ib] acQ (λh L=>?_) (λh=>?_)
 .have e:cL ⟨3,ia,ib,ic,n,site⟩ s=none:=by simp at h;simp_all[cL]
  rw[e]at j;exact j _ _ ⟨_,[],ax.all (.refl _),.inl rfl⟩
 .obtain⟨ha,hb⟩:s.has ia=true/\s.has ib=true:=by simpa using h
  have e:cL ⟨3,ia,ib,ic,n,site⟩ s=if(Md n (s.reg ib)).2 then some (s.put ia (Md n (s.reg ib)).1 (s.tnt ib))else none:=by simp[cL,ha,hb]
  rw[e]at j;obtain⟨a,rfl,G⟩:=lQ.1 ha;obtain⟨b,rfl,N⟩:=lQ.1 hb;obtain⟨b1,rfl⟩:=lR ho G;obtain⟨b2,rfl⟩:=lR ht (k:=a) acN;have h13:Y≠b1:=λe=>O (by simp[SH.names,ab,e])
  have h23:Y≠b2:=λe=>O (by simp[SH.names,ab,e])
  have E:a<s.taint.length:=by omega
  have hxa:=aj (f:=aa) G;have hya:=aj (f:=eX) E;have u:b<s.taint.length:=by omega
  have hxb:=aj (f:=aa) N;have hyb:=aj (f:=eX) u;have hub:s.taint[b].length<=2^31:=by have:=hsh _ (LT u);omega
  have hrb:s.reg b=s.regs[b]:=by simp[bI.reg,List.getD,N]
  have htb:s.tnt b=s.taint[b]:=by simp[bI.tnt,List.getD,u]
  have hop:=zH n;have Z:=unR n s.regs[b];rw[hrb,htb]at j;generalize Md n s.regs[b]=p at Z j;refine vw ?_;dsimp only[ab,List.cons_append,List.nil_append]
  repeat' (first|(with_reducible refine Om ?_)|refine sx ?_|(refine oD ?_ ?_;focus (simp[rm,rc,rz,W.free,ai,dV,co,SH.names,cU];done))|refine sb λB D=>?_|refine s2 ?_ ?_|intro)
  exact⟨A9 s 3 a _ _ n site p.1 a _ hub b1 b2 Y B p.2 rfl G E h13 h23 _ (.inr rfl) Q j⟩
theorem Xr:ac Tryz.prog 176 [.agg (cb.mk 4 ia ib ic n site).enc,.agg (gN s o t)] (ab o 1 (s.regs.map aa)++ab t 1 (s.taint.map eX)) (rv (cL ⟨4,ia,ib,ic,n,site⟩ s) o t):=by
 have hr:aq Tryz.prog 127 [.agg (cb.mk 4 ia ib ic n site).enc] (.lst ([ia,ib,ic].map aa)):=by have:=oS ⟨4,ia,ib,ic,n,site⟩;simpa[bS]using this
 refine ac.fz (g9 _ _ _ _ ?_);refine vw ?_;generalize hQ:(λ(v:AV) (L:SH)=>∃O L2,ax [v] L [O] L2/\rv (cL ⟨4,ia,ib,ic,n,site⟩ s) o t O L2)=Q;have j:∀vv L,(∃O L2,ax [vv] L [O] L2/\rv (cL ⟨4,ia,ib,ic,n,site⟩ s) o t O L2)->Q vv L:=by subst hQ;exact λ_ _ h=>h
 clear hQ
 repeat' (first|refine sx ?_|refine lI (cs:=gN s o t) rfl (ry s o t) (λE G=>?_)|refine sb λE G=>?_|refine s2 (λh=>?_) λh=>?_|fail)
 rename_i b3 hb3;refine nM s o t ho hsm (cb.mk 4 ia ib ic n site) b3 E _ Q [ia,ib,ic] acQ (λh L=>?_) (λh=>?_)
 .have e:cL ⟨4,ia,ib,ic,n,site⟩ s=none:=by simp at h;simp_all[cL]
  rw[e]at j;exact j _ _ ⟨_,[],ax.all (.refl _),.inl rfl⟩
 .obtain⟨ha,hb,hc⟩:s.has ia=true/\s.has ib=true/\s.has ic=true:=by simpa using h
  have e:cL ⟨4,ia,ib,ic,n,site⟩ s=if(uC n (s.reg ib) (s.reg ic)).2 then some (s.put ia (uC n (s.reg ib) (s.reg ic)).1 (Qj (s.tnt ib++s.tnt ic)))else none:=by simp[cL,ha,hb,hc]
  rw[e]at j;obtain⟨a,rfl,N⟩:=lQ.1 ha;obtain⟨b,rfl,Z⟩:=lQ.1 hb;obtain⟨c,rfl,Y⟩:=lQ.1 hc;obtain⟨b1,rfl⟩:=lR ho N;obtain⟨b2,rfl⟩:=lR ht (k:=a) acN;have h13:b3≠b1:=λe=>hb3 (by simp[SH.names,ab,e])
  have h23:b3≠b2:=λe=>hb3 (by simp[SH.names,ab,e])
  have M:a<s.taint.length:=by omega
  have hxa:=aj (f:=aa) N;have hya:=aj (f:=eX) M;have D:b<s.taint.length:=by omega
  have hxb:=aj (f:=aa) Z;have hyb:=aj (f:=eX) D;have B:c<s.taint.length:=by omega
  have hxc:=aj (f:=aa) Y;have hyc:=aj (f:=eX) B;have hub:s.taint[b].length<=2^31:=by have:=hsh _ (LT D);omega
  have huc:s.taint[c].length<=2^31:=by have:=hsh _ (LT B);omega
  have hrb:s.reg b=s.regs[b]:=by simp[bI.reg,List.getD,Z]
  have htb:s.tnt b=s.taint[b]:=by simp[bI.tnt,List.getD,D]
  have hrc:s.reg c=s.regs[c]:=by simp[bI.reg,List.getD,Y]
  have htc:s.tnt c=s.taint[c]:=by simp[bI.tnt,List.getD,B]
  have hop:=zH n;have hun:=aaV n s.regs[b] s.regs[c];have hui:=Gu s.taint[b] s.taint[c] acN acN;have S:(Qj (s.taint[b]++s.taint[c])).length<=2^31:=Nat.le_trans (Gn (U:=s.taint[b]++s.taint[c]) λx hx=>hx) (by have h1:=hsh _ (List.getElem_mem D);have h2:=hsh _ (List.getElem_mem B);simp;omega);rw[hrb,htb,hrc,htc]at j;generalize uC n s.regs[b] s.regs[c]=p at hun j;generalize Qj (s.taint[b]++s.taint[c])=u at hui j S;refine vw ?_;dsimp only[ab,List.cons_append,List.nil_append]
  repeat' (first|(with_reducible refine Om ?_)|refine sx ?_|(refine oD ?_ ?_;focus (simp[rm,rc,rz,W.free,ai,dV,co,SH.names,cU];done))|refine sb λE G=>?_|refine s2 ?_ ?_|intro)
  exact⟨A9 s 4 a _ _ n site p.1 a u S b1 b2 b3 E p.2 rfl N M h13 h23 _ (.inr rfl) Q j⟩
end
end
def dL(s:gO):s.enc=[.lst (s.sync.locks.map LockD.enc),.acU s.sync.tx,.lst (s.sync.done.map au),.lst (s.sync.threads.map ThrD.enc),.lst (s.cells.map aa),.lst (s.futures.map aa),.lst (s.count.map aa)]:=rfl
def jn{l:List Int}{i:Int}(h:inB i l.length=true):(l.map aa)[i.toNat]? =some [.acU (oL l i)]:=by
 obtain⟨a,b⟩:=ao.1 h;have:i.toNat<l.length:=by omega
 simp[this,oL,aa]
def Ss(s:gO)(e:bA)(hth:s.sync.threads.length<2^40)(h3:e.kind=3->inB e.obj s.cells.length=true)(O:e.kind=23->inB e.obj s.futures.length=true):aq Tryz.prog 91 [.agg s.enc,.agg e.enc] (.bool (H6 s e)):=by
 have hw:=KR s.sync e.obj hth;have hwl:(jw s.sync e.obj).length<=s.sync.threads.length:=MK _ _ _;have D:=wG (jw s.sync e.obj) e.value acN;refine NQ AV.bool λQ j=>Dr _ _ _ _ ?_
 refine vw ?_;obtain⟨et,B,eo,ev,es,ed,ef⟩:=e;dsimp only at *;rw[show s.sync.enc=[.lst (s.sync.locks.map LockD.enc),.acU s.sync.tx,.lst (s.sync.done.map au),.lst (s.sync.threads.map ThrD.enc)]from rfl]at hw;rw[dL,eH]at *;dsimp only at *;unfold H6 at j;dsimp only at j;by_cases k3:B=3
 .subst k3;rw[if_pos rfl]at j;have u:=λL=>j _ L rfl
  have y:=jn (h3 rfl);obtain⟨Z,Y⟩:=ao.1 (h3 rfl);clear j
  repeat' (first|refine aw Z Y rp acO ?_|refine sy ?_|refine s2 ?_ ?_|intro)
  exact u _
 rw[if_neg k3]at j;by_cases E:B=23
 .subst E;rw[if_pos rfl]at j;have u:=λL=>j _ L rfl
  have y:=jn (O rfl);obtain⟨Z,Y⟩:=ao.1 (O rfl);clear j
  repeat' (first|refine aw Z Y rp acO ?_|refine sy ?_|refine s2 ?_ ?_|intro)
  exact u _
 rw[if_neg E]at j;by_cases k5:B=5
 .subst k5;rw[if_pos rfl]at j;by_cases v0:ev=0
  .subst v0;have u:=λL=>j true L rfl
   clear j
   repeat' (first|refine sy ?_|refine s2 ?_ ?_|intro)
   exact u _
  .have d1:decide (ev=0)=false:=decide_eq_false v0;have u:=λL=>j (decide (ev=1)) L (by rw[d1];rfl)
   clear j
   repeat' (first|refine sy ?_|refine s2 ?_ ?_|intro)
   exact u _
 rw[if_neg k5]at j;by_cases N:B=4\/B=22
 .rw[if_pos N]at j;have u:=λL=>j true L rfl
  clear j;rcases N with rfl|rfl
  all_goals
   repeat' (first|refine sy ?_|refine s2 ?_ ?_|intro)
   exact u _
 rw[if_neg N]at j;by_cases M:B=18
 .subst M;rw[if_pos rfl]at j;by_cases S:jw s.sync eo=[]
  .rw[if_pos S]at j;have u:=λL=>j _ L rfl
   rw[S]at hw;have d0:decide (((([]:List Int).map aa).length:Int)=0)=true:=by decide
   clear j D
   repeat' (first|refine sy ?_|refine s2 ?_ ?_|intro)
   exact u _
  .rw[if_neg S]at j;have d0:decide (((jw s.sync eo).length:Int)=0)=false:=decide_eq_false (by have:=acE.2 S;omega);by_cases q0:ev<0
   .have d1:decide (ev>=0)=false:=decide_eq_false acN;have d2:decide (0<=ev)=false:=decide_eq_false acN;have u:=λL=>j false L (by rw[show inB ev s.sync.threads.length=false by simp[inB];omega];rfl)
    clear j
    repeat' (first|refine sy ?_|refine s2 ?_ ?_|intro)
    exact u _
   have d1:decide (ev>=0)=true:=decide_eq_true acN;have d2:decide (0<=ev)=true:=decide_eq_true acN;by_cases q1:(s.sync.threads.length:Int)<=ev
   .have d3:decide (ev<(s.sync.threads.length:Int))=false:=decide_eq_false acN;have u:=λL=>j false L (by rw[show inB ev s.sync.threads.length=false by simp[inB];omega];rfl)
    clear j
    repeat' (first|refine sy ?_|refine s2 ?_ ?_|intro)
    exact u _
   have d3:decide (ev<(s.sync.threads.length:Int))=true:=decide_eq_true acN;have u:=λL=>j ((jw s.sync eo).contains ev) L (by rw[ao.2 ⟨acN,acN⟩,acB])
   clear j
   repeat' (first|refine sy ?_|refine s2 ?_ ?_|intro)
   exact u _
 rw[if_neg M]at j;by_cases G:B=19
 .subst G;rw[if_pos rfl]at j;have u:=λL=>j _ L rfl
  clear j D
  repeat' (first|refine sy ?_|refine s2 ?_ ?_|intro)
  exact u _
 rw[if_neg G]at j;have u:=λL=>j _ L rfl
 have d3:decide (B=3)=false:=decide_eq_false k3;have d23:decide (B=23)=false:=decide_eq_false E;have d5:decide (B=5)=false:=decide_eq_false k5;have d4:decide (B=4)=false:=decide_eq_false λh=>N (.inl h)
 have d22:decide (B=22)=false:=decide_eq_false λh=>N (.inr h)
 have d18:decide (B=18)=false:=decide_eq_false M;have d19:decide (B=19)=false:=decide_eq_false G;clear j
 repeat' (first|refine sy ?_|refine s2 ?_ ?_|intro)
 exact u _
