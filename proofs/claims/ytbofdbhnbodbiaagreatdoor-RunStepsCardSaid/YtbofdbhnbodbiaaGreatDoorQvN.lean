/- A part of the proof; the statement is proved in the last part. -/
import Derived.Test.YtbofdbhnbodbiaaGreatDoorQvM
set_option linter.all false
set_option maxRecDepth 100000
set_option maxHeartbeats 20000000
namespace Go.Proofs.YtbofdbhnbodbiaaGreatDoor.Am
section
theorem Hr{b N u m E k:Nat}{M:IntKind}{out:List aS}{v:AV}{L:SH}{g:Nat×Blk}{D:SH->Fp->Prop}(B:k<out.length)(hL:L=g::ab (some b) 6 (out.map aS.enc))(Z:N=out.length)(f:aS->aS)(Y:∀i:aS,i.enc.set u v=(f i).enc)(S:u<6)(O:v.cells? =some [v])(h1:v.one=true)
  (G:∀(j:List aS) (r:Fp),j.length=out.length->D (g::ab (some b) 6 (j.map aS.enc)) r):di [] m 6 (aj (some b) N) (.int M (k:Int)) L λx r=>W.faddr u x λy=>ds [] E 1 y v L D:=by
 subst Z hL;refine NZ (Ce (dN (qL (tR (Qj (Ce ?_)))) B (.tail _ (.head _)) rfl));refine vk (x:=⟨6,out.map aS.enc⟩) (r:=out[k].enc) (x':=⟨6,(out.set k (f out[k])).map aS.enc⟩) (.there _ (.here _)) (ao B) O h1 (by rw[Tm];exact S) ?_ (qL (G _ _ Ud));rw[To,Tm,Y]
theorem Sm{b N m B k:Nat}{E:IntKind}{n:Int}{out:List aS}{L:SH}{g:Nat×Blk}{u:SH->Fp->Prop}(O:L=g::ab (some b) 6 (out.map aS.enc))(M:N=out.length)(G:k<out.length)
  (D:∀(j:List aS) (r:Fp),j.length=out.length->u (g::ab (some b) 6 (j.map aS.enc)) r):di [] m 6 (aj (some b) N) (.int E (k:Int)) L λx r=>W.faddr 2 x λy=>ds [] B 1 y (.Uf n) L u:=
 Hr G O M (λi=>{i with b:=n}) (λ_=>rfl) Ue rfl rfl D
theorem Sn{b N m B k:Nat}{E:IntKind}{n:Int}{out:List aS}{L:SH}{g:Nat×Blk}{u:SH->Fp->Prop}(O:L=g::ab (some b) 6 (out.map aS.enc))(M:N=out.length)(G:k<out.length)
  (D:∀(j:List aS) (r:Fp),j.length=out.length->u (g::ab (some b) 6 (j.map aS.enc)) r):di [] m 6 (aj (some b) N) (.int E (k:Int)) L λx r=>W.faddr 1 x λy=>ds [] B 1 y (.Uf n) L u:=
 Hr G O M (λi=>{i with a:=n}) (λ_=>rfl) Ue rfl rfl D
theorem O6(B:Nat)(w:aI)(loc:List bu)(v:AV)(site next:Int)(s:bu)(N:w.conds.length<2^62):
  ac Tryz.prog 139 [.ptr B 0 0,.str s] [(B,gt w loc v site next)] λu K=>∃n:Int,u=.Uf n/\K=[(B,gt w loc v site next)]:=by
 refine tD _ _ _ _ ?_;refine vw ?_;refine lw w.conds.length (λi=>[.ptr B 0 0,.str s,.Uf i]) N rfl (λi E O Y G M=>?_) (λi E O G=>?_)
 all_goals refine vw ?_
 .have S:=ao (f:=bR.enc) E;unfold gt at *
  repeat' (first|refine st ?_|refine sb λD j=>?_|refine s2 (λh=>?_) λh=>?_|fail)
  all_goals first|exact⟨_,rfl,rfl⟩|exact M
 .unfold gt at *
  repeat' (first|refine st ?_|refine sb λD j=>?_|refine s2 (λh=>?_) λh=>?_|fail)
  exact⟨_,rfl,rfl⟩
section
variable {w:aI} {loc:List bu} (hw:WQ w) (hlo:loc.length<2^40)
include hw hlo
theorem K4(x:aa)(hx:x.wt<2^29)(h1:x.op=1):lD 136 [.agg x.row] w loc (aw.wts x.index+x.expr.wt+1):=by
 intro bg o out site next h0 hl
 have D:=x.wt_eq;rw[h1,show zv 1 x.expr.op=z0 x.expr.op from rfl]at D;have ve:=λd=>xk hw hlo _ x.expr d (Fd _) Ua
 have N:=λ(i:Nat) (h:i<x.index.length) d=>xk hw hlo _ x.index[i] d (Fd _) (by have:=aw.wts_get0 x.index i h;omega);have gi:=aw.wts_get0 x.index;have B:=λ(i:Nat) (h:i<x.index.length)=>yb h;have ha:=EY loc x.name Ua;have hc:=BM w x.name (by have:=hw.c;omega);refine ac.fz (pP _ _ _ _ ?_);refine vw ?_;generalize hQ:(λ(v:AV) (L:SH)=>∃v2 L2,az [v] L [v2] L2/\∃(o':Option Nat) (out':List aS) (O Y:Int),_)=Q;have fin:=u3 hQ;clear hQ;unfold aa.row aw.row at *;by_cases p:x.index.length=0
 .have d1:decide ((0:Int)<(x.index.length:Int))=false:=decide_eq_false Ua;clear N gi B
  repeat' (first|refine st ?_|((with_reducible refine bb 140 ?_);(refine dh (ve _) rp rp om an om (λo_ j s_ n_ E u M=>?_)))|(refine pf 108 ?_;refine pm (ha) ?_)|(refine pf 173 ?_;refine pm (hc) ?_)|((with_reducible refine bb 53 ?_);(refine dM rp rp om an om (λb_ j u=>?_)))|((with_reducible refine eh 53 ?_);refine md ?_;refine dM rp rp om an om (λb_ j u ks_=>?_))|refine sb λZ G=>?_|refine s2 (λh=>?_) λh=>?_|fail)
  all_goals exact fin _ _ _ _ _ _ (.one (.here _) (.slotl .last)) om an om om
 .have d1:decide ((0:Int)<(x.index.length:Int))=true:=decide_eq_true Ua;have S:0<x.index.length:=by omega
  have v0:=N 0 S;have g0:=gi 0 S;have x0:=B 0 S;obtain⟨b,hb,hcb⟩:=hw.q;have e3:x.name=[113]:=by
   by_cases g:x.name=[113]
   .exact g
   .unfold zi at D;rw[if_neg (by rintro(h|h);exact p h;exact g h)]at D;omega
  rw[e3,hcb]at hc;rw[e3];have hxc:=ao (f:=aH.enc) hb;clear N gi B;generalize x.index[0]=a at *
  repeat' (first|refine st ?_|((with_reducible refine bb 140 ?_);(refine dh (v0 _) rp rp om an om (λo_ j s_ n_ E u M=>?_)))|((with_reducible refine bb 140 ?_);(refine dh (ve _) rp rp om an om (λo_ j s_ n_ E u M=>?_)))|(refine pf 173 ?_;refine pm (hc) ?_)|((with_reducible refine bb 53 ?_);(refine dM rp rp om an om (λb_ j u=>?_)))|refine sb λZ G=>?_|refine s2 (λh=>?_) λh=>?_|fail)
  exact fin _ _ _ _ _ _ (.one (.here _) (.slotl .last)) om an om om
theorem Gj(x:aa){kb ke:Nat}(hx:x.wt<2^29)(h1:x.op=2\/x.op=3)(hB:lD 52 [.lst (x.body.map aa.enc)] w loc kb)(hE:lD 52 [.lst (x.els.map aa.enc)] w loc ke):lD 137 [.agg x.row] w loc (x.expr.wt+kb+ke+2):=by
 intro bg o out site next h0 hl
 have hwe:=x.wt_eq;have hz:zv x.op x.expr.op=z0 x.expr.op:=if_pos Ua;have ve:=λd=>xk hw hlo _ x.expr d (Fd _) Ua
 refine ac.fz (mU _ _ _ _ ?_);refine vw ?_;generalize hQ:(λ(v:AV) (L:SH)=>∃v2 L2,az [v] L [v2] L2/\∃(o':Option Nat) (out':List aS) (site' next':Int),_)=Q;have fin:=u3 hQ;clear hQ;unfold aa.row aw.row at *;clear hwe hz hx;generalize x.op=op at *;have h9:decide (op=3)=true\/decide (op=3)=false:=by cases decide (op=3)<;>simp
 have e9:decide ((x.els.length:Int)=0)=true\/decide ((x.els.length:Int)=0)=false:=by cases decide ((x.els.length:Int)=0)<;>simp
 clear h1;rcases h9 with h9|h9
 .repeat' (first|refine Sm Uc om om (λj O D=>?_)|refine Sn Uc om om (λj O D=>?_)|refine st ?_|refine C2 ?_|((with_reducible refine eh 140 ?_);refine md ?_;refine dh (ve _) rp rp om an om (λo_ j G M Z u B Y=>?_))|((with_reducible refine bb 53 ?_);(refine dM rp rp om an om (λN j u=>?_)))|((with_reducible refine bb 52 ?_);(refine oO hB rp rp om om om (λN j G M u B=>?_)))|refine sb λS E=>?_|fail)
  exact fin _ _ _ _ _ _ (.one (.here _) (.slotl .last)) om an om om
 rcases e9 with e9|e9
 .repeat' (first|refine Sm Uc om om (λj O D=>?_)|refine Sn Uc om om (λj O D=>?_)|refine st ?_|refine C2 ?_|((with_reducible refine eh 140 ?_);refine md ?_;refine dh (ve _) rp rp om an om (λo_ j G M Z u B Y=>?_))|((with_reducible refine bb 53 ?_);(refine dM rp rp om an om (λN j u=>?_)))|((with_reducible refine bb 52 ?_);(refine oO hB rp rp om om om (λN j G M u B=>?_)))|refine sb λS E=>?_|fail)
  exact fin _ _ _ _ _ _ (.one (.here _) (.slotl .last)) om an om om
 .repeat' (first|refine Sm Uc om om (λj O D=>?_)|refine Sn Uc om om (λj O D=>?_)|refine st ?_|refine C2 ?_|((with_reducible refine eh 140 ?_);refine md ?_;refine dh (ve _) rp rp om an om (λo_ j G M Z u B Y=>?_))|((with_reducible refine bb 53 ?_);(refine dM rp rp om an om (λN j u=>?_)))|((with_reducible refine bb 52 ?_);(refine oO hB rp rp om om om (λN j G M u B=>?_)))|((with_reducible refine bb 52 ?_);(refine oO hE rp rp om om om (λN j G M u B=>?_)))|refine sb λS E=>?_|fail)
  exact fin _ _ _ _ _ _ (.one (.here _) (.slotl .last)) om an om om
omit hw hlo in
theorem K5(x:aa){N:Nat}{f l ob:Int}(hB:lD 52 [.lst (x.body.map aa.enc)] w loc N):lD 138 [.agg x.row,.Uf f,.Uf l,.Uf ob] w loc (N+2):=by
 intro bg o Z E M h0 hl
 refine ac.fz (pQ _ _ _ _ _ _ _ ?_);refine vw ?_;generalize S:(λ(v:AV) (L:SH)=>∃Y L2,az [v] L [Y] L2/\∃(o':Option Nat) (G:List aS) (u B:Int),_)=Q;have fin:=u3 S;clear S;unfold aa.row at *
 repeat' (first|refine st ?_|((with_reducible refine bb 53 ?_);(refine dM rp rp om an om (λb_ j D=>?_)))|((with_reducible refine bb 52 ?_);(refine oO hB rp rp om om om (λb_ j s_ n_ D hm_=>?_)))|refine sb λnb_ O=>?_|fail)
 exact fin _ _ _ _ _ _ (.one (.here _) (.slotl .last)) om an om om
theorem O7(x:aa){kb ke:Nat}(hx:x.wt<2^29)(hB:lD 52 [.lst (x.body.map aa.enc)] w loc kb)(hE:lD 52 [.lst (x.els.map aa.enc)] w loc ke):lD 96 [.agg x.row] w loc (aw.wts x.index+x.expr.wt+kb+ke+2):=by
 intro bg o out E G h0 hl
 have O:=x.wt_eq;have c1:=IF w.locks x.name (by have:=hw.l;omega);have c2:=EY w.threads x.name (by have:=hw.t;omega);have c3:=EY w.futures x.name (by have:=hw.f;omega);have c4:=EY w.futures x.arg (by have:=hw.f;omega);have c5:=EY loc x.name Ua;have cc:=λ(v:AV) (E G:Int)=>O6 bg w loc v E G x.name (by have:=hw.d;omega)
 have ve:=λ(h:x.op=14) d=>xk hw hlo _ x.expr d (Fd _) (by rw[h,show zv 14 x.expr.op=z0 x.expr.op from rfl]at O;omega);have va:=K4 hw hlo x hx;have vb:=λh=>Gj hw hlo x hx h hB hE
 have vr:=λ(f l ob:Int)=>K5 x (f:=f) (l:=l) (ob:=ob) hB;refine ac.fz (tE _ _ _ _ ?_);refine vw ?_;generalize hQ:(λ(v:AV) (L:SH)=>∃v2 L2,az [v] L [v2] L2/\∃(o':Option Nat) (out':List aS) (Z next':Int),_)=Q;have fin:=u3 hQ;clear hQ;clear hB hE O hx;obtain⟨op,line,name,arg,index,e,body,els⟩:=x;unfold aa.row aw.row at *;dsimp only[aa.op,aa.line,aa.name,aa.arg,aa.index,aa.expr,aa.body,aa.els]at *
 repeat' (first|refine st ?_|((with_reducible refine bb 136 ?_);(refine dh (va (of_decide_eq_true Ub)) rp rp om an om (λY j S M B u D=>?_)))|((with_reducible refine bb 137 ?_);(refine dh (vb (by first|exact .inl (of_decide_eq_true Ub)|exact .inr (of_decide_eq_true Ub))) rp rp om an om (λY j S M B u D=>?_)))|((with_reducible refine eh 138 ?_);refine md ?_;refine dh (vr _ _ _) rp rp om an om (λY j S M B u D N=>?_))|((with_reducible refine bb 138 ?_);(refine dh (vr _ _ _) rp rp om an om (λY j S M B u D=>?_)))|((with_reducible refine bb 139 ?_);(refine fE (cc _ _ _) rp ?_;rintro _ _ ⟨M,rfl,rfl⟩;dsimp only[List.cons_append,List.nil_append]))|((with_reducible refine eh 139 ?_);refine md ?_;refine fE (cc _ _ _) rp ?_;rintro _ _ ⟨M,rfl,rfl⟩ N;dsimp only[List.cons_append,List.nil_append])|(refine pf 94 ?_;refine pm (c1) ?_)|(refine pf 108 ?_;refine pm (c2) ?_)|(refine pf 108 ?_;refine pm (c3) ?_)|(refine pf 108 ?_;refine pm (c4) ?_)|(refine pf 108 ?_;refine pm (c5) ?_)|((with_reducible refine bb 140 ?_);(refine dh (ve (of_decide_eq_true Ub) _) rp rp om an om (λY j S M B u D=>?_)))|((with_reducible refine bb 53 ?_);(refine dM rp rp om an om (λb_ j u=>?_)))|((with_reducible refine eh 53 ?_);refine md ?_;refine dM rp rp om an om (λb_ j u N=>?_))|refine sb λnb_ hnb_=>?_|refine s2 (λh=>?_) λh=>?_|fail)
 all_goals exact fin _ _ _ _ _ _ (.one (.here _) (.slotl .last)) om an om om
end
end
mutual
def Gk(t:Nat):Nat->aa->List bU
 |n,.mk _ line _ _ _ _ body els=>⟨t,n,line⟩::(sitL t (n+1) body++sitL t (n+1+aa.cnts body) els)
def sitL(t:Nat):Nat->List aa->List bU
 |_,[]=>[]
 |n,x::l=>Gk t n x++sitL t (n+1+x.cnt) l
end
def MB(t n:Nat)(x:aa):Gk t n x=⟨t,n,x.line⟩::(sitL t (n+1) x.body++sitL t (n+1+aa.cnts x.body) x.els):=by cases x;rw[Gk];rfl
mutual
def K6(t:Nat):∀(n:Nat) (x:aa),(Gk t n x).length=1+x.cnt
 |n,.mk a b c d e f body els=>by rw[Gk];simp only[SQ,SD,sitL_len t _ body,sitL_len t _ els,aa.cnt];omega
def sitL_len(t:Nat):∀(n:Nat) (l:List aa),(sitL t n l).length=aa.cnts l
 |n,[]=>rfl
 |n,x::l=>by rw[sitL];simp only[SD,K6 t _ x,sitL_len t _ l,aa.cnts]
end
def aa.cnts_append:∀l m:List aa,aa.cnts (l++m)=aa.cnts l+aa.cnts m
 |[],m=>by simp[aa.cnts]
 |x::l,m=>by simp only[TF,aa.cnts,aa.cnts_append l m];omega
def vO(t:Nat):∀(n:Nat) (l m:List aa),sitL t n (l++m)=sitL t n l++sitL t (n+aa.cnts l) m
 |n,[],m=>by simp[sitL,aa.cnts]
 | n,x::l,m=>by simp only[TF,sitL,vO t _ l m,aa.cnts,S3];rw[show n+1+x.cnt+aa.cnts l=n+(1+x.cnt+aa.cnts l) by omega]
def aM.celW(d:aM):List aH:=(List.range (max d.size 1).toNat).map λk=>⟨d.name,(k:Nat),d.size,decide (d.kind=2),d.init⟩
def bW(w:aI)(d:aM):aI:=
 if d.kind=1\/d.kind=2 then {w with cells:=w.cells++d.celW} else
 if d.kind=3\/d.kind=4 then {w with locks:=w.locks++[⟨d.name,decide (d.kind=4)⟩]} else
 if d.kind=5 then {w with conds:=w.conds++[⟨d.name,ge w.locks d.on⟩]} else {w with futures:=w.futures++[d.name]}
def aI.zero:aI:=⟨[],[],[],[],[],[]⟩
def dH(w:aI)(t:ai):aI:={w with threads:=w.threads++[t.name],sites:=w.sites++sitL w.threads.length 0 t.body}
def ku(p:bT):aI:=p.threads.foldl dH (p.decls.foldl bW aI.zero)
def rI{α β:Type}{f:β->α->β}{l:List α}{a:β}{i:Nat}(h:i<l.length):(l.take (i+1)).foldl f a=f ((l.take i).foldl f a) l[i]:=by rw[Sw h,List.foldl_append];rfl
def Rq(t:Nat)(l:List aa):Prop:=∀(o:Option Nat) (out:List bU) (n:Nat),(o=none->out=[])->out.length+aa.cnts l<2^30->n+aa.cnts l<2^30->
 ac Tryz.prog 95 [aj o out.length,.Uf t,.Uf n,.lst (l.map aa.enc)] (ab o 3 (out.map bU.enc)) λu K=>∃(v:AV) (o':Option Nat),u=v/\v=.tup [aj o' (out++sitL t n l).length,.Uf ((n+aa.cnts l:Nat):Int)]/\(o'=none->out++sitL t n l=[])/\K=ab o' 3 ((out++sitL t n l).map bU.enc)
def Gl{t n k:Nat}{l:List aa}{o:Option Nat}{out:List bU}{rows:List (List AV)}{L L2:SH}{KL:R}(h:Rq t l)(h2:ea o 3 rows L L2)(u:rows=out.map bU.enc)(G:k=out.length)(O:o=none->out=[])(E:out.length+aa.cnts l<2^30)(D:n+aa.cnts l<2^30)
  (B:∀j:Option Nat,(j=none->out++sitL t n l=[])->KL (.tup [aj j (out++sitL t n l).length,.Uf ((n+aa.cnts l:Nat):Int)]) (L2++ab j 3 ((out++sitL t n l).map bU.enc))):W.callM Tryz.prog 95 [aj o k,.Uf t,.Uf n,.lst (l.map aa.enc)] L KL:=by
 subst u G;refine tf (M:=L2) (h o out n O E D) h2.perm ?_;rintro _ _ ⟨v,j,rfl,rfl,N,rfl⟩;exact⟨_,SG,B j N⟩
def K7(t:Nat):∀(k:Nat) (l:List aa),aa.wts l<=k->k<2^40->Rq t l:=by
 intro k
 induction k using Nat.strongRecOn with
 |_ k ih=>
  intro l hl hk o out n h0 h1 h2;have hlen:=aa.wts_len l;refine ac.fz (zF _ _ _ _ _ _ ?_);refine vw ?_;generalize hQ:(λ(v:AV) (L:SH)=>∃v2 L2,az [v] L [v2] L2/\∃(v:AV) (u:Option Nat),_)=Q;have fin:∀u:Option Nat,(u=none->out++sitL t n l=[])->Q (.tup [aj u (out++sitL t n l).length,.Uf ((n+aa.cnts l:Nat):Int)]) (ab u 3 ((out++sitL t n l).map bU.enc)):=λu h=>by subst hQ;exact⟨_,_,.refl _ _,_,u,rfl,rfl,h,rfl⟩
  clear hQ;refine bD l.length (λi u=>([aj u (out++sitL t n (l.take i)).length,.Uf t,.Uf ((n+aa.cnts (l.take i):Nat):Int),.lst (l.map aa.enc),.Uf i],ab u 3 ((out++sitL t n (l.take i)).map bU.enc))) (λi u=>u=none->out++sitL t n (l.take i)=[]) o (by simpa[sitL]using h0) (by simpa[sitL,aa.cnts]using az.refl _ _) ?_;rintro i o1 hi hG;dsimp only;refine vw ?_;generalize O:(λ(vs':List AV) (S:SH)=>∃j u,i<j/\j<=l.length/\_)=nx;rcases Nat.lt_or_ge i l.length with E|E
  .have hd:=aW E;have hi1:=ax E Ua;have hx:=Bg E;have hwi:=aa.wts_get l i E;have hwe:=(l[i]).wt_eq;have hce:=(l[i]).cnt_eq;have c1:=ih _ Ua l[i].body (Fd _) Ua;have c2:=ih _ Ua l[i].els (Fd _) Ua;have e1:l=l.take i++(l[i]::l.drop (i+1)):=by rw[List.getElem_cons_drop,List.take_append_drop]
   have e2:aa.cnts l=aa.cnts (l.take i)+(1+l[i].cnt+aa.cnts (l.drop (i+1))):=by
    conv=>lhs;rw[e1]
    rw[aa.cnts_append];rfl
   have e3:sitL t n (l.take (i+1))=sitL t n (l.take i)++Gk t (n+aa.cnts (l.take i)) l[i]:=by rw[Sw E,vO];simp[sitL]
   have e4:aa.cnts (l.take (i+1))=aa.cnts (l.take i)+(1+l[i].cnt):=by rw[Sw E,aa.cnts_append];simp[aa.cnts]
   have hn:∀(u:Option Nat) (B:List bU) (m:Nat),B=out++sitL t n (l.take i)++Gk t (n+aa.cnts (l.take i)) l[i]->m=n+aa.cnts (l.take i)+(1+l[i].cnt)->(u=none->B=[])->∀S:SH,fV S (ab u 3 (B.map bU.enc))->nx [aj u B.length,.Uf t,.Uf (m:Nat),.lst (l.map aa.enc),.Uf ((i+1:Nat):Int)] S:=by
    intro u B m Z q2 q3 S q4;subst O;refine⟨i+1,u,Ua,Ua,?_,?_⟩
    .rw[e3,<-S3,<-Z];exact q3
    .rw[e3,<-S3,<-Z,e4,<-Tq,<-q2];exact .pick q4 rfl
   clear O;have hlo:(out++sitL t n (l.take i)).length=out.length+aa.cnts (l.take i):=by rw[SD,sitL_len]
   generalize out++sitL t n (l.take i)=OUT at *;generalize hN:n+aa.cnts (l.take i)=N at *;generalize l[i]=x at *;have a1:IntKind.i64.wrap ((N:Int)+1)=((N+1:Nat):Int):=by rw[Te _ Ua];omega
   have Y:o1=none->OUT.map bU.enc=[]:=λe=>by rw[hG e];rfl
   repeat' (first|refine st ?_|refine bF rp rp Ud (λe=>by first|simp[Y e]) Uc Ud (by simp;omega) (by simp;omega) Uc (λM D=>?_)|((with_reducible refine bb 95 ?_);(refine Gl c1 (o:=some _) (out:=OUT++[⟨t,N,x.line⟩]) rp (by rw[List.map_append];rfl) Ud nofun (by simp;omega) Ua (λo_ G=>?_);dsimp only[List.cons_append,List.nil_append]))|((with_reducible refine bb 95 ?_);(refine Gl c2 rp rfl rfl G (by simp[sitL_len];omega) Ua (λo_ G=>?_);dsimp only[List.cons_append,List.nil_append]))|refine sb λM D=>?_|refine s2 (λh=>?_) λh=>?_|fail)
   exact hn o_ _ _ (by simp[MB,S3]) Ua G _ (.slotl rp)
  .have hd:=aX E;have:i=l.length:=by omega
   subst this;rw[T4]at *
   repeat' (first|refine st ?_|refine sb λM D=>?_|refine s2 (λh=>?_) λh=>?_|fail)
   exact fin _ hG
section
theorem zL(o:Option Nat)(l:List bC)(x:bu)(h0:o=none->l=[])(Y:l.length<2^62):
  ac Tryz.prog 94 [aj o l.length,.str x] (ab o 2 (l.map bC.enc)) λu K=>u=.Uf (ge l x)/\K=ab o 2 (l.map bC.enc):=by
 refine mI _ _ _ _ ?_;refine vw ?_;generalize hL:ab o 2 (l.map bC.enc)=L;generalize S:(λ(u:AV) (K:SH)=>u=AV.Uf (ge l x)/\K=L)=Q;have M:∀r:Int,r=ge l x->Q (.Uf r) L:=λr h=>by subst S h;exact⟨rfl,rfl⟩
 clear S;subst hL;cases o with
 |none=>
  have:=h0 rfl;subst this;dsimp only[ab,aj,List.length_nil]at *;refine eB 0 (λ_=>True) (λi=>[.emp,.str x,.Uf i]) Ua trivial rfl (λi E N Z _ G O=>by omega) (λi E N _ G=>?_);refine vw ?_
  repeat' (first|refine st ?_|refine sb λD j=>?_|refine s2 (λh=>?_) λh=>?_|fail)
  exact M _ rfl
 |some b1=>
  dsimp only[ab,aj]at *;refine dy l (λy=>decide (y.name=x)) (λi=>[.sl b1 0 l.length,.str x,.Uf i]) Y rfl (λi E N Z B G O=>?_) (λi E N B G=>?_)
  all_goals refine vw ?_
  .have hx:=ao (f:=bC.enc) E
   repeat' (first|refine st ?_|refine sb λD j=>?_|refine s2 (λh=>?_) λh=>?_|fail)
   .exact M _ (by rw[ge,kQ E B h])
   .exact O h
  .repeat' (first|refine st ?_|refine sb λD j=>?_|refine s2 (λh=>?_) λh=>?_|fail)
   exact M _ (by rw[ge,eY B])
def O8:List AV:=[.nils,.nils,.nils,.nils,.nils,.nils]
def zS(b2 b6:Nat)(oc ol od of ot os:Option Nat)(w:aI):SH:=
 (b6,⟨6,[[aj oc w.cells.length,aj ol w.locks.length,aj od w.conds.length,aj of w.futures.length,aj ot w.threads.length,aj os w.sites.length]]⟩)::(b2,⟨6,[O8]⟩) ::
  (ab oc 5 (w.cells.map aH.enc)++(ab ol 2 (w.locks.map bC.enc)++(ab od 2 (w.conds.map bR.enc)++(ab of 1 (w.futures.map au)++(ab ot 1 (w.threads.map au)++ab os 3 (w.sites.map bU.enc))))))
structure AT(b6:Nat)(oc ol od of ot os:Option Nat)(w:aI):Prop where
 c:oc=none->w.cells=[]
 l:ol=none->w.locks=[]
 d:od=none->w.conds=[]
 f:of=none->w.futures=[]
 t:ot=none->w.threads=[]
 s:os=none->w.sites=[]
 n:∀b,ol=some b->b6≠b
def Nr(K:SH->Prop)(b2 b6:Nat)(w:aI):Prop:=∀(oc ol od of ot os:Option Nat) (L':SH) (v0 v1 v2 v3 v4 v5:AV) (r0 r1 r2 r3 r4 r5:List (List AV)),AT b6 oc ol od of ot os w->
 fV L' ((b6,⟨6,[[v0,v1,v2,v3,v4,v5]]⟩)::(b2,⟨6,[O8]⟩)::(ab oc 5 r0++(ab ol 2 r1++(ab od 2 r2++(ab of 1 r3++(ab ot 1 r4++ab os 3 r5))))))->
 [v0,v1,v2,v3,v4,v5]=[aj oc w.cells.length,aj ol w.locks.length,aj od w.conds.length,aj of w.futures.length,aj ot w.threads.length,aj os w.sites.length]->
 r0=w.cells.map aH.enc->r1=w.locks.map bC.enc->r2=w.conds.map bR.enc->r3=w.futures.map au->r4=w.threads.map au->r5=w.sites.map bU.enc->K L'
theorem Nr.of{K:SH->Prop}{b2 b6:Nat}{w:aI}(h:∀(oc ol od of ot os:Option Nat) (j:SH),AT b6 oc ol od of ot os w->fV j (zS b2 b6 oc ol od of ot os w)->K j):Nr K b2 b6 w:=by intro oc ol od of ot os j Z Y S O N M r0 r1 r2 r3 r4 r5 D B u G e1 e2 E e4 e5;simp only[List.cons.injEq,and_true]at u;obtain⟨rfl,rfl,rfl,rfl,rfl,rfl⟩:=u;subst G e1 e2 E e4 e5;exact h oc ol od of ot os j D B
section
variable {n18:Kn} {b2 b6 i:Nat} {oc ol od of ot os:Option Nat} {w:aI} {rows tl:List (List AV)}
theorem Nt{line size B:Int}{name O:bu}{u:Int}(hk:u=1\/u=2)(hs:size<=1000)(hi1:IntKind.i64.wrap ((i:Int)+1)=((i+1:Nat):Int))(D:AT b6 oc ol od of ot os w)(hlen:w.cells.length<2^30)
  (hn:Nr (n18 [.pptr [[.lst rows,.lst tl]] 0 0,.ptr b2 0 0,.ptr b6 0 0,.Uf ((i+1:Nat):Int)]) b2 b6 {w with cells:=w.cells++aM.celW ⟨u,line,name,size,B,O⟩}) :
  W.loop (zG n18) [.pptr [[.lst rows,.lst tl]] 0 0,.ptr b2 0 0,.ptr b6 0 0,.Uf i,.pptr [[.Uf u,.Uf line,.str name,.Uf size,.Uf B,.str O]] 0 0,.Uf 0] (zS b2 b6 oc ol od of ot os w):=by
 generalize hN:(max size 1).toNat=N at *;have hN1:N<=1000:=by omega
 have hcl:aM.celW ⟨u,line,name,size,B,O⟩=(List.range N).map λk=>⟨name,(k:Nat),size,decide (u=2),B⟩:=by unfold aM.celW;rw[hN]
 rw[hcl]at hn;obtain⟨WK,E⟩:∃f:Nat->aI,f=λk=>{w with cells:=w.cells++(List.range k).map λk=>⟨name,(k:Nat),size,decide (u=2),B⟩}:=⟨_,rfl⟩
 refine bD (β:=Option Nat×Option Nat×Option Nat×Option Nat×Option Nat×Option Nat) N (λk q=>([.pptr [[.lst rows,.lst tl]] 0 0,.ptr b2 0 0,.ptr b6 0 0,.Uf i,.pptr [[.Uf u,.Uf line,.str name,.Uf size,.Uf B,.str O]] 0 0,.Uf k],zS b2 b6 q.1 q.2.1 q.2.2.1 q.2.2.2.1 q.2.2.2.2.1 q.2.2.2.2.2 (WK k)))
  (λk q=>AT b6 q.1 q.2.1 q.2.2.1 q.2.2.2.1 q.2.2.2.2.1 q.2.2.2.2.2 (WK k)) (oc,ol,od,of,ot,os) (by subst E;show AT b6 oc ol od of ot os {w with cells:=w.cells++[]};rw[Ta];exact D) (by subst E;show az _ _ _ (zS b2 b6 oc ol od of ot os {w with cells:=w.cells++[]});rw[Ta];exact az.refl _ _) ?_
 rintro k ⟨oc,ol,od,of,ot,os⟩ hk D;dsimp only at D ⊢;refine vw ?_;generalize S:(λ(vs':List AV) (L':SH)=>∃j o',k<j/\j<=N/\_)=nx;rcases Nat.lt_or_ge k N with Y|Y
 .have hd:=aW Y;have hk1:=ax Y Ua;have hrs:List.range (k+1)=List.range k++[k]:=List.range_succ;have hgo:Nr (nx [.pptr [[.lst rows,.lst tl]] 0 0,.ptr b2 0 0,.ptr b6 0 0,.Uf i,.pptr [[.Uf u,.Uf line,.str name,.Uf size,.Uf B,.str O]] 0 0,.Uf ((k+1:Nat):Int)]) b2 b6 {w with cells:=w.cells++(List.range k).map (λk=>(⟨name,(k:Nat),size,decide (u=2),B⟩:aH))++[⟨name,(k:Nat),size,decide (u=2),B⟩]}:=.of λoc2 ol2 od2 of2 Z os2 L' q1 q2=>by
   subst S;subst E;have e:(λk=>({w with cells:=w.cells++(List.range k).map λk=>(⟨name,(k:Nat),size,decide (u=2),B⟩:aH)}:aI)) (k+1)={w with cells:=w.cells++(List.range k).map (λk=>(⟨name,(k:Nat),size,decide (u=2),B⟩:aH))++[⟨name,(k:Nat),size,decide (u=2),B⟩]}:=by show({w with cells:=w.cells++(List.range (k+1)).map (λk=>(⟨name,(k:Nat),size,decide (u=2),B⟩:aH))}:aI)=_;rw[hrs,LT,<-S3];rfl
   exact⟨k+1,(oc2,ol2,od2,of2,Z,os2),Ua,Ua,by rw[e];exact q1,by rw[e];exact az.pick q2 rfl⟩
  clear S;have hCl:(w.cells++(List.range k).map (λk=>(⟨name,(k:Nat),size,decide (u=2),B⟩:aH))).length<2^31:=by simp;omega
  obtain⟨wc,wl,wd,wf,wt,ws⟩:=w;subst E;dsimp only at *;generalize wc++(List.range k).map (λk=>(⟨name,(k:Nat),size,decide (u=2),B⟩:aH))=C at *;have hC0:oc=none->C.map aH.enc=[]:=λe=>by have hc:=D.c e;dsimp only at hc;rw[hc];rfl
  unfold zS
  repeat' (first|rw[hN]|refine st ?_|refine bF rp rp Ud (λe=>by first|simp[hC0 e]) Uc Ud (by simp;omega) (by simp;omega) Uc (λM G=>?_)|refine KR ?_|refine sb λM G=>?_|refine s2 (λh=>?_) λh=>?_|fail)
  exact hgo (some M) ol od of ot os _ _ _ _ _ _ _ _ _ _ _ _ _ ⟨nofun,D.l,D.d,D.f,D.t,D.s,D.n⟩ rp (by simp[aj]) (by rw[LT];rfl) rfl rfl rfl rfl rfl
 .have hd:=aX Y;have e:k=N:=by omega
  subst e;subst E;dsimp only at *;unfold zS
  repeat' (first|rw[hN]|refine st ?_|refine KR ?_|refine sb λM G=>?_|refine s2 (λh=>?_) λh=>?_|fail)
  exact hn oc ol od of ot os _ _ _ _ _ _ _ _ _ _ _ _ _ D rp rfl rfl rfl rfl rfl rfl rfl
theorem MC{o:Option Nat}{l:List bC}{x:bu}{i:Nat}{us:List W.WR}{L j:SH}{B:AV->SH->List Nat->Prop}(O:o=none->l=[])(D:l.length<2^62)(h2:ea o 2 (l.map bC.enc) L j)(G:∀z∈us,W.free z ⟨i,[],(ab o 2 (l.map bC.enc)).names,[],true,[]⟩)
  (E:B (.Uf (ge l x)) (ab o 2 (l.map bC.enc)++j) (ab o 2 (l.map bC.enc)).names):W.dcallM Tryz.prog us i 94 [aj o l.length,.str x] L B:=
 ⟨ab o 2 (l.map bC.enc),j,h2.perm,G,(zL o l x O D).mono λu K ⟨N,M⟩=>by subst N M;exact E⟩
theorem MD{o:Option Nat}{b6 n i j k:Nat}{rows:List (List AV)}(h:∀b,o=some b->b6≠b):∀z∈[rm i rz,rm j ⟨af (.ptr b6 0 n),[],[],[]⟩],W.free z ⟨k,[],(ab o 2 rows).names,[],true,[]⟩:=by
 intro z u;simp only[SB,Th,or_false]at u;rcases u with rfl|rfl
 .exact⟨nofun,nofun,nofun,nofun,λ_=>rfl⟩
 .refine⟨nofun,?_,nofun,nofun,λ_=>rfl⟩;intro c B;have:c=b6:=by simpa[rm,af]using B
  subst this;cases o with
  |none=>simp[ab,SH.names]
  |some b=>have:=h b rfl;simpa[ab,SH.names]using this
theorem O9{d:aM}(hr:rows[i]? =some d.enc)(hk:1<=d.kind/\d.kind<=6)(hs:d.size<=1000)(hi1:IntKind.i64.wrap ((i:Int)+1)=((i+1:Nat):Int))(u:AT b6 oc ol od of ot os w)(h1:w.cells.length<2^30)(h2:w.locks.length<2^30)(h3:w.conds.length<2^30)(h4:w.futures.length<2^30)
  (O:Nr (n18 [.pptr [[.lst rows,.lst tl]] 0 0,.ptr b2 0 0,.ptr b6 0 0,.Uf ((i+1:Nat):Int)]) b2 b6 (bW w d)) :
  zH n18 (zS b2 b6 oc ol od of ot os w) (.pptr [[.lst rows,.lst tl]] 0 0) (.Uf i) (.ptr b2 0 0) (.ptr b6 0 0):=by
 obtain⟨M,E,j,size,G,S⟩:=d;have hr':rows[i]? =some [.Uf M,.Uf E,.str j,.Uf size,.Uf G,.str S]:=hr;clear hr;dsimp only at hk hs;have Z:ol=none->w.locks.map bC.enc=[]:=λe=>by rw[u.l e];rfl
 have hd0:od=none->w.conds.map bR.enc=[]:=λe=>by rw[u.d e];rfl
 have hf0:of=none->w.futures.map au=[]:=λe=>by rw[u.f e];rfl
 have hlk:=zL ol w.locks S u.l Ua;have hc:M=1\/M=2\/M=3\/M=4\/M=5\/M=6:=by omega
 refine vw ?_;rcases hc with rfl|rfl|rfl|rfl|rfl|rfl
 .have N:bW w ⟨1,E,j,size,G,S⟩={w with cells:=w.cells++aM.celW ⟨1,E,j,size,G,S⟩}:=by unfold bW;rw[if_pos (.inl rfl)]
  rw[N]at O;have Y:=Nt (.inl rfl) hs hi1 u h1 O;unfold zS at Y ⊢
  repeat' (first|exact Y|refine st ?_|refine sb λD B=>?_|refine s2 (λh=>?_) λh=>?_|fail)
 .have N:bW w ⟨2,E,j,size,G,S⟩={w with cells:=w.cells++aM.celW ⟨2,E,j,size,G,S⟩}:=by unfold bW;rw[if_pos (.inr rfl)]
  rw[N]at O;have Y:=Nt (.inr rfl) hs hi1 u h1 O;unfold zS at Y ⊢
  repeat' (first|exact Y|refine st ?_|refine sb λD B=>?_|refine s2 (λh=>?_) λh=>?_|fail)
 .have N:bW w ⟨3,E,j,size,G,S⟩={w with locks:=w.locks++[⟨j,decide ((3:Int)=4)⟩]}:=rfl;rw[N]at O;unfold zS
  repeat' (first|refine st ?_|refine bF rp rp Ud (λe=>by first|simp[Z e]) Uc Ud (by simp;omega) (by simp;omega) Uc (λD B=>?_)|refine sb λD B=>?_|refine s2 (λh=>?_) λh=>?_|fail)
  exact O oc (some D) od of ot os _ _ _ _ _ _ _ _ _ _ _ _ _ ⟨u.c,nofun,u.d,u.f,u.t,u.s,λb e=>by cases e;rintro rfl;exact B (by simp[SH.names])⟩ rp (by simp[aj]) rfl (by rw[LT];rfl) rfl rfl rfl rfl
 .have N:bW w ⟨4,E,j,size,G,S⟩={w with locks:=w.locks++[⟨j,decide ((4:Int)=4)⟩]}:=rfl;rw[N]at O;unfold zS
  repeat' (first|refine st ?_|refine bF rp rp Ud (λe=>by first|simp[Z e]) Uc Ud (by simp;omega) (by simp;omega) Uc (λD B=>?_)|refine sb λD B=>?_|refine s2 (λh=>?_) λh=>?_|fail)
  exact O oc (some D) od of ot os _ _ _ _ _ _ _ _ _ _ _ _ _ ⟨u.c,nofun,u.d,u.f,u.t,u.s,λb e=>by cases e;rintro rfl;exact B (by simp[SH.names])⟩ rp (by simp[aj]) rfl (by rw[LT];rfl) rfl rfl rfl rfl
 .have N:bW w ⟨5,E,j,size,G,S⟩={w with conds:=w.conds++[⟨j,ge w.locks S⟩]}:=rfl;rw[N]at O;unfold zS;rcases ol with _|bl_
  all_goals
   repeat' (first|refine st ?_|refine bF rp rp Ud (λe=>by first|simp[hd0 e]) Uc Ud (by simp;omega) (by simp;omega) Uc (λD B=>?_)|((with_reducible refine eh 94 ?_);refine MC u.l Ua rp (MD u.n) ?_;dsimp only[xg,xh,List.nil_append,List.cons_append])|refine sb λD B=>?_|refine s2 (λh=>?_) λh=>?_|fail)
  .exact O oc none (some D) of ot os _ _ _ _ _ _ _ _ _ _ _ _ _ ⟨u.c,u.l,nofun,u.f,u.t,u.s,u.n⟩ rp (by simp[aj]) rfl rfl (by rw[LT];rfl) rfl rfl rfl
  .exact O oc (some bl_) (some D) of ot os _ _ _ _ _ _ _ _ _ _ _ _ _ ⟨u.c,u.l,nofun,u.f,u.t,u.s,u.n⟩ rp (by simp[aj]) rfl rfl (by rw[LT];rfl) rfl rfl rfl
 .have N:bW w ⟨6,E,j,size,G,S⟩={w with futures:=w.futures++[j]}:=rfl;rw[N]at O;unfold zS
  repeat' (first|refine st ?_|refine bF rp rp Ud (λe=>by first|simp[hf0 e]) Uc Ud (by simp;omega) (by simp;omega) Uc (λD B=>?_)|refine sb λD B=>?_|refine s2 (λh=>?_) λh=>?_|fail)
  exact O oc ol od (some D) ot os _ _ _ _ _ _ _ _ _ _ _ _ _ ⟨u.c,u.l,u.d,nofun,u.t,u.s,u.n⟩ rp (by simp[aj]) rfl rfl rfl (by rw[LT];rfl) rfl rfl
end
end
section
theorem Pa(o:Option Nat)(l:List bu)(k:Nat)(R:SH)(x:bu)(h0:o=none->l=[])(S:k<=l.length)(hl:k<2^62):
  ac Tryz.prog 108 [aj o k,.str x] (ab o 1 (l.map au)++R) λu K=>∃r:Int,u=.Uf r/\K=ab o 1 (l.map au)++R:=by
 refine jM _ _ _ _ ?_;refine vw ?_;generalize Z:ab o 1 (l.map au)++R=L;generalize O:(λ(u:AV) (K:SH)=>∃r:Int,u=AV.Uf r/\K=L)=Q;have E:∀r:Int,Q (.Uf r) L:=λr=>by subst O;exact⟨r,rfl,rfl⟩
 clear O;subst Z;cases o with
 |none=>
  have:=h0 rfl;subst this;obtain rfl:k=0:=by simpa using S
  dsimp only[ab,aj,List.nil_append]at *;refine eB 0 (λ_=>True) (λi=>[.emp,.str x,.Uf i]) Ua trivial rfl (λi M G Y _ D N=>by omega) (λi M G _ D=>?_);refine vw ?_
  repeat' (first|refine st ?_|refine sb λB j=>?_|refine s2 (λh=>?_) λh=>?_|fail)
  exact E _
 |some b1=>
  dsimp only[ab,aj,List.cons_append,List.nil_append]at *;refine eB k (λ_=>True) (λi=>[.sl b1 0 k,.str x,.Uf i]) Ua trivial rfl (λi M G Y _ D N=>?_) (λi M G _ D=>?_)
  all_goals refine vw ?_
  .have hx:=ao (f:=au) (l:=l) (i:=i) Ua
   repeat' (first|refine st ?_|refine sb λB j=>?_|refine s2 (λh=>?_) λh=>?_|fail)
   all_goals first
    |exact E _
    |exact N trivial
  .repeat' (first|refine st ?_|refine sb λB j=>?_|refine s2 (λh=>?_) λh=>?_|fail)
   exact E _
def bI(bt:Nat)(th le:Int)(se tx at_ lo:Bool)(o:Option Nat)(k:Nat):Blk:=lz bt (.Uf th) (.Uf le) (.bool se) (.bool tx) (.bool at_) (.bool lo) (aj o k)
def PB(f:FuncId)(args:List AV)(d:Nat)(good:AV->Prop):Prop:=∀(bm bt:Nat) (t:List UInt8) (a:Nat) (th le:Int) (se tx at_ lo:Bool) (o:Option Nat) (ar:List bu) (k:Nat),t.length<2^40->a<=t.length->(o=none->ar=[])->k<=ar.length->k+d<=900->
 ac Tryz.prog f (.ptr bm 0 0::args) ((bm,bI bt th le se tx at_ lo o k)::(bt,aY t a)::ab o 1 (ar.map au)) λu K=>∃(v:AV) (a':Nat) (th' le':Int) (se' tx' at' lo':Bool) (o':Option Nat) (ar':List bu),u=v/\good v/\a'<=t.length/\(o'=none->ar'=[])/\k<=ar'.length/\K=(bm,bI bt th' le' se' tx' at' lo' o' k)::(bt,aY t a')::ab o' 1 (ar'.map au)
theorem lE{j b2:Nat}{x1 x2:Blk}{o:Option Nat}{n:Nat}{rows:List (List AV)}{L L1 L2 L3:SH}(B:eJ j x1 L L1)(h2:eJ b2 x2 L1 L2)(u:ea o n rows L2 L3):L.Perm (((j,x1)::(b2,x2)::ab o n rows)++L3):=
 B.perm.trans ((h2.perm.trans ((u.perm).cons _)).cons _)
section
variable {f:FuncId} {args:List AV} {d:Nat} {good:AV->Prop} {bm bt:Nat} {t:List UInt8} {a:Nat} {th le:Int} {se tx at_ lo:Bool} {o:Option Nat} {ar:List bu} {k:Nat} {L L1 L2 L3:SH}
theorem Hs{KL:R}(h:PB f args d good)(h1:eJ bm (bI bt th le se tx at_ lo o k) L L1)(h2:eJ bt (aY t a) L1 L2)(h3:ea o 1 (ar.map au) L2 L3)(ht:t.length<2^40)(ha:a<=t.length)(ho:o=none->ar=[])(hk:k<=ar.length)(hd:k+d<=900)
  (hq:∀(v:AV) (O:Nat) (B G:Int) (D u M E:Bool) (N:Option Nat) (j:List bu),good v->O<=t.length->(N=none->j=[])->k<=j.length->KL v ((bm,bI bt B G D u M E N k)::(bt,aY t O)::(ab N 1 (j.map au)++L3))):W.callM Tryz.prog f (.ptr bm 0 0::args) L KL:=by
 refine Cb (h bm bt t a th le se tx at_ lo o ar k ht ha ho hk hd) (lE h1 h2 h3) ?_;rintro _ _ ⟨v,O,B,G,D,u,M,E,N,j,rfl,q1,Z,Y,S,rfl⟩;exact hq _ O B G D u M E N j q1 Z Y S
theorem K8{i:Nat}{us:List W.WR}{S:AV->SH->List Nat->Prop}(h:PB f args d good)(h1:eJ bm (bI bt th le se tx at_ lo o k) L L1)(h2:eJ bt (aY t a) L1 L2)(h3:ea o 1 (ar.map au) L2 L3)(ht:t.length<2^40)(ha:a<=t.length)(ho:o=none->ar=[])(hk:k<=ar.length)(hd:k+d<=900)
  (hf:∀y∈us,W.free y ⟨i,[],SH.names ((bm,bI bt th le se tx at_ lo o k)::(bt,aY t a)::ab o 1 (ar.map au)),[],true,[]⟩)
  (hq:∀(v:AV) (O:Nat) (B G:Int) (D u M E:Bool) (N:Option Nat) (j:List bu) (ks:List Nat),good v->O<=t.length->(N=none->j=[])->k<=j.length->S v ((bm,bI bt B G D u M E N k)::(bt,aY t O)::(ab N 1 (j.map au)++L3)) ks):W.dcallM Tryz.prog us i f (.ptr bm 0 0::args) L S:=by
 refine⟨_,L3,lE h1 h2 h3,hf,(h bm bt t a th le se tx at_ lo o ar k ht ha ho hk hd).mono ?_⟩;rintro _ _ ⟨v,O,B,G,D,u,M,E,N,j,rfl,q1,q2,Z,Y,rfl⟩;exact hq _ O B G D u M E N j _ q1 q2 Z Y
theorem zM{v j:AV}{x1 x2:Blk}{rows:List (List AV)}(D:eJ bm x1 L L1)(h2:eJ bt x2 L1 L2)(B:ea o 1 rows L2 L3)(u:Fz L3 v j):az [v] L [j] ((bm,x1)::(bt,x2)::ab o 1 rows):=by
 refine .drop (K:=L3) ((lE D h2 B).trans SG) rfl λi a E e1 e2=>?_
 match i with
 |0=>cases e1;cases e2;exact u
 |i+1=>simp at e1
end
def cy(d:Nat):Nat:=100*10^d
def K9(d:Nat)(v:AV):Prop:=∃x:aa,v=.agg x.row/\x.wt<=cy d
def zN(n:Nat)(v:AV):Prop:=∃l:List aa,v=.lst (l.map aa.enc)/\aa.wts l<=n
def La(d:Nat):Prop:=PB 97 [.Uf (d:Int)] d (K9 d)
def Lb(d:Nat):Prop:=∀n:Nat,n<=10->PB 57 [.Uf (d:Int),.Uf (n:Int)] d (zN (n*cy d))
def Pb(d:Nat):Prop:=∀s:bu,PB 145 [.str s,.Uf (d:Int)] (d+1) (zN (2*cy d))
theorem zO(l:List aa)(x:aa):aa.wts (l++[x])=aa.wts l+x.wt:=by
 induction l with
 |nil=>simp[aa.wts]
 |cons y l j=>simp only[TF,aa.wts,j];omega
def dF(d:Nat):Prop:=∀n:Nat,n<=10->∀(bm bt:Nat) (t:List UInt8) (a:Nat) (th le:Int) (se tx at_ lo:Bool) (o:Option Nat) (ar:List bu) (k:Nat),t.length<2^40->a<=t.length->(o=none->ar=[])->k<=ar.length->k+d<=900->
 ac Tryz.prog 57 [.ptr bm 0 0,.Uf (d:Int),.Uf (n:Int)] ((bm,bI bt th le se tx at_ lo o k)::(bt,aY t a)::ab o 1 (ar.map au)) λu K=>∃(a':Nat) (th' le':Int) (se' tx' at' lo':Bool) (o':Option Nat) (ar':List bu) (l:List aa) (ol:Option Nat),u=aj ol l.length/\(ol=none->l=[])/\aa.wts l<=n*cy d/\a'<=t.length/\(o'=none->ar'=[])/\k<=ar'.length/\K=(bm,bI bt th' le' se' tx' at' lo' o' k)::(bt,aY t a')::(ab o' 1 (ar'.map au)++ab ol 11 (l.map aa.enc))
theorem C3(d:Nat)(hS:La d):dF d:=by
  intro n hn bm bt t a th le se tx at_ lo o ar k ht ha ho hk hd;refine pN _ _ _ _ _ ?_;refine vw ?_;generalize hQ:(λ(u:AV) (K:SH)=>∃(a':Nat) (G S:Int) (M E Y O:Bool) (Z:Option Nat) (j:List bu) (l:List aa) (B:Option Nat),u=aj B l.length/\(B=none->l=[])/\aa.wts l<=n*cy d/\a'<=t.length/\(Z=none->j=[])/\k<=j.length/\K=(bm,bI bt G S M E Y O Z k)::(bt,aY t a')::(ab Z 1 (j.map au)++ab B 11 (l.map aa.enc)))=Q;have hq:∀(l:List aa) (B:Option Nat) (a':Nat) (G S:Int) (M E Y O:Bool) (Z:Option Nat) (j:List bu),(B=none->l=[])->aa.wts l<=n*cy d->a'<=t.length->(Z=none->j=[])->k<=j.length->Q (aj B l.length) ((bm,bI bt G S M E Y O Z k)::(bt,aY t a')::(ab Z 1 (j.map au)++ab B 11 (l.map aa.enc))):=λl B a' G S M E Y O Z j h4 h5 h6 h7 h8=>by subst hQ;exact⟨a',G,S,M,E,Y,O,Z,j,l,B,rfl,h4,h5,h6,h7,h8,rfl⟩
  clear hQ;refine bD (β:=Nat×Int×Int×Bool×Bool×Bool×Bool×Option Nat×List bu×Option Nat×List aa) n (λi ⟨a,th,le,se,tx,at_,lo,o,ar,B,xs⟩=>([.ptr bm 0 0,.Uf d,.Uf n,aj B i,.Uf i],(bm,bI bt th le se tx at_ lo o k)::(bt,aY t a)::(ab o 1 (ar.map au)++ab B 11 (xs.map aa.enc))))
    (λi ⟨a,th,le,se,tx,at_,lo,o,ar,B,xs⟩=>a<=t.length/\(o=none->ar=[])/\k<=ar.length/\(B=none->xs=[])/\xs.length=i/\aa.wts xs<=i*cy d) ⟨a,th,le,se,tx,at_,lo,o,ar,none,[]⟩ ⟨ha,ho,hk,λ_=>rfl,rfl,by simp[aa.wts]⟩ ?_ ?_
  · exact az.vals (.cons (.refl _) (.cons (.refl _) (.cons (.refl _) (.cons .nile (.cons (.refl _) .nil))))) |> λh=>by simpa[aj,ab]using h
  · rintro i ⟨a,th,le,se,tx,at_,lo,o,ar,B,xs⟩ hi ⟨ha,ho,hk,hol,hxl,hxw⟩
    dsimp only at ha ho hk hol hxl hxw ⊢;refine vw ?_;generalize hnx:(λ(vs':List AV) (L':SH)=>_)=nx;have hn:∀(a:Nat) (th le:Int) (se tx at_ lo:Bool) (o:Option Nat) (ar:List bu) (nb:Nat) (x:aa) (L':SH),i<n->fV L' ((bm,bI bt th le se tx at_ lo o k)::(bt,aY t a)::(ab o 1 (ar.map au)++ab (some nb) 11 ((xs++[x]).map aa.enc)))->a<=t.length->(o=none->ar=[])->k<=ar.length->x.wt<=cy d->nx [.ptr bm 0 0,.Uf d,.Uf n,.sl nb 0 (i+1),.Uf ((i+1:Nat):Int)] L':=by intro a th le se tx at_ lo o ar nb x L' q0 q1 q2 q3 q4 q5;subst hnx;refine⟨i+1,⟨a,th,le,se,tx,at_,lo,o,ar,some nb,xs++[x]⟩,Ua,Ua,⟨q2,q3,q4,nofun,by simp;omega,?_⟩,az.pick q1 rfl⟩;dsimp only;rw[zO,Nat.add_mul,Nat.one_mul];omega
    clear hnx;subst hxl;have D:∀(L:SH) (v:AV),L=(bm,bI bt th le se tx at_ lo o k)::(bt,aY t a)::(ab o 1 (ar.map au)++ab B 11 (xs.map aa.enc))->v=aj B xs.length->Q v L:=by rintro _ _ rfl rfl;exact hq xs B a th le se tx at_ lo o ar hol (SK hxw (SR _ hi)) ha ho hk
    rcases Fn xs.length n with g|g
    · have hd1:=aW g
      have hi1:=ax g Ua;unfold bI lz at D ⊢
      repeat' (first|refine st ?_|((with_reducible refine bb 97 ?_);(refine Hs hS rp rp rp ht Ub Ub Ub hd ?_;rintro _ a_ th_ le_ se_ tx_ at_ lo_ o_ ar_ ⟨x_,rfl,hx_⟩ ha_ ho_ hk_))|refine bF rp rp Ud (λe=>by first|simp[hol e]) Uc Ud (by simp;omega) (by simp;omega) Uc (λN hnb_=>?_)|refine sb λN hnb_=>?_|refine s2 (λh=>?_) λh=>?_|fail)
      all_goals first
        |exact D _ _ rfl rfl
        | (have e_ : ab (some N) 11 ((xs ++ [x_]).map aa.enc) = [(N, ⟨11, xs.map aa.enc ++ [x_.row]⟩)] := by rw [ab, LT, Sx, S6, aa.enc_row]
           refine hn a_ th_ le_ se_ tx_ at_ lo_ o_ ar_ N x_ _ g ?_ ha_ ho_ hk_ hx_;rw[e_];exact .one (.there _ (.there _ (.here _))) (.one (.there _ (.there _ (.here _))) (.slot (.there _ (.there _ (.here _))) (.one (.here _) (.nil _)))))
    · have hd1:=aX g
      unfold bI lz at D ⊢
      repeat' (first|refine st ?_|refine sb λN hnb_=>?_|refine s2 (λh=>?_) λh=>?_|fail)
      exact D _ _ rfl rfl
theorem C4(d:Nat)(hS:dF d):Lb d:=by intro n hn bm bt t a th le se tx at_ lo o ar k Y ha Z hk hd;refine ac.fz ((hS n hn bm bt t a th le se tx at_ lo o ar k Y ha Z hk hd).mono ?_);rintro _ _ ⟨a',B,G,D,u,N,E,S,O,l,ol,rfl,M,j,h3,h4,h5,rfl⟩;exact⟨_,_,zM (.here _) (.here _) (.here _) (Fz.slot (f:=aa.enc) (g:=aa.enc) rfl (λe=>by simp[M e]) Ue (λ_ _=>rfl) λy _ q a a2 M j=>by rw[M]at j;cases j;exact .refl _),_,a',B,G,D,u,N,E,S,O,rfl,⟨l,rfl,j⟩,h3,h4,h5,rfl⟩
theorem ME{r:Nat}(h:r<100):IntKind.i64.wrap (1+(r:Int))=((1+r:Nat):Int):=by rw[Te _ Ua];omega
theorem zN.le{n m:Nat}{v:AV}(h:zN n v)(u:n<=m):zN m v:=by obtain⟨l,j,B⟩:=h;exact⟨l,j,Ua⟩
theorem MF(d:Nat)(hS:Lb d):Pb d:=by
 intro s bm bt t a th le se tx at_ lo o ar k ht ha ho hk hd;refine ac.fz (pM _ _ _ _ _ ?_);refine vw ?_;generalize hQ:(λ(v:AV) (L:SH)=>∃v2 L2,az [v] L [v2] L2/\∃(v:AV) (Y:Nat) (B G:Int) (D u M E:Bool) (N:Option Nat) (j:List bu),v2=v/\zN (2*cy d) v/\Y<=t.length/\(N=none->j=[])/\k<=j.length/\L2=(bm,bI bt B G D u M E N k)::(bt,aY t Y)::ab N 1 (j.map au))=Q;have hq:∀(v:AV) (Y:Nat) (B G:Int) (D u M E:Bool) (N:Option Nat) (j:List bu) (L:SH),zN (2*cy d) v->fV L ((bm,bI bt B G D u M E N k)::(bt,aY t Y)::ab N 1 (j.map au))->Y<=t.length->(N=none->j=[])->k<=j.length->Q v L:=λv Y B G D u M E N j L h1 h2 h6 h7 h8=>by subst hQ;exact⟨_,_,az.pick h2 rfl,_,Y,B,G,D,u,M,E,N,j,rfl,h1,h6,h7,h8,rfl⟩
 clear hQ;unfold bI lz
 repeat' (first|refine jt (qM ?_ (ME Ua))|refine st ?_|refine EV (r:=[.str s]) rp Uc rp (by simpa using hk) (λe=>by simp[ho e]) Ua Ua Uc (λS O=>?_)|((with_reducible refine bb 56 ?_);(refine fL ht Ub rp (λr_ a_ hr_ ha_=>?_)))|refine sb λS O=>?_|refine s2 (λh=>?_) λh=>?_|fail)
 have er:List.take k (ar.map au)++[[.str s]]=(ar.take k++[s]).map au:=by rw[LT,List.map_take];rfl
 rw[er];refine Hs (o:=some S) (ar:=ar.take k++[s]) (k:=k+1) (hS (1+r_) Ua) rp rp (.here _) ht ha_ nofun (by simp[Tn hk]) Ua ?_;intro v a2 th2 le2 se2 Z at2 lo2 o2 ar2 hg ha2 ho2 hk2;rcases o2 with _|b2
 .exfalso;have:=ho2 rfl;subst this;simp at hk2
 unfold bI lz;refine vw ?_;dsimp only[ab,aj,List.cons_append,List.nil_append];have es:IntKind.i64.wrap (((k+1:Nat):Int)-1)=(k:Int):=by rw[IntWalk.i64_in _ Ua];omega
 repeat' (first|refine st ?_|refine uM ?_ (TY _) rp rfl|refine sb λS O=>?_|refine s2 (λh=>?_) λh=>?_|fail)
 exact hq v a2 th2 le2 se2 Z at2 lo2 (some b2) ar2 _ (hg.le (SR _ Ua)) (.one (.here _) (.one (.here _) (.one (.here _) (.nil _)))) ha2 nofun Ua
end
end Go.Proofs.YtbofdbhnbodbiaaGreatDoor.Am
