/- A part of the proof; the statement is proved in the last part. -/
import Derived.Test.YtbofdbhnbodbiaaGreatDoorQuL
set_option linter.all false
set_option maxRecDepth 100000
set_option maxHeartbeats 20000000
namespace Go.Proofs.YtbofdbhnbodbiaaGreatDoor.Am
section
theorem HS{b N u m E k:Nat}{M:IntKind}{out:List aT}{v:AV}{L:SH}{g:Nat×Blk}{D:SH->Fp->Prop}(B:k<out.length)(hL:L=g::ab (some b) 6 (out.map aT.enc))(Z:N=out.length)(f:aT->aT)(Y:∀i:aT,i.enc.set u v=(f i).enc)(S:u<6)(O:v.cells? =some [v])(h1:v.one=true)
  (G:∀(j:List aT) (r:Fp),j.length=out.length->D (g::ab (some b) 6 (j.map aT.enc)) r):di [] m 6 (aj (some b) N) (.int M (k:Int)) L λx r=>W.faddr u x λy=>ds [] E 1 y v L D:=by
 subst Z hL;refine OE (CG (dQ (qV (uh (Q0 (CG ?_)))) B (.tail _ (.head _)) rfl));refine vM (x:=⟨6,out.map aT.enc⟩) (r:=out[k].enc) (x':=⟨6,(out.set k (f out[k])).map aT.enc⟩) (.there _ (.here _)) (am B) O h1 (by rw[Uc];exact S) ?_ (qV (G _ _ UZ));rw[Ue,Uc,Y]
theorem S5{b N m B k:Nat}{E:IntKind}{n:Int}{out:List aT}{L:SH}{g:Nat×Blk}{u:SH->Fp->Prop}(O:L=g::ab (some b) 6 (out.map aT.enc))(M:N=out.length)(G:k<out.length)
  (D:∀(j:List aT) (r:Fp),j.length=out.length->u (g::ab (some b) 6 (j.map aT.enc)) r):di [] m 6 (aj (some b) N) (.int E (k:Int)) L λx r=>W.faddr 2 x λy=>ds [] B 1 y (.U1 n) L u:=
 HS G O M (λi=>{i with b:=n}) (λ_=>rfl) U0 rfl rfl D
theorem S6{b N m B k:Nat}{E:IntKind}{n:Int}{out:List aT}{L:SH}{g:Nat×Blk}{u:SH->Fp->Prop}(O:L=g::ab (some b) 6 (out.map aT.enc))(M:N=out.length)(G:k<out.length)
  (D:∀(j:List aT) (r:Fp),j.length=out.length->u (g::ab (some b) 6 (j.map aT.enc)) r):di [] m 6 (aj (some b) N) (.int E (k:Int)) L λx r=>W.faddr 1 x λy=>ds [] B 1 y (.U1 n) L u:=
 HS G O M (λi=>{i with a:=n}) (λ_=>rfl) U0 rfl rfl D
theorem PQ(B:Nat)(w:aG)(loc:List bv)(v:AV)(site next:Int)(s:bv)(N:w.conds.length<2^62):
  ac Tryz.prog 139 [.ptr B 0 0,.str s] [(B,gz w loc v site next)] λu K=>∃n:Int,u=.U1 n/\K=[(B,gz w loc v site next)]:=by
 refine tU _ _ _ _ ?_;refine vw ?_;refine lH w.conds.length (λi=>[.ptr B 0 0,.str s,.U1 i]) N rfl (λi E O Y G M=>?_) (λi E O G=>?_)
 all_goals refine vw ?_
 .have S:=am (f:=bP.enc) E;unfold gz at *
  repeat' (first|refine st ?_|refine sb λD j=>?_|refine s2 (λh=>?_) λh=>?_|fail)
  all_goals first|exact⟨_,rfl,rfl⟩|exact M
 .unfold gz at *
  repeat' (first|refine st ?_|refine sb λD j=>?_|refine s2 (λh=>?_) λh=>?_|fail)
  exact⟨_,rfl,rfl⟩
section
variable {w:aG} {loc:List bv} (hw:WQ w) (hlo:loc.length<2^40)
include hw hlo
theorem LF(x:aa)(hx:x.wt<2^29)(h1:x.op=1):lN 136 [.agg x.row] w loc (ax.wts x.index+x.expr.wt+1):=by
 intro bg o out site next h0 hl
 have D:=x.wt_eq;rw[h1,show zv 1 x.expr.op=z0 x.expr.op from rfl]at D;have ve:=λd=>xF hw hlo _ x.expr d (Te _) UW
 have N:=λ(i:Nat) (h:i<x.index.length) d=>xF hw hlo _ x.index[i] d (Te _) (by have:=ax.wts_get0 x.index i h;omega);have gi:=ax.wts_get0 x.index;have B:=λ(i:Nat) (h:i<x.index.length)=>yx h;have ha:=Fu loc x.name UW;have hc:=Cc w x.name (by have:=hw.c;omega);refine ac.fz (p9 _ _ _ _ ?_);refine vw ?_;generalize hQ:(λ(v:AV) (L:SH)=>∃v2 L2,az [v] L [v2] L2/\∃(o':Option Nat) (out':List aT) (O Y:Int),_)=Q;have fin:=vz hQ;clear hQ;unfold aa.row ax.row at *;by_cases p:x.index.length=0
 .have d1:decide ((0:Int)<(x.index.length:Int))=false:=decide_eq_false UW;clear N gi B
  repeat' (first|refine st ?_|((with_reducible refine bb 140 ?_);(refine du (ve _) rp rp om an om (λo_ j s_ n_ E u M=>?_)))|(refine pf 108 ?_;refine pm (ha) ?_)|(refine pf 173 ?_;refine pm (hc) ?_)|((with_reducible refine bb 53 ?_);(refine dP rp rp om an om (λb_ j u=>?_)))|((with_reducible refine ew 53 ?_);refine mt ?_;refine dP rp rp om an om (λb_ j u ks_=>?_))|refine sb λZ G=>?_|refine s2 (λh=>?_) λh=>?_|fail)
  all_goals exact fin _ _ _ _ _ _ (.one (.here _) (.slotl .last)) om an om om
 .have d1:decide ((0:Int)<(x.index.length:Int))=true:=decide_eq_true UW;have S:0<x.index.length:=by omega
  have v0:=N 0 S;have g0:=gi 0 S;have x0:=B 0 S;obtain⟨b,hb,hcb⟩:=hw.q;have e3:x.name=[113]:=by
   by_cases g:x.name=[113]
   .exact g
   .unfold zi at D;rw[if_neg (by rintro(h|h);exact p h;exact g h)]at D;omega
  rw[e3,hcb]at hc;rw[e3];have hxc:=am (f:=aF.enc) hb;clear N gi B;generalize x.index[0]=a at *
  repeat' (first|refine st ?_|((with_reducible refine bb 140 ?_);(refine du (v0 _) rp rp om an om (λo_ j s_ n_ E u M=>?_)))|((with_reducible refine bb 140 ?_);(refine du (ve _) rp rp om an om (λo_ j s_ n_ E u M=>?_)))|(refine pf 173 ?_;refine pm (hc) ?_)|((with_reducible refine bb 53 ?_);(refine dP rp rp om an om (λb_ j u=>?_)))|refine sb λZ G=>?_|refine s2 (λh=>?_) λh=>?_|fail)
  exact fin _ _ _ _ _ _ (.one (.here _) (.slotl .last)) om an om om
theorem GP(x:aa){kb ke:Nat}(hx:x.wt<2^29)(h1:x.op=2\/x.op=3)(hB:lN 52 [.lst (x.body.map aa.enc)] w loc kb)(hE:lN 52 [.lst (x.els.map aa.enc)] w loc ke):lN 137 [.agg x.row] w loc (x.expr.wt+kb+ke+2):=by
 intro bg o out site next h0 hl
 have hwe:=x.wt_eq;have hz:zv x.op x.expr.op=z0 x.expr.op:=if_pos UW;have ve:=λd=>xF hw hlo _ x.expr d (Te _) UW
 refine ac.fz (nw _ _ _ _ ?_);refine vw ?_;generalize hQ:(λ(v:AV) (L:SH)=>∃v2 L2,az [v] L [v2] L2/\∃(o':Option Nat) (out':List aT) (site' next':Int),_)=Q;have fin:=vz hQ;clear hQ;unfold aa.row ax.row at *;clear hwe hz hx;generalize x.op=op at *;have h9:decide (op=3)=true\/decide (op=3)=false:=by cases decide (op=3)<;>simp
 have e9:decide ((x.els.length:Int)=0)=true\/decide ((x.els.length:Int)=0)=false:=by cases decide ((x.els.length:Int)=0)<;>simp
 clear h1;rcases h9 with h9|h9
 .repeat' (first|refine S5 UY om om (λj O D=>?_)|refine S6 UY om om (λj O D=>?_)|refine st ?_|refine Dy ?_|((with_reducible refine ew 140 ?_);refine mt ?_;refine du (ve _) rp rp om an om (λo_ j G M Z u B Y=>?_))|((with_reducible refine bb 53 ?_);(refine dP rp rp om an om (λN j u=>?_)))|((with_reducible refine bb 52 ?_);(refine o5 hB rp rp om om om (λN j G M u B=>?_)))|refine sb λS E=>?_|fail)
  exact fin _ _ _ _ _ _ (.one (.here _) (.slotl .last)) om an om om
 rcases e9 with e9|e9
 .repeat' (first|refine S5 UY om om (λj O D=>?_)|refine S6 UY om om (λj O D=>?_)|refine st ?_|refine Dy ?_|((with_reducible refine ew 140 ?_);refine mt ?_;refine du (ve _) rp rp om an om (λo_ j G M Z u B Y=>?_))|((with_reducible refine bb 53 ?_);(refine dP rp rp om an om (λN j u=>?_)))|((with_reducible refine bb 52 ?_);(refine o5 hB rp rp om om om (λN j G M u B=>?_)))|refine sb λS E=>?_|fail)
  exact fin _ _ _ _ _ _ (.one (.here _) (.slotl .last)) om an om om
 .repeat' (first|refine S5 UY om om (λj O D=>?_)|refine S6 UY om om (λj O D=>?_)|refine st ?_|refine Dy ?_|((with_reducible refine ew 140 ?_);refine mt ?_;refine du (ve _) rp rp om an om (λo_ j G M Z u B Y=>?_))|((with_reducible refine bb 53 ?_);(refine dP rp rp om an om (λN j u=>?_)))|((with_reducible refine bb 52 ?_);(refine o5 hB rp rp om om om (λN j G M u B=>?_)))|((with_reducible refine bb 52 ?_);(refine o5 hE rp rp om om om (λN j G M u B=>?_)))|refine sb λS E=>?_|fail)
  exact fin _ _ _ _ _ _ (.one (.here _) (.slotl .last)) om an om om
omit hw hlo in
theorem LG(x:aa){N:Nat}{f l ob:Int}(hB:lN 52 [.lst (x.body.map aa.enc)] w loc N):lN 138 [.agg x.row,.U1 f,.U1 l,.U1 ob] w loc (N+2):=by
 intro bg o Z E M h0 hl
 refine ac.fz (qa _ _ _ _ _ _ _ ?_);refine vw ?_;generalize S:(λ(v:AV) (L:SH)=>∃Y L2,az [v] L [Y] L2/\∃(o':Option Nat) (G:List aT) (u B:Int),_)=Q;have fin:=vz S;clear S;unfold aa.row at *
 repeat' (first|refine st ?_|((with_reducible refine bb 53 ?_);(refine dP rp rp om an om (λb_ j D=>?_)))|((with_reducible refine bb 52 ?_);(refine o5 hB rp rp om om om (λb_ j s_ n_ D hm_=>?_)))|refine sb λnb_ O=>?_|fail)
 exact fin _ _ _ _ _ _ (.one (.here _) (.slotl .last)) om an om om
theorem PR(x:aa){kb ke:Nat}(hx:x.wt<2^29)(hB:lN 52 [.lst (x.body.map aa.enc)] w loc kb)(hE:lN 52 [.lst (x.els.map aa.enc)] w loc ke):lN 96 [.agg x.row] w loc (ax.wts x.index+x.expr.wt+kb+ke+2):=by
 intro bg o out E G h0 hl
 have O:=x.wt_eq;have c1:=Je w.locks x.name (by have:=hw.l;omega);have c2:=Fu w.threads x.name (by have:=hw.t;omega);have c3:=Fu w.futures x.name (by have:=hw.f;omega);have c4:=Fu w.futures x.arg (by have:=hw.f;omega);have c5:=Fu loc x.name UW;have cc:=λ(v:AV) (E G:Int)=>PQ bg w loc v E G x.name (by have:=hw.d;omega)
 have ve:=λ(h:x.op=14) d=>xF hw hlo _ x.expr d (Te _) (by rw[h,show zv 14 x.expr.op=z0 x.expr.op from rfl]at O;omega);have va:=LF hw hlo x hx;have vb:=λh=>GP hw hlo x hx h hB hE
 have vr:=λ(f l ob:Int)=>LG x (f:=f) (l:=l) (ob:=ob) hB;refine ac.fz (tV _ _ _ _ ?_);refine vw ?_;generalize hQ:(λ(v:AV) (L:SH)=>∃v2 L2,az [v] L [v2] L2/\∃(o':Option Nat) (out':List aT) (Z next':Int),_)=Q;have fin:=vz hQ;clear hQ;clear hB hE O hx;obtain⟨op,line,name,arg,index,e,body,els⟩:=x;unfold aa.row ax.row at *;dsimp only[aa.op,aa.line,aa.name,aa.arg,aa.index,aa.expr,aa.body,aa.els]at *
 repeat' (first|refine st ?_|((with_reducible refine bb 136 ?_);(refine du (va (of_decide_eq_true UX)) rp rp om an om (λY j S M B u D=>?_)))|((with_reducible refine bb 137 ?_);(refine du (vb (by first|exact .inl (of_decide_eq_true UX)|exact .inr (of_decide_eq_true UX))) rp rp om an om (λY j S M B u D=>?_)))|((with_reducible refine ew 138 ?_);refine mt ?_;refine du (vr _ _ _) rp rp om an om (λY j S M B u D N=>?_))|((with_reducible refine bb 138 ?_);(refine du (vr _ _ _) rp rp om an om (λY j S M B u D=>?_)))|((with_reducible refine bb 139 ?_);(refine fM (cc _ _ _) rp ?_;rintro _ _ ⟨M,rfl,rfl⟩;dsimp only[List.cons_append,List.nil_append]))|((with_reducible refine ew 139 ?_);refine mt ?_;refine fM (cc _ _ _) rp ?_;rintro _ _ ⟨M,rfl,rfl⟩ N;dsimp only[List.cons_append,List.nil_append])|(refine pf 94 ?_;refine pm (c1) ?_)|(refine pf 108 ?_;refine pm (c2) ?_)|(refine pf 108 ?_;refine pm (c3) ?_)|(refine pf 108 ?_;refine pm (c4) ?_)|(refine pf 108 ?_;refine pm (c5) ?_)|((with_reducible refine bb 140 ?_);(refine du (ve (of_decide_eq_true UX) _) rp rp om an om (λY j S M B u D=>?_)))|((with_reducible refine bb 53 ?_);(refine dP rp rp om an om (λb_ j u=>?_)))|((with_reducible refine ew 53 ?_);refine mt ?_;refine dP rp rp om an om (λb_ j u N=>?_))|refine sb λnb_ hnb_=>?_|refine s2 (λh=>?_) λh=>?_|fail)
 all_goals exact fin _ _ _ _ _ _ (.one (.here _) (.slotl .last)) om an om om
end
end
mutual
def GQ(t:Nat):Nat->aa->List bQ
 |n,.mk _ line _ _ _ _ body els=>⟨t,n,line⟩::(sitL t (n+1) body++sitL t (n+1+aa.cnts body) els)
def sitL(t:Nat):Nat->List aa->List bQ
 |_,[]=>[]
 |n,x::l=>GQ t n x++sitL t (n+1+x.cnt) l
end
def Nd(t n:Nat)(x:aa):GQ t n x=⟨t,n,x.line⟩::(sitL t (n+1) x.body++sitL t (n+1+aa.cnts x.body) x.els):=by cases x;rw[GQ];rfl
mutual
def LH(t:Nat):∀(n:Nat) (x:aa),(GQ t n x).length=1+x.cnt
 |n,.mk a b c d e f body els=>by rw[GQ];simp only[TC,Tp,sitL_len t _ body,sitL_len t _ els,aa.cnt];omega
def sitL_len(t:Nat):∀(n:Nat) (l:List aa),(sitL t n l).length=aa.cnts l
 |n,[]=>rfl
 |n,x::l=>by rw[sitL];simp only[Tp,LH t _ x,sitL_len t _ l,aa.cnts]
end
def aa.cnts_append:∀l m:List aa,aa.cnts (l++m)=aa.cnts l+aa.cnts m
 |[],m=>by simp[aa.cnts]
 |x::l,m=>by simp only[Uq,aa.cnts,aa.cnts_append l m];omega
def wo(t:Nat):∀(n:Nat) (l m:List aa),sitL t n (l++m)=sitL t n l++sitL t (n+aa.cnts l) m
 |n,[],m=>by simp[sitL,aa.cnts]
 | n,x::l,m=>by simp only[Uq,sitL,wo t _ l m,aa.cnts,TS];rw[show n+1+x.cnt+aa.cnts l=n+(1+x.cnt+aa.cnts l) by omega]
def aN.celW(d:aN):List aF:=(List.range (max d.size 1).toNat).map λk=>⟨d.name,(k:Nat),d.size,decide (d.kind=2),d.init⟩
def bW(w:aG)(d:aN):aG:=
 if d.kind=1\/d.kind=2 then {w with cells:=w.cells++d.celW} else
 if d.kind=3\/d.kind=4 then {w with locks:=w.locks++[⟨d.name,decide (d.kind=4)⟩]} else
 if d.kind=5 then {w with conds:=w.conds++[⟨d.name,gr w.locks d.on⟩]} else {w with futures:=w.futures++[d.name]}
def aG.zero:aG:=⟨[],[],[],[],[],[]⟩
def dK(w:aG)(t:ai):aG:={w with threads:=w.threads++[t.name],sites:=w.sites++sitL w.threads.length 0 t.body}
def kI(p:bU):aG:=p.threads.foldl dK (p.decls.foldl bW aG.zero)
def rW{α β:Type}{f:β->α->β}{l:List α}{a:β}{i:Nat}(h:i<l.length):(l.take (i+1)).foldl f a=f ((l.take i).foldl f a) l[i]:=by rw[Th h,List.foldl_append];rfl
def Sf(t:Nat)(l:List aa):Prop:=∀(o:Option Nat) (out:List bQ) (n:Nat),(o=none->out=[])->out.length+aa.cnts l<2^30->n+aa.cnts l<2^30->
 ac Tryz.prog 95 [aj o out.length,.U1 t,.U1 n,.lst (l.map aa.enc)] (ab o 3 (out.map bQ.enc)) λu K=>∃(v:AV) (o':Option Nat),u=v/\v=.tup [aj o' (out++sitL t n l).length,.U1 ((n+aa.cnts l:Nat):Int)]/\(o'=none->out++sitL t n l=[])/\K=ab o' 3 ((out++sitL t n l).map bQ.enc)
def GR{t n k:Nat}{l:List aa}{o:Option Nat}{out:List bQ}{rows:List (List AV)}{L L2:SH}{KL:R}(h:Sf t l)(h2:ee o 3 rows L L2)(u:rows=out.map bQ.enc)(G:k=out.length)(O:o=none->out=[])(E:out.length+aa.cnts l<2^30)(D:n+aa.cnts l<2^30)
  (B:∀j:Option Nat,(j=none->out++sitL t n l=[])->KL (.tup [aj j (out++sitL t n l).length,.U1 ((n+aa.cnts l:Nat):Int)]) (L2++ab j 3 ((out++sitL t n l).map bQ.enc))):W.callM Tryz.prog 95 [aj o k,.U1 t,.U1 n,.lst (l.map aa.enc)] L KL:=by
 subst u G;refine tI (M:=L2) (h o out n O E D) h2.perm ?_;rintro _ _ ⟨v,j,rfl,rfl,N,rfl⟩;exact⟨_,Tt,B j N⟩
def LI(t:Nat):∀(k:Nat) (l:List aa),aa.wts l<=k->k<2^40->Sf t l:=by
 intro k
 induction k using Nat.strongRecOn with
 |_ k ih=>
  intro l hl hk o out n h0 h1 h2;have hlen:=aa.wts_len l;refine ac.fz (zW _ _ _ _ _ _ ?_);refine vw ?_;generalize hQ:(λ(v:AV) (L:SH)=>∃v2 L2,az [v] L [v2] L2/\∃(v:AV) (u:Option Nat),_)=Q;have fin:∀u:Option Nat,(u=none->out++sitL t n l=[])->Q (.tup [aj u (out++sitL t n l).length,.U1 ((n+aa.cnts l:Nat):Int)]) (ab u 3 ((out++sitL t n l).map bQ.enc)):=λu h=>by subst hQ;exact⟨_,_,.refl _ _,_,u,rfl,rfl,h,rfl⟩
  clear hQ;refine bz l.length (λi u=>([aj u (out++sitL t n (l.take i)).length,.U1 t,.U1 ((n+aa.cnts (l.take i):Nat):Int),.lst (l.map aa.enc),.U1 i],ab u 3 ((out++sitL t n (l.take i)).map bQ.enc))) (λi u=>u=none->out++sitL t n (l.take i)=[]) o (by simpa[sitL]using h0) (by simpa[sitL,aa.cnts]using az.refl _ _) ?_;rintro i o1 hi hG;dsimp only;refine vw ?_;generalize O:(λ(vs':List AV) (S:SH)=>∃j u,i<j/\j<=l.length/\_)=nx;rcases Nat.lt_or_ge i l.length with E|E
  .have hd:=aS E;have hi1:=aw E UW;have hx:=BD E;have hwi:=aa.wts_get l i E;have hwe:=(l[i]).wt_eq;have hce:=(l[i]).cnt_eq;have c1:=ih _ UW l[i].body (Te _) UW;have c2:=ih _ UW l[i].els (Te _) UW;have e1:l=l.take i++(l[i]::l.drop (i+1)):=by rw[List.getElem_cons_drop,List.take_append_drop]
   have e2:aa.cnts l=aa.cnts (l.take i)+(1+l[i].cnt+aa.cnts (l.drop (i+1))):=by
    conv=>lhs;rw[e1]
    rw[aa.cnts_append];rfl
   have e3:sitL t n (l.take (i+1))=sitL t n (l.take i)++GQ t (n+aa.cnts (l.take i)) l[i]:=by rw[Th E,wo];simp[sitL]
   have e4:aa.cnts (l.take (i+1))=aa.cnts (l.take i)+(1+l[i].cnt):=by rw[Th E,aa.cnts_append];simp[aa.cnts]
   have hn:∀(u:Option Nat) (B:List bQ) (m:Nat),B=out++sitL t n (l.take i)++GQ t (n+aa.cnts (l.take i)) l[i]->m=n+aa.cnts (l.take i)+(1+l[i].cnt)->(u=none->B=[])->∀S:SH,fE S (ab u 3 (B.map bQ.enc))->nx [aj u B.length,.U1 t,.U1 (m:Nat),.lst (l.map aa.enc),.U1 ((i+1:Nat):Int)] S:=by
    intro u B m Z q2 q3 S q4;subst O;refine⟨i+1,u,UW,UW,?_,?_⟩
    .rw[e3,<-TS,<-Z];exact q3
    .rw[e3,<-TS,<-Z,e4,<-Uf,<-q2];exact .pick q4 rfl
   clear O;have hlo:(out++sitL t n (l.take i)).length=out.length+aa.cnts (l.take i):=by rw[Tp,sitL_len]
   generalize out++sitL t n (l.take i)=OUT at *;generalize hN:n+aa.cnts (l.take i)=N at *;generalize l[i]=x at *;have a1:IntKind.i64.wrap ((N:Int)+1)=((N+1:Nat):Int):=by rw[TY _ UW];omega
   have Y:o1=none->OUT.map bQ.enc=[]:=λe=>by rw[hG e];rfl
   repeat' (first|refine st ?_|refine bA rp rp UZ (λe=>by first|simp[Y e]) UY UZ (by simp;omega) (by simp;omega) UY (λM D=>?_)|((with_reducible refine bb 95 ?_);(refine GR c1 (o:=some _) (out:=OUT++[⟨t,N,x.line⟩]) rp (by rw[List.map_append];rfl) UZ nofun (by simp;omega) UW (λo_ G=>?_);dsimp only[List.cons_append,List.nil_append]))|((with_reducible refine bb 95 ?_);(refine GR c2 rp rfl rfl G (by simp[sitL_len];omega) UW (λo_ G=>?_);dsimp only[List.cons_append,List.nil_append]))|refine sb λM D=>?_|refine s2 (λh=>?_) λh=>?_|fail)
   exact hn o_ _ _ (by simp[Nd,TS]) UW G _ (.slotl rp)
  .have hd:=aX E;have:i=l.length:=by omega
   subst this;rw[UQ]at *
   repeat' (first|refine st ?_|refine sb λM D=>?_|refine s2 (λh=>?_) λh=>?_|fail)
   exact fin _ hG
section
theorem Aa(o:Option Nat)(l:List bn)(x:bv)(h0:o=none->l=[])(Y:l.length<2^62):
  ac Tryz.prog 94 [aj o l.length,.str x] (ab o 2 (l.map bn.enc)) λu K=>u=.U1 (gr l x)/\K=ab o 2 (l.map bn.enc):=by
 refine mT _ _ _ _ ?_;refine vw ?_;generalize hL:ab o 2 (l.map bn.enc)=L;generalize S:(λ(u:AV) (K:SH)=>u=AV.U1 (gr l x)/\K=L)=Q;have M:∀r:Int,r=gr l x->Q (.U1 r) L:=λr h=>by subst S h;exact⟨rfl,rfl⟩
 clear S;subst hL;cases o with
 |none=>
  have:=h0 rfl;subst this;dsimp only[ab,aj,List.length_nil]at *;refine dw 0 (λ_=>True) (λi=>[.emp,.str x,.U1 i]) UW trivial rfl (λi E N Z _ G O=>by omega) (λi E N _ G=>?_);refine vw ?_
  repeat' (first|refine st ?_|refine sb λD j=>?_|refine s2 (λh=>?_) λh=>?_|fail)
  exact M _ rfl
 |some b1=>
  dsimp only[ab,aj]at *;refine dt l (λy=>decide (y.name=x)) (λi=>[.sl b1 0 l.length,.str x,.U1 i]) Y rfl (λi E N Z B G O=>?_) (λi E N B G=>?_)
  all_goals refine vw ?_
  .have hx:=am (f:=bn.enc) E
   repeat' (first|refine st ?_|refine sb λD j=>?_|refine s2 (λh=>?_) λh=>?_|fail)
   .exact M _ (by rw[gr,kZ E B h])
   .exact O h
  .repeat' (first|refine st ?_|refine sb λD j=>?_|refine s2 (λh=>?_) λh=>?_|fail)
   exact M _ (by rw[gr,fg B])
def PS:List AV:=[.nils,.nils,.nils,.nils,.nils,.nils]
def Ah(b2 b6:Nat)(oc ol od of ot os:Option Nat)(w:aG):SH:=
 (b6,⟨6,[[aj oc w.cells.length,aj ol w.locks.length,aj od w.conds.length,aj of w.futures.length,aj ot w.threads.length,aj os w.sites.length]]⟩)::(b2,⟨6,[PS]⟩) ::
  (ab oc 5 (w.cells.map aF.enc)++(ab ol 2 (w.locks.map bn.enc)++(ab od 2 (w.conds.map bP.enc)++(ab of 1 (w.futures.map au)++(ab ot 1 (w.threads.map au)++ab os 3 (w.sites.map bQ.enc))))))
structure Bk(b6:Nat)(oc ol od of ot os:Option Nat)(w:aG):Prop where
 c:oc=none->w.cells=[]
 l:ol=none->w.locks=[]
 d:od=none->w.conds=[]
 f:of=none->w.futures=[]
 t:ot=none->w.threads=[]
 s:os=none->w.sites=[]
 n:∀b,ol=some b->b6≠b
def N1(K:SH->Prop)(b2 b6:Nat)(w:aG):Prop:=∀(oc ol od of ot os:Option Nat) (L':SH) (v0 v1 v2 v3 v4 v5:AV) (r0 r1 r2 r3 r4 r5:List (List AV)),Bk b6 oc ol od of ot os w->
 fE L' ((b6,⟨6,[[v0,v1,v2,v3,v4,v5]]⟩)::(b2,⟨6,[PS]⟩)::(ab oc 5 r0++(ab ol 2 r1++(ab od 2 r2++(ab of 1 r3++(ab ot 1 r4++ab os 3 r5))))))->
 [v0,v1,v2,v3,v4,v5]=[aj oc w.cells.length,aj ol w.locks.length,aj od w.conds.length,aj of w.futures.length,aj ot w.threads.length,aj os w.sites.length]->
 r0=w.cells.map aF.enc->r1=w.locks.map bn.enc->r2=w.conds.map bP.enc->r3=w.futures.map au->r4=w.threads.map au->r5=w.sites.map bQ.enc->K L'
theorem N1.of{K:SH->Prop}{b2 b6:Nat}{w:aG}(h:∀(oc ol od of ot os:Option Nat) (j:SH),Bk b6 oc ol od of ot os w->fE j (Ah b2 b6 oc ol od of ot os w)->K j):N1 K b2 b6 w:=by intro oc ol od of ot os j Z Y S O N M r0 r1 r2 r3 r4 r5 D B u G e1 e2 E e4 e5;simp only[List.cons.injEq,and_true]at u;obtain⟨rfl,rfl,rfl,rfl,rfl,rfl⟩:=u;subst G e1 e2 E e4 e5;exact h oc ol od of ot os j D B
section
variable {n18:Kn} {b2 b6 i:Nat} {oc ol od of ot os:Option Nat} {w:aG} {rows tl:List (List AV)}
theorem N2{line size B:Int}{name O:bv}{u:Int}(hk:u=1\/u=2)(hs:size<=1000)(hi1:IntKind.i64.wrap ((i:Int)+1)=((i+1:Nat):Int))(D:Bk b6 oc ol od of ot os w)(hlen:w.cells.length<2^30)
  (hn:N1 (n18 [.pptr [[.lst rows,.lst tl]] 0 0,.ptr b2 0 0,.ptr b6 0 0,.U1 ((i+1:Nat):Int)]) b2 b6 {w with cells:=w.cells++aN.celW ⟨u,line,name,size,B,O⟩}) :
  W.loop (zX n18) [.pptr [[.lst rows,.lst tl]] 0 0,.ptr b2 0 0,.ptr b6 0 0,.U1 i,.pptr [[.U1 u,.U1 line,.str name,.U1 size,.U1 B,.str O]] 0 0,.U1 0] (Ah b2 b6 oc ol od of ot os w):=by
 generalize hN:(max size 1).toNat=N at *;have hN1:N<=1000:=by omega
 have hcl:aN.celW ⟨u,line,name,size,B,O⟩=(List.range N).map λk=>⟨name,(k:Nat),size,decide (u=2),B⟩:=by unfold aN.celW;rw[hN]
 rw[hcl]at hn;obtain⟨WK,E⟩:∃f:Nat->aG,f=λk=>{w with cells:=w.cells++(List.range k).map λk=>⟨name,(k:Nat),size,decide (u=2),B⟩}:=⟨_,rfl⟩
 refine bz (β:=Option Nat×Option Nat×Option Nat×Option Nat×Option Nat×Option Nat) N (λk q=>([.pptr [[.lst rows,.lst tl]] 0 0,.ptr b2 0 0,.ptr b6 0 0,.U1 i,.pptr [[.U1 u,.U1 line,.str name,.U1 size,.U1 B,.str O]] 0 0,.U1 k],Ah b2 b6 q.1 q.2.1 q.2.2.1 q.2.2.2.1 q.2.2.2.2.1 q.2.2.2.2.2 (WK k)))
  (λk q=>Bk b6 q.1 q.2.1 q.2.2.1 q.2.2.2.1 q.2.2.2.2.1 q.2.2.2.2.2 (WK k)) (oc,ol,od,of,ot,os) (by subst E;show Bk b6 oc ol od of ot os {w with cells:=w.cells++[]};rw[TZ];exact D) (by subst E;show az _ _ _ (Ah b2 b6 oc ol od of ot os {w with cells:=w.cells++[]});rw[TZ];exact az.refl _ _) ?_
 rintro k ⟨oc,ol,od,of,ot,os⟩ hk D;dsimp only at D ⊢;refine vw ?_;generalize S:(λ(vs':List AV) (L':SH)=>∃j o',k<j/\j<=N/\_)=nx;rcases Nat.lt_or_ge k N with Y|Y
 .have hd:=aS Y;have hk1:=aw Y UW;have hrs:List.range (k+1)=List.range k++[k]:=List.range_succ;have hgo:N1 (nx [.pptr [[.lst rows,.lst tl]] 0 0,.ptr b2 0 0,.ptr b6 0 0,.U1 i,.pptr [[.U1 u,.U1 line,.str name,.U1 size,.U1 B,.str O]] 0 0,.U1 ((k+1:Nat):Int)]) b2 b6 {w with cells:=w.cells++(List.range k).map (λk=>(⟨name,(k:Nat),size,decide (u=2),B⟩:aF))++[⟨name,(k:Nat),size,decide (u=2),B⟩]}:=.of λoc2 ol2 od2 of2 Z os2 L' q1 q2=>by
   subst S;subst E;have e:(λk=>({w with cells:=w.cells++(List.range k).map λk=>(⟨name,(k:Nat),size,decide (u=2),B⟩:aF)}:aG)) (k+1)={w with cells:=w.cells++(List.range k).map (λk=>(⟨name,(k:Nat),size,decide (u=2),B⟩:aF))++[⟨name,(k:Nat),size,decide (u=2),B⟩]}:=by show({w with cells:=w.cells++(List.range (k+1)).map (λk=>(⟨name,(k:Nat),size,decide (u=2),B⟩:aF))}:aG)=_;rw[hrs,Ti,<-TS];rfl
   exact⟨k+1,(oc2,ol2,od2,of2,Z,os2),UW,UW,by rw[e];exact q1,by rw[e];exact az.pick q2 rfl⟩
  clear S;have hCl:(w.cells++(List.range k).map (λk=>(⟨name,(k:Nat),size,decide (u=2),B⟩:aF))).length<2^31:=by simp;omega
  obtain⟨wc,wl,wd,wf,wt,ws⟩:=w;subst E;dsimp only at *;generalize wc++(List.range k).map (λk=>(⟨name,(k:Nat),size,decide (u=2),B⟩:aF))=C at *;have hC0:oc=none->C.map aF.enc=[]:=λe=>by have hc:=D.c e;dsimp only at hc;rw[hc];rfl
  unfold Ah
  repeat' (first|rw[hN]|refine st ?_|refine bA rp rp UZ (λe=>by first|simp[hC0 e]) UY UZ (by simp;omega) (by simp;omega) UY (λM G=>?_)|refine Lt ?_|refine sb λM G=>?_|refine s2 (λh=>?_) λh=>?_|fail)
  exact hgo (some M) ol od of ot os _ _ _ _ _ _ _ _ _ _ _ _ _ ⟨nofun,D.l,D.d,D.f,D.t,D.s,D.n⟩ rp (by simp[aj]) (by rw[Ti];rfl) rfl rfl rfl rfl rfl
 .have hd:=aX Y;have e:k=N:=by omega
  subst e;subst E;dsimp only at *;unfold Ah
  repeat' (first|rw[hN]|refine st ?_|refine Lt ?_|refine sb λM G=>?_|refine s2 (λh=>?_) λh=>?_|fail)
  exact hn oc ol od of ot os _ _ _ _ _ _ _ _ _ _ _ _ _ D rp rfl rfl rfl rfl rfl rfl rfl
theorem Nf{o:Option Nat}{l:List bn}{x:bv}{i:Nat}{us:List W.WR}{L j:SH}{B:AV->SH->List Nat->Prop}(O:o=none->l=[])(D:l.length<2^62)(h2:ee o 2 (l.map bn.enc) L j)(G:∀z∈us,W.free z ⟨i,[],(ab o 2 (l.map bn.enc)).names,[],true,[]⟩)
  (E:B (.U1 (gr l x)) (ab o 2 (l.map bn.enc)++j) (ab o 2 (l.map bn.enc)).names):W.dcallM Tryz.prog us i 94 [aj o l.length,.str x] L B:=
 ⟨ab o 2 (l.map bn.enc),j,h2.perm,G,(Aa o l x O D).mono λu K ⟨N,M⟩=>by subst N M;exact E⟩
theorem Ng{o:Option Nat}{b6 n i j k:Nat}{rows:List (List AV)}(h:∀b,o=some b->b6≠b):∀z∈[rm i rz,rm j ⟨af (.ptr b6 0 n),[],[],[]⟩],W.free z ⟨k,[],(ab o 2 rows).names,[],true,[]⟩:=by
 intro z u;simp only[To,T6,or_false]at u;rcases u with rfl|rfl
 .exact⟨nofun,nofun,nofun,nofun,λ_=>rfl⟩
 .refine⟨nofun,?_,nofun,nofun,λ_=>rfl⟩;intro c B;have:c=b6:=by simpa[rm,af]using B
  subst this;cases o with
  |none=>simp[ab,SH.names]
  |some b=>have:=h b rfl;simpa[ab,SH.names]using this
theorem PT{d:aN}(hr:rows[i]? =some d.enc)(hk:1<=d.kind/\d.kind<=6)(hs:d.size<=1000)(hi1:IntKind.i64.wrap ((i:Int)+1)=((i+1:Nat):Int))(u:Bk b6 oc ol od of ot os w)(h1:w.cells.length<2^30)(h2:w.locks.length<2^30)(h3:w.conds.length<2^30)(h4:w.futures.length<2^30)
  (O:N1 (n18 [.pptr [[.lst rows,.lst tl]] 0 0,.ptr b2 0 0,.ptr b6 0 0,.U1 ((i+1:Nat):Int)]) b2 b6 (bW w d)) :
  zY n18 (Ah b2 b6 oc ol od of ot os w) (.pptr [[.lst rows,.lst tl]] 0 0) (.U1 i) (.ptr b2 0 0) (.ptr b6 0 0):=by
 obtain⟨M,E,j,size,G,S⟩:=d;have hr':rows[i]? =some [.U1 M,.U1 E,.str j,.U1 size,.U1 G,.str S]:=hr;clear hr;dsimp only at hk hs;have Z:ol=none->w.locks.map bn.enc=[]:=λe=>by rw[u.l e];rfl
 have hd0:od=none->w.conds.map bP.enc=[]:=λe=>by rw[u.d e];rfl
 have hf0:of=none->w.futures.map au=[]:=λe=>by rw[u.f e];rfl
 have hlk:=Aa ol w.locks S u.l UW;have hc:M=1\/M=2\/M=3\/M=4\/M=5\/M=6:=by omega
 refine vw ?_;rcases hc with rfl|rfl|rfl|rfl|rfl|rfl
 .have N:bW w ⟨1,E,j,size,G,S⟩={w with cells:=w.cells++aN.celW ⟨1,E,j,size,G,S⟩}:=by unfold bW;rw[if_pos (.inl rfl)]
  rw[N]at O;have Y:=N2 (.inl rfl) hs hi1 u h1 O;unfold Ah at Y ⊢
  repeat' (first|exact Y|refine st ?_|refine sb λD B=>?_|refine s2 (λh=>?_) λh=>?_|fail)
 .have N:bW w ⟨2,E,j,size,G,S⟩={w with cells:=w.cells++aN.celW ⟨2,E,j,size,G,S⟩}:=by unfold bW;rw[if_pos (.inr rfl)]
  rw[N]at O;have Y:=N2 (.inr rfl) hs hi1 u h1 O;unfold Ah at Y ⊢
  repeat' (first|exact Y|refine st ?_|refine sb λD B=>?_|refine s2 (λh=>?_) λh=>?_|fail)
 .have N:bW w ⟨3,E,j,size,G,S⟩={w with locks:=w.locks++[⟨j,decide ((3:Int)=4)⟩]}:=rfl;rw[N]at O;unfold Ah
  repeat' (first|refine st ?_|refine bA rp rp UZ (λe=>by first|simp[Z e]) UY UZ (by simp;omega) (by simp;omega) UY (λD B=>?_)|refine sb λD B=>?_|refine s2 (λh=>?_) λh=>?_|fail)
  exact O oc (some D) od of ot os _ _ _ _ _ _ _ _ _ _ _ _ _ ⟨u.c,nofun,u.d,u.f,u.t,u.s,λb e=>by cases e;rintro rfl;exact B (by simp[SH.names])⟩ rp (by simp[aj]) rfl (by rw[Ti];rfl) rfl rfl rfl rfl
 .have N:bW w ⟨4,E,j,size,G,S⟩={w with locks:=w.locks++[⟨j,decide ((4:Int)=4)⟩]}:=rfl;rw[N]at O;unfold Ah
  repeat' (first|refine st ?_|refine bA rp rp UZ (λe=>by first|simp[Z e]) UY UZ (by simp;omega) (by simp;omega) UY (λD B=>?_)|refine sb λD B=>?_|refine s2 (λh=>?_) λh=>?_|fail)
  exact O oc (some D) od of ot os _ _ _ _ _ _ _ _ _ _ _ _ _ ⟨u.c,nofun,u.d,u.f,u.t,u.s,λb e=>by cases e;rintro rfl;exact B (by simp[SH.names])⟩ rp (by simp[aj]) rfl (by rw[Ti];rfl) rfl rfl rfl rfl
 .have N:bW w ⟨5,E,j,size,G,S⟩={w with conds:=w.conds++[⟨j,gr w.locks S⟩]}:=rfl;rw[N]at O;unfold Ah;rcases ol with _|bl_
  all_goals
   repeat' (first|refine st ?_|refine bA rp rp UZ (λe=>by first|simp[hd0 e]) UY UZ (by simp;omega) (by simp;omega) UY (λD B=>?_)|((with_reducible refine ew 94 ?_);refine Nf u.l UW rp (Ng u.n) ?_;dsimp only[xB,xC,List.nil_append,List.cons_append])|refine sb λD B=>?_|refine s2 (λh=>?_) λh=>?_|fail)
  .exact O oc none (some D) of ot os _ _ _ _ _ _ _ _ _ _ _ _ _ ⟨u.c,u.l,nofun,u.f,u.t,u.s,u.n⟩ rp (by simp[aj]) rfl rfl (by rw[Ti];rfl) rfl rfl rfl
  .exact O oc (some bl_) (some D) of ot os _ _ _ _ _ _ _ _ _ _ _ _ _ ⟨u.c,u.l,nofun,u.f,u.t,u.s,u.n⟩ rp (by simp[aj]) rfl rfl (by rw[Ti];rfl) rfl rfl rfl
 .have N:bW w ⟨6,E,j,size,G,S⟩={w with futures:=w.futures++[j]}:=rfl;rw[N]at O;unfold Ah
  repeat' (first|refine st ?_|refine bA rp rp UZ (λe=>by first|simp[hf0 e]) UY UZ (by simp;omega) (by simp;omega) UY (λD B=>?_)|refine sb λD B=>?_|refine s2 (λh=>?_) λh=>?_|fail)
  exact O oc ol od (some D) ot os _ _ _ _ _ _ _ _ _ _ _ _ _ ⟨u.c,u.l,u.d,nofun,u.t,u.s,u.n⟩ rp (by simp[aj]) rfl rfl rfl (by rw[Ti];rfl) rfl rfl
end
end
section
theorem PU(o:Option Nat)(l:List bv)(k:Nat)(R:SH)(x:bv)(h0:o=none->l=[])(S:k<=l.length)(hl:k<2^62):
  ac Tryz.prog 108 [aj o k,.str x] (ab o 1 (l.map au)++R) λu K=>∃r:Int,u=.U1 r/\K=ab o 1 (l.map au)++R:=by
 refine jT _ _ _ _ ?_;refine vw ?_;generalize Z:ab o 1 (l.map au)++R=L;generalize O:(λ(u:AV) (K:SH)=>∃r:Int,u=AV.U1 r/\K=L)=Q;have E:∀r:Int,Q (.U1 r) L:=λr=>by subst O;exact⟨r,rfl,rfl⟩
 clear O;subst Z;cases o with
 |none=>
  have:=h0 rfl;subst this;obtain rfl:k=0:=by simpa using S
  dsimp only[ab,aj,List.nil_append]at *;refine dw 0 (λ_=>True) (λi=>[.emp,.str x,.U1 i]) UW trivial rfl (λi M G Y _ D N=>by omega) (λi M G _ D=>?_);refine vw ?_
  repeat' (first|refine st ?_|refine sb λB j=>?_|refine s2 (λh=>?_) λh=>?_|fail)
  exact E _
 |some b1=>
  dsimp only[ab,aj,List.cons_append,List.nil_append]at *;refine dw k (λ_=>True) (λi=>[.sl b1 0 k,.str x,.U1 i]) UW trivial rfl (λi M G Y _ D N=>?_) (λi M G _ D=>?_)
  all_goals refine vw ?_
  .have hx:=am (f:=au) (l:=l) (i:=i) UW
   repeat' (first|refine st ?_|refine sb λB j=>?_|refine s2 (λh=>?_) λh=>?_|fail)
   all_goals first
    |exact E _
    |exact N trivial
  .repeat' (first|refine st ?_|refine sb λB j=>?_|refine s2 (λh=>?_) λh=>?_|fail)
   exact E _
def bI(bt:Nat)(th le:Int)(se tx at_ lo:Bool)(o:Option Nat)(k:Nat):Blk:=lK bt (.U1 th) (.U1 le) (.bool se) (.bool tx) (.bool at_) (.bool lo) (aj o k)
def Qk(f:FuncId)(args:List AV)(d:Nat)(good:AV->Prop):Prop:=∀(bm bt:Nat) (t:List UInt8) (a:Nat) (th le:Int) (se tx at_ lo:Bool) (o:Option Nat) (ar:List bv) (k:Nat),t.length<2^40->a<=t.length->(o=none->ar=[])->k<=ar.length->k+d<=900->
 ac Tryz.prog f (.ptr bm 0 0::args) ((bm,bI bt th le se tx at_ lo o k)::(bt,aZ t a)::ab o 1 (ar.map au)) λu K=>∃(v:AV) (a':Nat) (th' le':Int) (se' tx' at' lo':Bool) (o':Option Nat) (ar':List bv),u=v/\good v/\a'<=t.length/\(o'=none->ar'=[])/\k<=ar'.length/\K=(bm,bI bt th' le' se' tx' at' lo' o' k)::(bt,aZ t a')::ab o' 1 (ar'.map au)
theorem lO{j b2:Nat}{x1 x2:Blk}{o:Option Nat}{n:Nat}{rows:List (List AV)}{L L1 L2 L3:SH}(B:eO j x1 L L1)(h2:eO b2 x2 L1 L2)(u:ee o n rows L2 L3):L.Perm (((j,x1)::(b2,x2)::ab o n rows)++L3):=
 B.perm.trans ((h2.perm.trans ((u.perm).cons _)).cons _)
section
variable {f:FuncId} {args:List AV} {d:Nat} {good:AV->Prop} {bm bt:Nat} {t:List UInt8} {a:Nat} {th le:Int} {se tx at_ lo:Bool} {o:Option Nat} {ar:List bv} {k:Nat} {L L1 L2 L3:SH}
theorem HT{KL:R}(h:Qk f args d good)(h1:eO bm (bI bt th le se tx at_ lo o k) L L1)(h2:eO bt (aZ t a) L1 L2)(h3:ee o 1 (ar.map au) L2 L3)(ht:t.length<2^40)(ha:a<=t.length)(ho:o=none->ar=[])(hk:k<=ar.length)(hd:k+d<=900)
  (hq:∀(v:AV) (O:Nat) (B G:Int) (D u M E:Bool) (N:Option Nat) (j:List bv),good v->O<=t.length->(N=none->j=[])->k<=j.length->KL v ((bm,bI bt B G D u M E N k)::(bt,aZ t O)::(ab N 1 (j.map au)++L3))):W.callM Tryz.prog f (.ptr bm 0 0::args) L KL:=by
 refine CD (h bm bt t a th le se tx at_ lo o ar k ht ha ho hk hd) (lO h1 h2 h3) ?_;rintro _ _ ⟨v,O,B,G,D,u,M,E,N,j,rfl,q1,Z,Y,S,rfl⟩;exact hq _ O B G D u M E N j q1 Z Y S
theorem LJ{i:Nat}{us:List W.WR}{S:AV->SH->List Nat->Prop}(h:Qk f args d good)(h1:eO bm (bI bt th le se tx at_ lo o k) L L1)(h2:eO bt (aZ t a) L1 L2)(h3:ee o 1 (ar.map au) L2 L3)(ht:t.length<2^40)(ha:a<=t.length)(ho:o=none->ar=[])(hk:k<=ar.length)(hd:k+d<=900)
  (hf:∀y∈us,W.free y ⟨i,[],SH.names ((bm,bI bt th le se tx at_ lo o k)::(bt,aZ t a)::ab o 1 (ar.map au)),[],true,[]⟩)
  (hq:∀(v:AV) (O:Nat) (B G:Int) (D u M E:Bool) (N:Option Nat) (j:List bv) (ks:List Nat),good v->O<=t.length->(N=none->j=[])->k<=j.length->S v ((bm,bI bt B G D u M E N k)::(bt,aZ t O)::(ab N 1 (j.map au)++L3)) ks):W.dcallM Tryz.prog us i f (.ptr bm 0 0::args) L S:=by
 refine⟨_,L3,lO h1 h2 h3,hf,(h bm bt t a th le se tx at_ lo o ar k ht ha ho hk hd).mono ?_⟩;rintro _ _ ⟨v,O,B,G,D,u,M,E,N,j,rfl,q1,q2,Z,Y,rfl⟩;exact hq _ O B G D u M E N j _ q1 q2 Z Y
theorem Ab{v j:AV}{x1 x2:Blk}{rows:List (List AV)}(D:eO bm x1 L L1)(h2:eO bt x2 L1 L2)(B:ee o 1 rows L2 L3)(u:Fz L3 v j):az [v] L [j] ((bm,x1)::(bt,x2)::ab o 1 rows):=by
 refine .drop (K:=L3) ((lO D h2 B).trans Tt) rfl λi a E e1 e2=>?_
 match i with
 |0=>cases e1;cases e2;exact u
 |i+1=>simp at e1
end
def cq(d:Nat):Nat:=100*10^d
def LK(d:Nat)(v:AV):Prop:=∃x:aa,v=.agg x.row/\x.wt<=cq d
def Ac(n:Nat)(v:AV):Prop:=∃l:List aa,v=.lst (l.map aa.enc)/\aa.wts l<=n
def LL(d:Nat):Prop:=Qk 97 [.U1 (d:Int)] d (LK d)
def LM(d:Nat):Prop:=∀n:Nat,n<=10->Qk 57 [.U1 (d:Int),.U1 (n:Int)] d (Ac (n*cq d))
def PV(d:Nat):Prop:=∀s:bv,Qk 145 [.str s,.U1 (d:Int)] (d+1) (Ac (2*cq d))
theorem Ad(l:List aa)(x:aa):aa.wts (l++[x])=aa.wts l+x.wt:=by
 induction l with
 |nil=>simp[aa.wts]
 |cons y l j=>simp only[Uq,aa.wts,j];omega
def dI(d:Nat):Prop:=∀n:Nat,n<=10->∀(bm bt:Nat) (t:List UInt8) (a:Nat) (th le:Int) (se tx at_ lo:Bool) (o:Option Nat) (ar:List bv) (k:Nat),t.length<2^40->a<=t.length->(o=none->ar=[])->k<=ar.length->k+d<=900->
 ac Tryz.prog 57 [.ptr bm 0 0,.U1 (d:Int),.U1 (n:Int)] ((bm,bI bt th le se tx at_ lo o k)::(bt,aZ t a)::ab o 1 (ar.map au)) λu K=>∃(a':Nat) (th' le':Int) (se' tx' at' lo':Bool) (o':Option Nat) (ar':List bv) (l:List aa) (ol:Option Nat),u=aj ol l.length/\(ol=none->l=[])/\aa.wts l<=n*cq d/\a'<=t.length/\(o'=none->ar'=[])/\k<=ar'.length/\K=(bm,bI bt th' le' se' tx' at' lo' o' k)::(bt,aZ t a')::(ab o' 1 (ar'.map au)++ab ol 11 (l.map aa.enc))
theorem Dz(d:Nat)(hS:LL d):dI d:=by
  intro n hn bm bt t a th le se tx at_ lo o ar k ht ha ho hk hd;refine p7 _ _ _ _ _ ?_;refine vw ?_;generalize hQ:(λ(u:AV) (K:SH)=>∃(a':Nat) (G S:Int) (M E Y O:Bool) (Z:Option Nat) (j:List bv) (l:List aa) (B:Option Nat),u=aj B l.length/\(B=none->l=[])/\aa.wts l<=n*cq d/\a'<=t.length/\(Z=none->j=[])/\k<=j.length/\K=(bm,bI bt G S M E Y O Z k)::(bt,aZ t a')::(ab Z 1 (j.map au)++ab B 11 (l.map aa.enc)))=Q;have hq:∀(l:List aa) (B:Option Nat) (a':Nat) (G S:Int) (M E Y O:Bool) (Z:Option Nat) (j:List bv),(B=none->l=[])->aa.wts l<=n*cq d->a'<=t.length->(Z=none->j=[])->k<=j.length->Q (aj B l.length) ((bm,bI bt G S M E Y O Z k)::(bt,aZ t a')::(ab Z 1 (j.map au)++ab B 11 (l.map aa.enc))):=λl B a' G S M E Y O Z j h4 h5 h6 h7 h8=>by subst hQ;exact⟨a',G,S,M,E,Y,O,Z,j,l,B,rfl,h4,h5,h6,h7,h8,rfl⟩
  clear hQ;refine bz (β:=Nat×Int×Int×Bool×Bool×Bool×Bool×Option Nat×List bv×Option Nat×List aa) n (λi ⟨a,th,le,se,tx,at_,lo,o,ar,B,xs⟩=>([.ptr bm 0 0,.U1 d,.U1 n,aj B i,.U1 i],(bm,bI bt th le se tx at_ lo o k)::(bt,aZ t a)::(ab o 1 (ar.map au)++ab B 11 (xs.map aa.enc))))
    (λi ⟨a,th,le,se,tx,at_,lo,o,ar,B,xs⟩=>a<=t.length/\(o=none->ar=[])/\k<=ar.length/\(B=none->xs=[])/\xs.length=i/\aa.wts xs<=i*cq d) ⟨a,th,le,se,tx,at_,lo,o,ar,none,[]⟩ ⟨ha,ho,hk,λ_=>rfl,rfl,by simp[aa.wts]⟩ ?_ ?_
  · exact az.vals (.cons (.refl _) (.cons (.refl _) (.cons (.refl _) (.cons .nile (.cons (.refl _) .nil))))) |> λh=>by simpa[aj,ab]using h
  · rintro i ⟨a,th,le,se,tx,at_,lo,o,ar,B,xs⟩ hi ⟨ha,ho,hk,hol,hxl,hxw⟩
    dsimp only at ha ho hk hol hxl hxw ⊢;refine vw ?_;generalize hnx:(λ(vs':List AV) (L':SH)=>_)=nx;have hn:∀(a:Nat) (th le:Int) (se tx at_ lo:Bool) (o:Option Nat) (ar:List bv) (nb:Nat) (x:aa) (L':SH),i<n->fE L' ((bm,bI bt th le se tx at_ lo o k)::(bt,aZ t a)::(ab o 1 (ar.map au)++ab (some nb) 11 ((xs++[x]).map aa.enc)))->a<=t.length->(o=none->ar=[])->k<=ar.length->x.wt<=cq d->nx [.ptr bm 0 0,.U1 d,.U1 n,.sl nb 0 (i+1),.U1 ((i+1:Nat):Int)] L':=by intro a th le se tx at_ lo o ar nb x L' q0 q1 q2 q3 q4 q5;subst hnx;refine⟨i+1,⟨a,th,le,se,tx,at_,lo,o,ar,some nb,xs++[x]⟩,UW,UW,⟨q2,q3,q4,nofun,by simp;omega,?_⟩,az.pick q1 rfl⟩;dsimp only;rw[Ad,Nat.add_mul,Nat.one_mul];omega
    clear hnx;subst hxl;have D:∀(L:SH) (v:AV),L=(bm,bI bt th le se tx at_ lo o k)::(bt,aZ t a)::(ab o 1 (ar.map au)++ab B 11 (xs.map aa.enc))->v=aj B xs.length->Q v L:=by rintro _ _ rfl rfl;exact hq xs B a th le se tx at_ lo o ar hol (Tx hxw (TD _ hi)) ha ho hk
    rcases Tf xs.length n with g|g
    · have hd1:=aS g
      have hi1:=aw g UW;unfold bI lK at D ⊢
      repeat' (first|refine st ?_|((with_reducible refine bb 97 ?_);(refine HT hS rp rp rp ht UX UX UX hd ?_;rintro _ a_ th_ le_ se_ tx_ at_ lo_ o_ ar_ ⟨x_,rfl,hx_⟩ ha_ ho_ hk_))|refine bA rp rp UZ (λe=>by first|simp[hol e]) UY UZ (by simp;omega) (by simp;omega) UY (λN hnb_=>?_)|refine sb λN hnb_=>?_|refine s2 (λh=>?_) λh=>?_|fail)
      all_goals first
        |exact D _ _ rfl rfl
        | (have e_ : ab (some N) 11 ((xs ++ [x_]).map aa.enc) = [(N, ⟨11, xs.map aa.enc ++ [x_.row]⟩)] := by rw [ab, Ti, Tj, TV, aa.enc_row]
           refine hn a_ th_ le_ se_ tx_ at_ lo_ o_ ar_ N x_ _ g ?_ ha_ ho_ hk_ hx_;rw[e_];exact .one (.there _ (.there _ (.here _))) (.one (.there _ (.there _ (.here _))) (.slot (.there _ (.there _ (.here _))) (.one (.here _) (.nil _)))))
    · have hd1:=aX g
      unfold bI lK at D ⊢
      repeat' (first|refine st ?_|refine sb λN hnb_=>?_|refine s2 (λh=>?_) λh=>?_|fail)
      exact D _ _ rfl rfl
theorem DA(d:Nat)(hS:dI d):LM d:=by intro n hn bm bt t a th le se tx at_ lo o ar k Y ha Z hk hd;refine ac.fz ((hS n hn bm bt t a th le se tx at_ lo o ar k Y ha Z hk hd).mono ?_);rintro _ _ ⟨a',B,G,D,u,N,E,S,O,l,ol,rfl,M,j,h3,h4,h5,rfl⟩;exact⟨_,_,Ab (.here _) (.here _) (.here _) (Fz.slot (f:=aa.enc) (g:=aa.enc) rfl (λe=>by simp[M e]) U0 (λ_ _=>rfl) λy _ q a a2 M j=>by rw[M]at j;cases j;exact .refl _),_,a',B,G,D,u,N,E,S,O,rfl,⟨l,rfl,j⟩,h3,h4,h5,rfl⟩
theorem Nh{r:Nat}(h:r<100):IntKind.i64.wrap (1+(r:Int))=((1+r:Nat):Int):=by rw[TY _ UW];omega
theorem Ac.le{n m:Nat}{v:AV}(h:Ac n v)(u:n<=m):Ac m v:=by obtain⟨l,j,B⟩:=h;exact⟨l,j,UW⟩
theorem Ni(d:Nat)(hS:LM d):PV d:=by
 intro s bm bt t a th le se tx at_ lo o ar k ht ha ho hk hd;refine ac.fz (pZ _ _ _ _ _ ?_);refine vw ?_;generalize hQ:(λ(v:AV) (L:SH)=>∃v2 L2,az [v] L [v2] L2/\∃(v:AV) (Y:Nat) (B G:Int) (D u M E:Bool) (N:Option Nat) (j:List bv),v2=v/\Ac (2*cq d) v/\Y<=t.length/\(N=none->j=[])/\k<=j.length/\L2=(bm,bI bt B G D u M E N k)::(bt,aZ t Y)::ab N 1 (j.map au))=Q;have hq:∀(v:AV) (Y:Nat) (B G:Int) (D u M E:Bool) (N:Option Nat) (j:List bv) (L:SH),Ac (2*cq d) v->fE L ((bm,bI bt B G D u M E N k)::(bt,aZ t Y)::ab N 1 (j.map au))->Y<=t.length->(N=none->j=[])->k<=j.length->Q v L:=λv Y B G D u M E N j L h1 h2 h6 h7 h8=>by subst hQ;exact⟨_,_,az.pick h2 rfl,_,Y,B,G,D,u,M,E,N,j,rfl,h1,h6,h7,h8,rfl⟩
 clear hQ;unfold bI lK
 repeat' (first|refine g9 (qW ?_ (Nh UW))|refine st ?_|refine Fq (r:=[.str s]) rp UY rp (by simpa using hk) (λe=>by simp[ho e]) UW UW UY (λS O=>?_)|((with_reducible refine bb 56 ?_);(refine fS ht UX rp (λr_ a_ hr_ ha_=>?_)))|refine sb λS O=>?_|refine s2 (λh=>?_) λh=>?_|fail)
 have er:List.take k (ar.map au)++[[.str s]]=(ar.take k++[s]).map au:=by rw[Ti,List.map_take];rfl
 rw[er];refine HT (o:=some S) (ar:=ar.take k++[s]) (k:=k+1) (hS (1+r_) UW) rp rp (.here _) ht ha_ nofun (by simp[Ud hk]) UW ?_;intro v a2 th2 le2 se2 Z at2 lo2 o2 ar2 hg ha2 ho2 hk2;rcases o2 with _|b2
 .exfalso;have:=ho2 rfl;subst this;simp at hk2
 unfold bI lK;refine vw ?_;dsimp only[ab,aj,List.cons_append,List.nil_append];have es:IntKind.i64.wrap (((k+1:Nat):Int)-1)=(k:Int):=by rw[IntWalk.i64_in _ UW];omega
 repeat' (first|refine st ?_|refine vf ?_ (UK _) rp rfl|refine sb λS O=>?_|refine s2 (λh=>?_) λh=>?_|fail)
 exact hq v a2 th2 le2 se2 Z at2 lo2 (some b2) ar2 _ (hg.le (TD _ UW)) (.one (.here _) (.one (.here _) (.one (.here _) (.nil _)))) ha2 nofun UW
end
end Go.Proofs.YtbofdbhnbodbiaaGreatDoor.Am
