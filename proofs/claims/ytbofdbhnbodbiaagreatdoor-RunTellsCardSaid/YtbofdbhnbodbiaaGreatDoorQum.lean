/- A part of the proof; the statement is proved in the last part. -/
import Derived.Test.YtbofdbhnbodbiaaGreatDoorQul
set_option linter.all false
set_option maxRecDepth 100000
set_option maxHeartbeats 20000000
namespace Go.Proofs.YtbofdbhnbodbiaaGreatDoor.Am
section
def jP:List AV:=[.U1 0,.nils,.nils,.U1 0]
theorem pj{P:Program}{KL B:AV->SH->Prop}{g:FuncId}{args:List AV}{L K R:SH}(h:ac P g args K B)(G:L.Perm (K++R))(E:∀v j,B v j->KL v (R++j)):W.callM P g args L KL:=
 ⟨.perm (h.frame G λu j D=>⟨R++j,Tt,E u j D⟩)⟩
theorem Kx(s:aD)(E:Nat)(o t:Option Nat)(ho:o=none->s.regs=[])(ht:t=none->s.taint=[])(u:s.taint.length=s.regs.length)(B:s.regs.length<2^40)(D:∀l∈s.taint,l.length<=2^30)(i:aT)(S:1<=i.op)(O:i.op<=5):
  ac Tryz.prog 123 [.ptr E 0 0,.agg i.enc] (jc s E o t) (uC (aM i s) E o t):=by
 obtain⟨op,N,M,G,n,j⟩:=i;dsimp only at S O;obtain rfl|rfl|rfl|rfl|rfl:op=1\/op=2\/op=3\/op=4\/op=5:=by omega
 .exact OP s E o t ho ht u B D N M G n j
 .exact OQ s E o t ho ht u B D N M G n j
 .exact OR s E o t ho ht u B D N M G n j
 .exact OS s E o t ho ht u B D N M G n j
 .exact OO s E o t ho ht u B D N M G n j
theorem sO(s:aD)(a v:Int)(t:List Int):(s.put a v t).regs.length=s.regs.length/\(s.put a v t).taint.length=s.taint.length:=by simp[aD.put]
theorem uD{s s2:aD}{i:aT}(j:aM i s=some s2):s2.regs.length=s.regs.length/\s2.taint.length=s.taint.length:=by
 unfold aM at j;split at j
 .split at j
  .cases j;exact sO _ _ _ _
  .cases j
 .split at j
  .split at j
   .cases j;exact sO _ _ _ _
   .cases j
  .split at j
   .split at j
    .cases j;exact sO _ _ _ _
    .cases j
   .split at j
    .split at j
     .cases j;exact sO _ _ _ _
     .cases j
    .cases j;exact⟨rfl,rfl⟩
theorem fF{α:Type}{K:SH}{f:α->List AV}{l:List α}{o:Option Nat}{n:Nat}(j:n=l.length)(B:o=none->l=[])(u:∀b,o=some b->(b,(⟨1,l.map f⟩:Blk))∈K):Fz K (aK o n) (.lst (l.map f)):=by
 cases o with
 |none=>rw[B rfl];exact .refl _
 |some b=>exact Fz.sls (u b rfl) rfl U0 j
theorem HG{K:SH}{s:aD}{o t:Option Nat}(ho:o=none->s.regs=[])(ht:t=none->s.taint=[])(h:∀p∈ab o 1 (s.regs.map ah)++ab t 1 (s.taint.map bC),p∈K):Fz K (.agg (cY s o t)) (.agg s.enc):=
 Fz.aggs (.cons (.refl _) (.cons (fF rfl ho λb e=>h _ (by subst e;simp[ab])) (.cons (fF rfl ht λb e=>h _ (by subst e;simp[ab])) (.cons (.refl _) .nil))))
theorem pk(K:SH):Fz K (.agg jP) (.agg aD.zero.enc):=Fz.aggs (.cons (.refl _) (.cons .nils (.cons .nils (.cons (.refl _) .nil))))
theorem nW{K:SH}{a b:AV}{u:Bool}(h:Fz K a b):Fz K (.tup [a,.bool u]) (.tup [b,.bool u]):=.tup _ _ rfl λi x y j B=>by
 match i with
 |0=>cases j;cases B;exact h
 |1=>cases j;cases B;exact .refl _
 |i+2=>simp at j
theorem xx{ins:List aT}{k:Nat}{s:aD}(h:inB s.pc ins.length=false):dT ins k s=(aD.zero,false):=by cases k<;>simp[dT,h]
theorem EG{ins:List aT}{k:Nat}{s:aD}(h:inB s.pc ins.length=true)(h2:(ins.getD s.pc.toNat default).op<1\/5<(ins.getD s.pc.toNat default).op):dT ins k s=(s,true):=by cases k<;>simp only[dT,h,if_true,if_pos h2]
theorem EH{ins:List aT}{k:Nat}{s:aD}(h:inB s.pc ins.length=true)(h2:¬((ins.getD s.pc.toNat default).op<1\/5<(ins.getD s.pc.toNat default).op))(j:aM (ins.getD s.pc.toNat default) s=none):dT ins k s=(aD.zero,false):=by cases k<;>simp only[dT,h,if_true,if_neg h2,j]
theorem EI{ins:List aT}{s:aD}(h:inB s.pc ins.length=true)(h2:¬((ins.getD s.pc.toNat default).op<1\/5<(ins.getD s.pc.toNat default).op)):dT ins 0 s=(aD.zero,false):=by simp only[dT,h,if_true,if_neg h2]
theorem EJ{ins:List aT}{k:Nat}{s s2:aD}(h:inB s.pc ins.length=true)(h2:¬((ins.getD s.pc.toNat default).op<1\/5<(ins.getD s.pc.toNat default).op))(j:aM (ins.getD s.pc.toNat default) s=some s2):dT ins (k+1) s=dT ins k s2:=by simp only[dT,h,if_true,if_neg h2,j]
section
variable (c:eB) (s:aD) (U:List Int) (hU:U.length<=2^30) (hT:hM U s) (hc:c.ins.length<2^40) (o t:Option Nat) (ho:o=none->s.regs=[]) (ht:t=none->s.taint=[])
include hU hT hc ho ht
theorem EK(M S:Nat)(Q:AV->SH->Prop)(hq:∀v L,Fz L v (l8 (dT c.ins c.ins.length s))->Q v L):
  W.loop (uA Q) [.pptr [c.enc] 0 0,.ptr M 0 0,.ptr S 0 0,.U1 (0:Nat)] ((S,⟨4,[jP]⟩)::jc s M o t):=by
 refine bz c.ins.length (λk (e:aD)=>([.pptr [c.enc] 0 0,.ptr M 0 0,.ptr S 0 0,.U1 k],(S,⟨4,[jP]⟩)::jc e M o t)) (λk e=>hM U e/\(e.regs.length=s.regs.length/\e.taint.length=s.taint.length)/\dT c.ins (c.ins.length-k) e=dT c.ins c.ins.length s) s ⟨hT,⟨rfl,rfl⟩,rfl⟩ (.refl _ _) ?_;intro k e hk ⟨he,⟨hl1,hl2⟩,hrun⟩;rw[<-hrun]at hq;have ho':o=none->e.regs=[]:=λx=>T9.1 (by rw[hl1,ho x];rfl)
 have Z:t=none->e.taint=[]:=λx=>T9.1 (by rw[hl2,ht x];rfl)
 dsimp only;refine vw ?_;have u:dT c.ins (c.ins.length-k) e=(aD.zero,false)->∀L,Q (.tup [.agg jP,.bool false]) L:=λh L=>hq _ _ (by rw[h];exact nW (pk _))
 by_cases p1:e.pc<0
 .have hd1:decide (e.pc<0)=true:=by simpa using p1
  have N:=u (xx (by simp[inB];omega));unfold jc cY
  repeat' (first|refine st ?_|refine sb λB j=>?_|refine s2 (λh=>?_) λh=>?_|fail)
  exact N _
 .have hd1:decide (e.pc<0)=false:=by simpa using p1
  by_cases p2:(c.ins.length:Int)<=e.pc
  .have hd2:decide ((c.ins.length:Int)<=e.pc)=true:=by simpa using p2
   have N:=u (xx (by simp[inB];omega));unfold jc cY
   repeat' (first|refine st ?_|refine sb λB j=>?_|refine s2 (λh=>?_) λh=>?_|fail)
   exact N _
  .have hd2:decide ((c.ins.length:Int)<=e.pc)=false:=by simpa using p2
   have G:inB e.pc c.ins.length=true:=by simp[inB];omega
   have hx:=bS (f:=aT.enc) G;generalize Y:c.ins.getD e.pc.toNat default=i at hx;by_cases p3:i.op<1\/5<i.op
   .have hr:=EG (k:=c.ins.length-k) G (by rw[Y];exact p3);rw[hr]at hq;have fin:∀x,Q (.tup [.agg (cY e o t),.bool true]) ((S,x)::jc e M o t):=λx=>hq _ _ (nW (HG ho' Z λp hp=>by unfold jc;exact .tail _ (.tail _ hp)))
    unfold jc cY at fin ⊢;by_cases p4:i.op<1
    .have q1:decide (i.op<1)=true:=by simpa using p4
     rcases o with _|b1<;>rcases t with _|b2
     all_goals
      dsimp only[aK,ab,List.cons_append,List.nil_append]at fin ⊢
      repeat' (first|refine st ?_|refine sb λB j=>?_|refine s2 (λh=>?_) λh=>?_|fail)
      exact fin _
    .have q1:decide (i.op<1)=false:=by simpa using p4
     have q2:decide (5<i.op)=true:=by simp;omega
     rcases o with _|b1<;>rcases t with _|b2
     all_goals
      dsimp only[aK,ab,List.cons_append,List.nil_append]at fin ⊢
      repeat' (first|refine st ?_|refine sb λB j=>?_|refine s2 (λh=>?_) λh=>?_|fail)
      exact fin _
   .have q1:decide (i.op<1)=false:=by simp;omega
    have q2:decide (5<i.op)=false:=by simp;omega
    by_cases p5:k=c.ins.length
    .have q3:decide ((k:Int)=(c.ins.length:Int))=true:=by simp[p5]
     have N:=u (by rw[p5,UT];exact EI G (by rw[Y];exact p3));unfold jc cY
     repeat' (first|refine st ?_|refine sb λB j=>?_|refine s2 (λh=>?_) λh=>?_|fail)
     exact N _
    .have q3:decide ((k:Int)=(c.ins.length:Int))=false:=by simp;omega
     have E:=Kx e M o t ho' Z he.len he.small he.short i UW UW;obtain⟨m,hm⟩:∃m,c.ins.length-k=m+1:=⟨c.ins.length-k-1,UW⟩;cases D:aM i e with
     |none=>
      have N:=u (EH G (by rw[Y];exact p3) (by rw[Y];exact D));rw[D]at E;change ac _ _ _ _ (λv L=>v=AV.bool false)at E;unfold jc cY
      repeat' (first|refine st ?_|((with_reducible refine bb 123 ?_);(refine pj E (Tt (l₁:=[(S,_)]) (l₂:=jc e M o t)) ?_;rintro _ K' rfl))|refine sb λB j=>?_|refine s2 (λh=>?_) λh=>?_|fail)
      exact N _
     |some s2=>
      rw[D]at E;change ac _ _ _ _ (λv L=>v=AV.bool true/\L=jc s2 M o t)at E;have O:dT c.ins (c.ins.length-(k+1)) s2=dT c.ins c.ins.length s:=by rw[<-hrun,hm,EJ G (by rw[Y];exact p3) (by rw[Y];exact D),show c.ins.length-(k+1)=m by omega]
      have hls:=uD D;unfold jc cY
      repeat' (first|refine st ?_|((with_reducible refine bb 123 ?_);(refine pj E (Tt (l₁:=[(S,_)]) (l₂:=jc e M o t)) ?_;rintro _ _ ⟨rfl,rfl⟩))|refine sb λB j=>?_|refine s2 (λh=>?_) λh=>?_|fail)
      exact⟨k+1,s2,UW,UW,⟨he.step hU D,⟨UW,UW⟩,O⟩,dq (by rw[aw (by omega:k<c.ins.length) UW]<;>rfl) rfl⟩
end
end
section
theorem Ky{U:List Int}(hU:U.length<=2^30){ins:List aT}:∀(k:Nat) {s:aD},hM U s->hM U (dT ins k s).1:=by
 have j:hM U aD.zero:=⟨rfl,U0,nofun,nofun⟩;intro k
 induction k with
 |zero=>
  intro s h;unfold dT;split
  .split
   .exact h
   .exact j
  .exact j
 |succ k u=>
  intro s h;unfold dT;split
  .split
   .exact h
   .split
    .exact j
    .rename_i s2 B;exact u (h.step hU B)
  .exact j
theorem EL{U:List Int}(hU:U.length<=2^30){c:eB}{s:aD}(h:hM U s):hM U (aU c s).1:=by
 unfold aU;split
 .exact Ky hU _ h
 .exact⟨rfl,U0,nofun,nofun⟩
section
variable (c:eB) (s:aD) (U:List Int) (hU:U.length<=2^30) (hr:s.regs.length<2^40) (ht:s.taint.length<2^40) (hsh:∀l∈s.taint,l.length<=2^30) (hsub:∀l∈s.taint,∀x∈l,x∈U) (hc:c.ins.length<2^40)
include hU hr ht hsh hsub hc
theorem Is:aq Tryz.prog 75 [.agg c.enc,.agg s.enc] (l8 (aU c s)):=by
 refine ac.fz (uB _ _ _ _ ?_);refine vw ?_;generalize O:(λ(v:AV) (L:SH)=>∃N S,az [v] L [N] S/\N=l8 (aU c s)/\S=[])=Q;have B:∀v L,Fz L v (l8 (aU c s))->Q v L:=λv L h=>by subst O;exact⟨_,[],az.all h,rfl,rfl⟩
 clear O;by_cases E:(s.regs.length:Int)=c.regs
 .have d1:decide ((s.regs.length:Int)≠c.regs)=false:=by simpa using E
  by_cases D:(s.taint.length:Int)=c.regs
  .have d2:decide ((s.taint.length:Int)≠c.regs)=false:=by simpa using D
   have Z:hM U s:=⟨UW,hr,hsh,hsub⟩;have e:aU c s=dT c.ins c.ins.length s:=by unfold aU;rw[if_pos ⟨E,D⟩]
   rw[e]at B;have M:=Gf s hr ht hsh
   repeat' (first|refine st ?_|((with_reducible refine bb 122 ?_);(refine pj (K:=[]) M (List.Perm.refl _) ?_;rintro _ _ ⟨o,t,rfl,rfl,Y,G⟩))|refine sb λu j=>?_|refine s2 (λh=>?_) λh=>?_|fail)
   rename_i b3 _;rcases o with _|b1<;>rcases t with _|b2
   all_goals
    repeat' (first|refine st ?_|refine sb λu j=>?_|refine s2 (λh=>?_) λh=>?_|fail)
    exact EK c s U hU Z hc _ _ Y G b3 u Q B
  .have d2:decide ((s.taint.length:Int)≠c.regs)=true:=by simpa using D
   have e:aU c s=(aD.zero,false):=by unfold aU;rw[if_neg (λh=>D h.2)]
   rw[e]at B
   repeat' (first|refine st ?_|refine sb λu j=>?_|refine s2 (λh=>?_) λh=>?_|fail)
   exact B _ _ (nW (pk _))
 .have d1:decide ((s.regs.length:Int)≠c.regs)=true:=by simpa using E
  have e:aU c s=(aD.zero,false):=by unfold aU;rw[if_neg (λh=>E h.1)]
  rw[e]at B
  repeat' (first|refine st ?_|refine sb λu j=>?_|refine s2 (λh=>?_) λh=>?_|fail)
  exact B _ _ (nW (pk _))
end
end
def a7(w:aG):SyncD:=⟨List.replicate w.locks.length ⟨-1,[]⟩,-1,List.replicate w.futures.length false,(List.replicate w.threads.length (⟨0,0,false⟩:ThrD)).set 0 ⟨1,0,false⟩⟩
def Kz(w:aG)(h1:w.locks.length<=100)(h2:w.futures.length<=100)(h3:w.threads.length<=100):aq Tryz.prog 69 [.agg w.enc] (.agg (a7 w).enc):=by
 refine ac.fz (wB _ _ _ ?_);refine vw ?_;generalize hQ:(λ(v:AV) (L:SH)=>∃v2 L2,az [v] L [v2] L2/\v2=AV.agg (a7 w).enc/\L2=[])=Q
 repeat' (first|refine st ?_|refine sb λu j=>?_|refine s2 (λh=>?_) λh=>?_|fail)
 rename_i b2 _ Z _ M _ G _ E _;refine iY w.locks.length (λi=>([.ptr Z 0 0,.pptr [[.sl M 0 w.locks.length,.U1 (-1),.sl G 0 w.futures.length,.sl E 0 w.threads.length]] 0 0,.U1 w.locks.length,.U1 i],
  [(E,⟨3,List.replicate w.threads.length [.U1 0,.U1 0,.bool false]⟩),(G,⟨1,List.replicate w.futures.length [.bool false]⟩),(M,⟨2,List.replicate i [.U1 (-1),.nils]++List.replicate (w.locks.length-i) [.U1 0,.nils]⟩),(Z,⟨4,[[.nils,.U1 0,.nils,.nils]]⟩)])) (λ_=>True) trivial rfl UZ ?_
 intro i hi _;dsimp only;refine vw ?_;rcases Nat.lt_or_ge i w.locks.length with D|D
 .have hd:=aS D;have hx:=Mn i w.locks.length (α:=List AV) [.U1 (-1),.nils] [.U1 0,.nils] D
  repeat' (first|refine st ?_|refine sb λu j=>?_|refine s2 (λh=>?_) λh=>?_|fail)
  refine⟨i+1,UW,UW,trivial,dq (by rw[aw D UW]<;>rfl) ?_⟩;rw[<-Mm i w.locks.length _ _ D];rfl
 .have hd:=aX D;have fin:∀(T:List ThrD) (L:SH),T=(a7 w).threads->L=[(E,⟨3,T.map ThrD.enc⟩),(G,⟨1,List.replicate w.futures.length [.bool false]⟩),(M,⟨2,List.replicate i [.U1 (-1),.nils]++List.replicate (w.locks.length-i) [.U1 0,.nils]⟩),(Z,⟨4,[[.sl M 0 w.locks.length,.U1 (-1),.sl G 0 w.futures.length,.sl E 0 w.threads.length]]⟩)]->
    Q (.agg [.sl M 0 w.locks.length,.U1 (-1),.sl G 0 w.futures.length,.sl E 0 w.threads.length]) L:=by
   intro T L hT hL;subst hL;subst hQ;have S:i=w.locks.length:=by omega
   subst S;refine⟨_,[],az.all (Fz.aggs (.cons ?_ (.cons (.refl _) (.cons ?_ (.cons ?_ .nil))))),rfl,rfl⟩
   .refine Fz.slm (f:=λ_=>[.U1 (-1),.nils]) (.tail _ (.tail _ (.head _))) (by simp[a7]) U0 (by simp[a7]) (λy O=>rfl) (λy O q a a2 N q2=>?_);have:y=⟨-1,[]⟩:=by simp[a7]at O;exact O.2
    subst this
    match q with
    |0=>cases N;cases q2;exact .refl _
    |1=>cases N;cases q2;exact .nils
    |q+2=>simp at N
   .exact Fz.sls (.tail _ (.head _)) (by simp[a7,aB]) U0 (by simp[a7])
   .exact Fz.sls (.head _) (by rw[hT]) U0 (by simp[a7])
  rcases Ug w.threads.length with B|B
  .have Y:decide ((0:Int)<(w.threads.length:Int))=false:=by simp[B]
   repeat' (first|refine st ?_|refine sb λu j=>?_|refine s2 (λh=>?_) λh=>?_|fail)
   exact fin [] _ (by simp[a7,B]) (by simp[B])
  .have Y:decide ((0:Int)<(w.threads.length:Int))=true:=by simpa using B
   have hx0:(List.replicate w.threads.length ([.U1 0,.U1 0,.bool false]:List AV))[0]? =some [.U1 0,.U1 0,.bool false]:=by simp[B]
   repeat' (first|refine st ?_|refine sb λu j=>?_|refine s2 (λh=>?_) λh=>?_|fail)
   refine fin _ _ rfl ?_;simp[a7,ThrD.enc,Ue]
def mE:RF:=nv (bO Tryz.prog Tryz.f26 [(12,⟨[1,20,21,22],[],true,[]⟩)] [(0,[1]),(5,[4])])
abbrev wQ(a:AV)(L:SH)(Q:R):Prop:=Pc mE 20 Q 0 [] [a] L
def uE(j:AV)(L:SH)(Q:R)(h:wQ j L Q):ac Tryz.prog 26 [j] L Q:=
 fv mE Tryz.func26 h
def eD:RF:=nv (bO Tryz.prog Tryz.f61 [(42,⟨[1,3,5,8,26,27,28,78,79,80],[12],true,[]⟩),(42037,⟨[1,3,5,6,8,26,27,28],[12],true,[]⟩),(37,⟨[1,3,5,6,8,26,27,28],[],true,[]⟩),(12,⟨[1,3,5,26,27,28],[],true,[6]⟩)] [(0,[3,5]),(5,[8])])
abbrev l9(Q:R)(a:Kn):Vs->SH->Prop:=Jp eD 18 Q 42037 [a]
abbrev mW(a b c:AV)(L:SH)(Q:R):Prop:=Pc eD 20 Q 0 [] [a,b,c] L
def ma(j t1 t2:AV)(L:SH)(Q:R)(h:mW j t1 t2 L Q):ac Tryz.prog 61 [j,t1,t2] L Q:=
 fv eD Tryz.func61 h
def fY:RF:=nv (bO Tryz.prog Tryz.f104 [(105100,⟨[3,5,12,97],[],true,[]⟩),(96091,⟨[3,5,12,87],[],true,[]⟩),(84079,⟨[3,5,12,78],[],true,[]⟩),(69064,⟨[3,5,12,71],[],true,[]⟩)] [(0,[3,5])])
abbrev lg(a b c:AV)(L:SH)(Q:R):Prop:=Pc fY 20 Q 0 [] [a,b,c] L
def kv(j t1 t2:AV)(L:SH)(Q:R)(h:lg j t1 t2 L Q):ac Tryz.prog 104 [j,t1,t2] L Q:=
 fv fY Tryz.func104 h
def jd:RF:=nv (bO Tryz.prog Tryz.f149 [] [(0,[2])])
abbrev rh(a b:AV)(L:SH)(Q:R):Prop:=Pc jd 20 Q 0 [] [a,b] L
def px(j t1:AV)(L:SH)(Q:R)(h:rh j t1 L Q):ac Tryz.prog 149 [j,t1] L Q:=
 fv jd Tryz.func149 h
def jQ:RF:=nv (bO Tryz.prog Tryz.f150 [] [(0,[3])])
abbrev sP(a b c:AV)(L:SH)(Q:R):Prop:=Pc jQ 20 Q 0 [] [a,b,c] L
def ri(j t1 t2:AV)(L:SH)(Q:R)(h:sP j t1 t2 L Q):ac Tryz.prog 150 [j,t1,t2] L Q:=
 fv jQ Tryz.func150 h
def je:RF:=nv (bO Tryz.prog Tryz.f151 [] [])
abbrev rj(a:AV)(L:SH)(Q:R):Prop:=Pc je 20 Q 0 [] [a] L
def py(j:AV)(L:SH)(Q:R)(h:rj j L Q):ac Tryz.prog 151 [j] L Q:=
 fv je Tryz.func151 h
def eh:RF:=nv (bO Tryz.prog Tryz.f105 [(39,⟨[0,3,4,6,14,15],[12],false,[]⟩),(21,⟨[0,3,4,5,6,14,15],[12],true,[]⟩),(12,⟨[0,3,4,14,15],[],true,[]⟩)] [])
abbrev pz(a:Kn):Vs->SH->Kn->Prop:=Lp eh 17 q0 39 [a]
abbrev pB(Q:R)(a:Kn):Vs->SH->Kn->Prop:=Lp eh 18 Q 21 [a]
abbrev rk(a:AV)(L:SH)(Q:R):Prop:=Pc eh 20 Q 0 [] [a] L
def pC(j:AV)(L:SH)(Q:R)(h:rk j L Q):ac Tryz.prog 105 [j] L Q:=
 fv eh Tryz.func105 h
def iD:RF:=nv (bO Tryz.prog Tryz.f152 [] [])
abbrev pD(a b:AV)(L:SH)(Q:R):Prop:=Pc iD 20 Q 0 [] [a,b] L
def nX(j t1:AV)(L:SH)(Q:R)(h:pD j t1 L Q):ac Tryz.prog 152 [j,t1] L Q:=
 fv iD Tryz.func152 h
def hO:RF:=nv (bO Tryz.prog Tryz.f60 [(27,⟨[1,60,61,62],[],true,[]⟩)] [(0,[1]),(10,[6])])
abbrev nY(a:AV)(L:SH)(Q:R):Prop:=Pc hO 20 Q 0 [] [a] L
def mX(j:AV)(L:SH)(Q:R)(h:nY j L Q):ac Tryz.prog 60 [j] L Q:=
 fv hO Tryz.func60 h
def eY:RF:=nv (bO Tryz.prog Tryz.f98 [(39,⟨[0,4,5,6,51,52],[9],true,[]⟩),(9,⟨[0,4,5],[],true,[]⟩)] [])
abbrev mY(Q:R)(a:Kn):Vs->SH->Kn->Prop:=Lp eY 18 Q 39 [a]
abbrev hY(a:AV)(L:SH)(Q:R):Prop:=Pc eY 20 Q 0 [] [a] L
def gD(j:AV)(L:SH)(Q:R)(h:hY j L Q):ac Tryz.prog 98 [j] L Q:=
 fv eY Tryz.func98 h
def hZ:RF:=nv (bO Tryz.prog Tryz.f101 [(30025,⟨[1,3,4,6,8,9,10],[9],true,[]⟩),(9,⟨[1,3,4,8,9,10],[],true,[]⟩)] [(0,[1]),(4,[6])])
abbrev nZ(a:AV)(L:SH)(Q:R):Prop:=Pc hZ 20 Q 0 [] [a] L
def mZ(j:AV)(L:SH)(Q:R)(h:nZ j L Q):ac Tryz.prog 101 [j] L Q:=
 fv hZ Tryz.func101 h
def lh:RF:=nv (bO Tryz.prog Tryz.f100 [] [(0,[3])])
abbrev uF(a b c:AV)(L:SH)(Q:R):Prop:=Pc lh 20 Q 0 [] [a,b,c] L
def sQ(j t1 t2:AV)(L:SH)(Q:R)(h:uF j t1 t2 L Q):ac Tryz.prog 100 [j,t1,t2] L Q:=
 fv lh Tryz.func100 h
def lj:RF:=nv (bO Tryz.prog Tryz.f102 [] [])
abbrev uG(a b:AV)(L:SH)(Q:R):Prop:=Pc lj 20 Q 0 [] [a,b] L
def sR(j t1:AV)(L:SH)(Q:R)(h:uG j t1 L Q):ac Tryz.prog 102 [j,t1] L Q:=
 fv lj Tryz.func102 h
def iE:RF:=nv (bO Tryz.prog Tryz.f103 [(51046,⟨[1,4,37],[],true,[]⟩),(30025,⟨[1,4,13],[],true,[]⟩),(21016,⟨[1,4,5],[],true,[]⟩)] [(0,[1])])
abbrev pE(a:AV)(L:SH)(Q:R):Prop:=Pc iE 20 Q 0 [] [a] L
def oa(j:AV)(L:SH)(Q:R)(h:pE j L Q):ac Tryz.prog 103 [j] L Q:=
 fv iE Tryz.func103 h
end Go.Proofs.YtbofdbhnbodbiaaGreatDoor.Am
