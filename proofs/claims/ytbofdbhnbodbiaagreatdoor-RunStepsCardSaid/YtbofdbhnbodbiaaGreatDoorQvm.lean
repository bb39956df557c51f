/- A part of the proof; the statement is proved in the last part. -/
import Derived.Test.YtbofdbhnbodbiaaGreatDoorQvl
set_option linter.all false
set_option maxRecDepth 100000
set_option maxHeartbeats 20000000
namespace Go.Proofs.YtbofdbhnbodbiaaGreatDoor.Am
section
def jI:List AV:=[.Uf 0,.nils,.nils,.Uf 0]
theorem oY{P:Program}{KL B:AV->SH->Prop}{g:FuncId}{args:List AV}{L K R:SH}(h:ac P g args K B)(G:L.Perm (K++R))(E:∀v j,B v j->KL v (R++j)):W.callM P g args L KL:=
 ⟨.perm (h.frame G λu j D=>⟨R++j,SG,E u j D⟩)⟩
theorem JY(s:aC)(E:Nat)(o t:Option Nat)(ho:o=none->s.regs=[])(ht:t=none->s.taint=[])(u:s.taint.length=s.regs.length)(B:s.regs.length<2^40)(D:∀l∈s.taint,l.length<=2^30)(i:aS)(S:1<=i.op)(O:i.op<=5):
  ac Tryz.prog 123 [.ptr E 0 0,.agg i.enc] (iZ s E o t) (uj (aL i s) E o t):=by
 obtain⟨op,N,M,G,n,j⟩:=i;dsimp only at S O;obtain rfl|rfl|rfl|rfl|rfl:op=1\/op=2\/op=3\/op=4\/op=5:=by omega
 .exact Ob s E o t ho ht u B D N M G n j
 .exact Oc s E o t ho ht u B D N M G n j
 .exact Od s E o t ho ht u B D N M G n j
 .exact Oe s E o t ho ht u B D N M G n j
 .exact Oa s E o t ho ht u B D N M G n j
theorem sw(s:aC)(a v:Int)(t:List Int):(s.put a v t).regs.length=s.regs.length/\(s.put a v t).taint.length=s.taint.length:=by simp[aC.put]
theorem uk{s s2:aC}{i:aS}(j:aL i s=some s2):s2.regs.length=s.regs.length/\s2.taint.length=s.taint.length:=by
 unfold aL at j;split at j
 .split at j
  .cases j;exact sw _ _ _ _
  .cases j
 .split at j
  .split at j
   .cases j;exact sw _ _ _ _
   .cases j
  .split at j
   .split at j
    .cases j;exact sw _ _ _ _
    .cases j
   .split at j
    .split at j
     .cases j;exact sw _ _ _ _
     .cases j
    .cases j;exact⟨rfl,rfl⟩
theorem fw{α:Type}{K:SH}{f:α->List AV}{l:List α}{o:Option Nat}{n:Nat}(j:n=l.length)(B:o=none->l=[])(u:∀b,o=some b->(b,(⟨1,l.map f⟩:Blk))∈K):Fz K (aJ o n) (.lst (l.map f)):=by
 cases o with
 |none=>rw[B rfl];exact .refl _
 |some b=>exact Fz.sls (u b rfl) rfl Ue j
theorem G6{K:SH}{s:aC}{o t:Option Nat}(ho:o=none->s.regs=[])(ht:t=none->s.taint=[])(h:∀p∈ab o 1 (s.regs.map ah)++ab t 1 (s.taint.map bz),p∈K):Fz K (.agg (cV s o t)) (.agg s.enc):=
 Fz.aggs (.cons (.refl _) (.cons (fw rfl ho λb e=>h _ (by subst e;simp[ab])) (.cons (fw rfl ht λb e=>h _ (by subst e;simp[ab])) (.cons (.refl _) .nil))))
theorem oZ(K:SH):Fz K (.agg jI) (.agg aC.zero.enc):=Fz.aggs (.cons (.refl _) (.cons .nils (.cons .nils (.cons (.refl _) .nil))))
theorem nL{K:SH}{a b:AV}{u:Bool}(h:Fz K a b):Fz K (.tup [a,.bool u]) (.tup [b,.bool u]):=.tup _ _ rfl λi x y j B=>by
 match i with
 |0=>cases j;cases B;exact h
 |1=>cases j;cases B;exact .refl _
 |i+2=>simp at j
theorem xd{ins:List aS}{k:Nat}{s:aC}(h:inB s.pc ins.length=false):dQ ins k s=(aC.zero,false):=by cases k<;>simp[dQ,h]
theorem D7{ins:List aS}{k:Nat}{s:aC}(h:inB s.pc ins.length=true)(h2:(ins.getD s.pc.toNat default).op<1\/5<(ins.getD s.pc.toNat default).op):dQ ins k s=(s,true):=by cases k<;>simp only[dQ,h,if_true,if_pos h2]
theorem D8{ins:List aS}{k:Nat}{s:aC}(h:inB s.pc ins.length=true)(h2:¬((ins.getD s.pc.toNat default).op<1\/5<(ins.getD s.pc.toNat default).op))(j:aL (ins.getD s.pc.toNat default) s=none):dQ ins k s=(aC.zero,false):=by cases k<;>simp only[dQ,h,if_true,if_neg h2,j]
theorem D9{ins:List aS}{s:aC}(h:inB s.pc ins.length=true)(h2:¬((ins.getD s.pc.toNat default).op<1\/5<(ins.getD s.pc.toNat default).op)):dQ ins 0 s=(aC.zero,false):=by simp only[dQ,h,if_true,if_neg h2]
theorem Ea{ins:List aS}{k:Nat}{s s2:aC}(h:inB s.pc ins.length=true)(h2:¬((ins.getD s.pc.toNat default).op<1\/5<(ins.getD s.pc.toNat default).op))(j:aL (ins.getD s.pc.toNat default) s=some s2):dQ ins (k+1) s=dQ ins k s2:=by simp only[dQ,h,if_true,if_neg h2,j]
section
variable (c:eb) (s:aC) (U:List Int) (hU:U.length<=2^30) (hT:gX U s) (hc:c.ins.length<2^40) (o t:Option Nat) (ho:o=none->s.regs=[]) (ht:t=none->s.taint=[])
include hU hT hc ho ht
theorem Eb(M S:Nat)(Q:AV->SH->Prop)(hq:∀v L,Fz L v (lT (dQ c.ins c.ins.length s))->Q v L):
  W.loop (ug Q) [.pptr [c.enc] 0 0,.ptr M 0 0,.ptr S 0 0,.Uf (0:Nat)] ((S,⟨4,[jI]⟩)::iZ s M o t):=by
 refine bD c.ins.length (λk (e:aC)=>([.pptr [c.enc] 0 0,.ptr M 0 0,.ptr S 0 0,.Uf k],(S,⟨4,[jI]⟩)::iZ e M o t)) (λk e=>gX U e/\(e.regs.length=s.regs.length/\e.taint.length=s.taint.length)/\dQ c.ins (c.ins.length-k) e=dQ c.ins c.ins.length s) s ⟨hT,⟨rfl,rfl⟩,rfl⟩ (.refl _ _) ?_;intro k e hk ⟨he,⟨hl1,hl2⟩,hrun⟩;rw[<-hrun]at hq;have ho':o=none->e.regs=[]:=λx=>Tp.1 (by rw[hl1,ho x];rfl)
 have Z:t=none->e.taint=[]:=λx=>Tp.1 (by rw[hl2,ht x];rfl)
 dsimp only;refine vw ?_;have u:dQ c.ins (c.ins.length-k) e=(aC.zero,false)->∀L,Q (.tup [.agg jI,.bool false]) L:=λh L=>hq _ _ (by rw[h];exact nL (oZ _))
 by_cases p1:e.pc<0
 .have hd1:decide (e.pc<0)=true:=by simpa using p1
  have N:=u (xd (by simp[inB];omega));unfold iZ cV
  repeat' (first|refine st ?_|refine sb λB j=>?_|refine s2 (λh=>?_) λh=>?_|fail)
  exact N _
 .have hd1:decide (e.pc<0)=false:=by simpa using p1
  by_cases p2:(c.ins.length:Int)<=e.pc
  .have hd2:decide ((c.ins.length:Int)<=e.pc)=true:=by simpa using p2
   have N:=u (xd (by simp[inB];omega));unfold iZ cV
   repeat' (first|refine st ?_|refine sb λB j=>?_|refine s2 (λh=>?_) λh=>?_|fail)
   exact N _
  .have hd2:decide ((c.ins.length:Int)<=e.pc)=false:=by simpa using p2
   have G:inB e.pc c.ins.length=true:=by simp[inB];omega
   have hx:=bQ (f:=aS.enc) G;generalize Y:c.ins.getD e.pc.toNat default=i at hx;by_cases p3:i.op<1\/5<i.op
   .have hr:=D7 (k:=c.ins.length-k) G (by rw[Y];exact p3);rw[hr]at hq;have fin:∀x,Q (.tup [.agg (cV e o t),.bool true]) ((S,x)::iZ e M o t):=λx=>hq _ _ (nL (G6 ho' Z λp hp=>by unfold iZ;exact .tail _ (.tail _ hp)))
    unfold iZ cV at fin ⊢;by_cases p4:i.op<1
    .have q1:decide (i.op<1)=true:=by simpa using p4
     rcases o with _|b1<;>rcases t with _|b2
     all_goals
      dsimp only[aJ,ab,List.cons_append,List.nil_append]at fin ⊢
      repeat' (first|refine st ?_|refine sb λB j=>?_|refine s2 (λh=>?_) λh=>?_|fail)
      exact fin _
    .have q1:decide (i.op<1)=false:=by simpa using p4
     have q2:decide (5<i.op)=true:=by simp;omega
     rcases o with _|b1<;>rcases t with _|b2
     all_goals
      dsimp only[aJ,ab,List.cons_append,List.nil_append]at fin ⊢
      repeat' (first|refine st ?_|refine sb λB j=>?_|refine s2 (λh=>?_) λh=>?_|fail)
      exact fin _
   .have q1:decide (i.op<1)=false:=by simp;omega
    have q2:decide (5<i.op)=false:=by simp;omega
    by_cases p5:k=c.ins.length
    .have q3:decide ((k:Int)=(c.ins.length:Int))=true:=by simp[p5]
     have N:=u (by rw[p5,T7];exact D9 G (by rw[Y];exact p3));unfold iZ cV
     repeat' (first|refine st ?_|refine sb λB j=>?_|refine s2 (λh=>?_) λh=>?_|fail)
     exact N _
    .have q3:decide ((k:Int)=(c.ins.length:Int))=false:=by simp;omega
     have E:=JY e M o t ho' Z he.len he.small he.short i Ua Ua;obtain⟨m,hm⟩:∃m,c.ins.length-k=m+1:=⟨c.ins.length-k-1,Ua⟩;cases D:aL i e with
     |none=>
      have N:=u (D8 G (by rw[Y];exact p3) (by rw[Y];exact D));rw[D]at E;change ac _ _ _ _ (λv L=>v=AV.bool false)at E;unfold iZ cV
      repeat' (first|refine st ?_|((with_reducible refine bb 123 ?_);(refine oY E (SG (l₁:=[(S,_)]) (l₂:=iZ e M o t)) ?_;rintro _ K' rfl))|refine sb λB j=>?_|refine s2 (λh=>?_) λh=>?_|fail)
      exact N _
     |some s2=>
      rw[D]at E;change ac _ _ _ _ (λv L=>v=AV.bool true/\L=iZ s2 M o t)at E;have O:dQ c.ins (c.ins.length-(k+1)) s2=dQ c.ins c.ins.length s:=by rw[<-hrun,hm,Ea G (by rw[Y];exact p3) (by rw[Y];exact D),show c.ins.length-(k+1)=m by omega]
      have hls:=uk D;unfold iZ cV
      repeat' (first|refine st ?_|((with_reducible refine bb 123 ?_);(refine oY E (SG (l₁:=[(S,_)]) (l₂:=iZ e M o t)) ?_;rintro _ _ ⟨rfl,rfl⟩))|refine sb λB j=>?_|refine s2 (λh=>?_) λh=>?_|fail)
      exact⟨k+1,s2,Ua,Ua,⟨he.step hU D,⟨Ua,Ua⟩,O⟩,df (by rw[ax (by omega:k<c.ins.length) Ua]<;>rfl) rfl⟩
end
end
section
theorem JZ{U:List Int}(hU:U.length<=2^30){ins:List aS}:∀(k:Nat) {s:aC},gX U s->gX U (dQ ins k s).1:=by
 have j:gX U aC.zero:=⟨rfl,Ue,nofun,nofun⟩;intro k
 induction k with
 |zero=>
  intro s h;unfold dQ;split
  .split
   .exact h
   .exact j
  .exact j
 |succ k u=>
  intro s h;unfold dQ;split
  .split
   .exact h
   .split
    .exact j
    .rename_i s2 B;exact u (h.step hU B)
  .exact j
theorem Ec{U:List Int}(hU:U.length<=2^30){c:eb}{s:aC}(h:gX U s):gX U (aT c s).1:=by
 unfold aT;split
 .exact JZ hU _ h
 .exact⟨rfl,Ue,nofun,nofun⟩
section
variable (c:eb) (s:aC) (U:List Int) (hU:U.length<=2^30) (hr:s.regs.length<2^40) (ht:s.taint.length<2^40) (hsh:∀l∈s.taint,l.length<=2^30) (hsub:∀l∈s.taint,∀x∈l,x∈U) (hc:c.ins.length<2^40)
include hU hr ht hsh hsub hc
theorem HY:aq Tryz.prog 75 [.agg c.enc,.agg s.enc] (lT (aT c s)):=by
 refine ac.fz (uh _ _ _ _ ?_);refine vw ?_;generalize O:(λ(v:AV) (L:SH)=>∃N S,az [v] L [N] S/\N=lT (aT c s)/\S=[])=Q;have B:∀v L,Fz L v (lT (aT c s))->Q v L:=λv L h=>by subst O;exact⟨_,[],az.all h,rfl,rfl⟩
 clear O;by_cases E:(s.regs.length:Int)=c.regs
 .have d1:decide ((s.regs.length:Int)≠c.regs)=false:=by simpa using E
  by_cases D:(s.taint.length:Int)=c.regs
  .have d2:decide ((s.taint.length:Int)≠c.regs)=false:=by simpa using D
   have Z:gX U s:=⟨Ua,hr,hsh,hsub⟩;have e:aT c s=dQ c.ins c.ins.length s:=by unfold aT;rw[if_pos ⟨E,D⟩]
   rw[e]at B;have M:=FO s hr ht hsh
   repeat' (first|refine st ?_|((with_reducible refine bb 122 ?_);(refine oY (K:=[]) M (List.Perm.refl _) ?_;rintro _ _ ⟨o,t,rfl,rfl,Y,G⟩))|refine sb λu j=>?_|refine s2 (λh=>?_) λh=>?_|fail)
   rename_i b3 _;rcases o with _|b1<;>rcases t with _|b2
   all_goals
    repeat' (first|refine st ?_|refine sb λu j=>?_|refine s2 (λh=>?_) λh=>?_|fail)
    exact Eb c s U hU Z hc _ _ Y G b3 u Q B
  .have d2:decide ((s.taint.length:Int)≠c.regs)=true:=by simpa using D
   have e:aT c s=(aC.zero,false):=by unfold aT;rw[if_neg (λh=>D h.2)]
   rw[e]at B
   repeat' (first|refine st ?_|refine sb λu j=>?_|refine s2 (λh=>?_) λh=>?_|fail)
   exact B _ _ (nL (oZ _))
 .have d1:decide ((s.regs.length:Int)≠c.regs)=true:=by simpa using E
  have e:aT c s=(aC.zero,false):=by unfold aT;rw[if_neg (λh=>E h.1)]
  rw[e]at B
  repeat' (first|refine st ?_|refine sb λu j=>?_|refine s2 (λh=>?_) λh=>?_|fail)
  exact B _ _ (nL (oZ _))
end
end
def a7(w:aI):SyncD:=⟨List.replicate w.locks.length ⟨-1,[]⟩,-1,List.replicate w.futures.length false,(List.replicate w.threads.length (⟨0,0,false⟩:ThrD)).set 0 ⟨1,0,false⟩⟩
def J0(w:aI)(h1:w.locks.length<=100)(h2:w.futures.length<=100)(h3:w.threads.length<=100):aq Tryz.prog 69 [.agg w.enc] (.agg (a7 w).enc):=by
 refine ac.fz (vU _ _ _ ?_);refine vw ?_;generalize hQ:(λ(v:AV) (L:SH)=>∃v2 L2,az [v] L [v2] L2/\v2=AV.agg (a7 w).enc/\L2=[])=Q
 repeat' (first|refine st ?_|refine sb λu j=>?_|refine s2 (λh=>?_) λh=>?_|fail)
 rename_i b2 _ Z _ M _ G _ E _;refine iR w.locks.length (λi=>([.ptr Z 0 0,.pptr [[.sl M 0 w.locks.length,.Uf (-1),.sl G 0 w.futures.length,.sl E 0 w.threads.length]] 0 0,.Uf w.locks.length,.Uf i],
  [(E,⟨3,List.replicate w.threads.length [.Uf 0,.Uf 0,.bool false]⟩),(G,⟨1,List.replicate w.futures.length [.bool false]⟩),(M,⟨2,List.replicate i [.Uf (-1),.nils]++List.replicate (w.locks.length-i) [.Uf 0,.nils]⟩),(Z,⟨4,[[.nils,.Uf 0,.nils,.nils]]⟩)])) (λ_=>True) trivial rfl Ud ?_
 intro i hi _;dsimp only;refine vw ?_;rcases Nat.lt_or_ge i w.locks.length with D|D
 .have hd:=aW D;have hx:=LJ i w.locks.length (α:=List AV) [.Uf (-1),.nils] [.Uf 0,.nils] D
  repeat' (first|refine st ?_|refine sb λu j=>?_|refine s2 (λh=>?_) λh=>?_|fail)
  refine⟨i+1,Ua,Ua,trivial,df (by rw[ax D Ua]<;>rfl) ?_⟩;rw[<-LI i w.locks.length _ _ D];rfl
 .have hd:=aX D;have fin:∀(T:List ThrD) (L:SH),T=(a7 w).threads->L=[(E,⟨3,T.map ThrD.enc⟩),(G,⟨1,List.replicate w.futures.length [.bool false]⟩),(M,⟨2,List.replicate i [.Uf (-1),.nils]++List.replicate (w.locks.length-i) [.Uf 0,.nils]⟩),(Z,⟨4,[[.sl M 0 w.locks.length,.Uf (-1),.sl G 0 w.futures.length,.sl E 0 w.threads.length]]⟩)]->
    Q (.agg [.sl M 0 w.locks.length,.Uf (-1),.sl G 0 w.futures.length,.sl E 0 w.threads.length]) L:=by
   intro T L hT hL;subst hL;subst hQ;have S:i=w.locks.length:=by omega
   subst S;refine⟨_,[],az.all (Fz.aggs (.cons ?_ (.cons (.refl _) (.cons ?_ (.cons ?_ .nil))))),rfl,rfl⟩
   .refine Fz.slm (f:=λ_=>[.Uf (-1),.nils]) (.tail _ (.tail _ (.head _))) (by simp[a7]) Ue (by simp[a7]) (λy O=>rfl) (λy O q a a2 N q2=>?_);have:y=⟨-1,[]⟩:=by simp[a7]at O;exact O.2
    subst this
    match q with
    |0=>cases N;cases q2;exact .refl _
    |1=>cases N;cases q2;exact .nils
    |q+2=>simp at N
   .exact Fz.sls (.tail _ (.head _)) (by simp[a7,aB]) Ue (by simp[a7])
   .exact Fz.sls (.head _) (by rw[hT]) Ue (by simp[a7])
  rcases Ts w.threads.length with B|B
  .have Y:decide ((0:Int)<(w.threads.length:Int))=false:=by simp[B]
   repeat' (first|refine st ?_|refine sb λu j=>?_|refine s2 (λh=>?_) λh=>?_|fail)
   exact fin [] _ (by simp[a7,B]) (by simp[B])
  .have Y:decide ((0:Int)<(w.threads.length:Int))=true:=by simpa using B
   have hx0:(List.replicate w.threads.length ([.Uf 0,.Uf 0,.bool false]:List AV))[0]? =some [.Uf 0,.Uf 0,.bool false]:=by simp[B]
   repeat' (first|refine st ?_|refine sb λu j=>?_|refine s2 (λh=>?_) λh=>?_|fail)
   refine fin _ _ rfl ?_;simp[a7,ThrD.enc,To]
def mo:RF:=nv (bO Tryz.prog Tryz.f26 [(12,⟨[1,20,21,22],[],true,[]⟩)] [(0,[1]),(5,[4])])
abbrev wv(a:AV)(L:SH)(Q:R):Prop:=Pc mo 20 Q 0 [] [a] L
def ul(j:AV)(L:SH)(Q:R)(h:wv j L Q):ac Tryz.prog 26 [j] L Q:=
 fv mo Tryz.func26 h
def ew:RF:=nv (bO Tryz.prog Tryz.f61 [(42,⟨[1,3,5,8,26,27,28,78,79,80],[12],true,[]⟩),(42037,⟨[1,3,5,6,8,26,27,28],[12],true,[]⟩),(37,⟨[1,3,5,6,8,26,27,28],[],true,[]⟩),(12,⟨[1,3,5,26,27,28],[],true,[6]⟩)] [(0,[3,5]),(5,[8])])
abbrev lU(Q:R)(a:Kn):Vs->SH->Prop:=Jp ew 18 Q 42037 [a]
abbrev mL(a b c:AV)(L:SH)(Q:R):Prop:=Pc ew 20 Q 0 [] [a,b,c] L
def lV(j t1 t2:AV)(L:SH)(Q:R)(h:mL j t1 t2 L Q):ac Tryz.prog 61 [j,t1,t2] L Q:=
 fv ew Tryz.func61 h
def fQ:RF:=nv (bO Tryz.prog Tryz.f104 [(105100,⟨[3,5,12,97],[],true,[]⟩),(96091,⟨[3,5,12,87],[],true,[]⟩),(84079,⟨[3,5,12,78],[],true,[]⟩),(69064,⟨[3,5,12,71],[],true,[]⟩)] [(0,[3,5])])
abbrev kU(a b c:AV)(L:SH)(Q:R):Prop:=Pc fQ 20 Q 0 [] [a,b,c] L
def kf(j t1 t2:AV)(L:SH)(Q:R)(h:kU j t1 t2 L Q):ac Tryz.prog 104 [j,t1,t2] L Q:=
 fv fQ Tryz.func104 h
def i4:RF:=nv (bO Tryz.prog Tryz.f149 [] [(0,[2])])
abbrev qR(a b:AV)(L:SH)(Q:R):Prop:=Pc i4 20 Q 0 [] [a,b] L
def pg(j t1:AV)(L:SH)(Q:R)(h:qR j t1 L Q):ac Tryz.prog 149 [j,t1] L Q:=
 fv i4 Tryz.func149 h
def jJ:RF:=nv (bO Tryz.prog Tryz.f150 [] [(0,[3])])
abbrev sx(a b c:AV)(L:SH)(Q:R):Prop:=Pc jJ 20 Q 0 [] [a,b,c] L
def qS(j t1 t2:AV)(L:SH)(Q:R)(h:sx j t1 t2 L Q):ac Tryz.prog 150 [j,t1,t2] L Q:=
 fv jJ Tryz.func150 h
def i5:RF:=nv (bO Tryz.prog Tryz.f151 [] [])
abbrev qT(a:AV)(L:SH)(Q:R):Prop:=Pc i5 20 Q 0 [] [a] L
def ph(j:AV)(L:SH)(Q:R)(h:qT j L Q):ac Tryz.prog 151 [j] L Q:=
 fv i5 Tryz.func151 h
def ee:RF:=nv (bO Tryz.prog Tryz.f105 [(39,⟨[0,3,4,6,14,15],[12],false,[]⟩),(21,⟨[0,3,4,5,6,14,15],[12],true,[]⟩),(12,⟨[0,3,4,14,15],[],true,[]⟩)] [])
abbrev pi(a:Kn):Vs->SH->Kn->Prop:=Lp ee 17 q0 39 [a]
abbrev pj(Q:R)(a:Kn):Vs->SH->Kn->Prop:=Lp ee 18 Q 21 [a]
abbrev qU(a:AV)(L:SH)(Q:R):Prop:=Pc ee 20 Q 0 [] [a] L
def pk(j:AV)(L:SH)(Q:R)(h:qU j L Q):ac Tryz.prog 105 [j] L Q:=
 fv ee Tryz.func105 h
def iv:RF:=nv (bO Tryz.prog Tryz.f152 [] [])
abbrev pn(a b:AV)(L:SH)(Q:R):Prop:=Pc iv 20 Q 0 [] [a,b] L
def nM(j t1:AV)(L:SH)(Q:R)(h:pn j t1 L Q):ac Tryz.prog 152 [j,t1] L Q:=
 fv iv Tryz.func152 h
def gY:RF:=nv (bO Tryz.prog Tryz.f60 [(27,⟨[1,60,61,62],[],true,[]⟩)] [(0,[1]),(10,[6])])
abbrev nN(a:AV)(L:SH)(Q:R):Prop:=Pc gY 20 Q 0 [] [a] L
def mM(j:AV)(L:SH)(Q:R)(h:nN j L Q):ac Tryz.prog 60 [j] L Q:=
 fv gY Tryz.func60 h
def eT:RF:=nv (bO Tryz.prog Tryz.f98 [(39,⟨[0,4,5,6,51,52],[9],true,[]⟩),(9,⟨[0,4,5],[],true,[]⟩)] [])
abbrev mN(Q:R)(a:Kn):Vs->SH->Kn->Prop:=Lp eT 18 Q 39 [a]
abbrev gZ(a:AV)(L:SH)(Q:R):Prop:=Pc eT 20 Q 0 [] [a] L
def gw(j:AV)(L:SH)(Q:R)(h:gZ j L Q):ac Tryz.prog 98 [j] L Q:=
 fv eT Tryz.func98 h
def g9:RF:=nv (bO Tryz.prog Tryz.f101 [(30025,⟨[1,3,4,6,8,9,10],[9],true,[]⟩),(9,⟨[1,3,4,8,9,10],[],true,[]⟩)] [(0,[1]),(4,[6])])
abbrev nO(a:AV)(L:SH)(Q:R):Prop:=Pc g9 20 Q 0 [] [a] L
def mO(j:AV)(L:SH)(Q:R)(h:nO j L Q):ac Tryz.prog 101 [j] L Q:=
 fv g9 Tryz.func101 h
def kV:RF:=nv (bO Tryz.prog Tryz.f100 [] [(0,[3])])
abbrev um(a b c:AV)(L:SH)(Q:R):Prop:=Pc kV 20 Q 0 [] [a,b,c] L
def sB(j t1 t2:AV)(L:SH)(Q:R)(h:um j t1 t2 L Q):ac Tryz.prog 100 [j,t1,t2] L Q:=
 fv kV Tryz.func100 h
def kW:RF:=nv (bO Tryz.prog Tryz.f102 [] [])
abbrev uo(a b:AV)(L:SH)(Q:R):Prop:=Pc kW 20 Q 0 [] [a,b] L
def sC(j t1:AV)(L:SH)(Q:R)(h:uo j t1 L Q):ac Tryz.prog 102 [j,t1] L Q:=
 fv kW Tryz.func102 h
def iw:RF:=nv (bO Tryz.prog Tryz.f103 [(51046,⟨[1,4,37],[],true,[]⟩),(30025,⟨[1,4,13],[],true,[]⟩),(21016,⟨[1,4,5],[],true,[]⟩)] [(0,[1])])
abbrev po(a:AV)(L:SH)(Q:R):Prop:=Pc iw 20 Q 0 [] [a] L
def nP(j:AV)(L:SH)(Q:R)(h:po j L Q):ac Tryz.prog 103 [j] L Q:=
 fv iw Tryz.func103 h
end Go.Proofs.YtbofdbhnbodbiaaGreatDoor.Am
