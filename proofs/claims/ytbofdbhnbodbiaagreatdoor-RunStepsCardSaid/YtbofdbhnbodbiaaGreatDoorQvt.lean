/- A part of the proof; the statement is proved in the last part. -/
import Derived.Test.YtbofdbhnbodbiaaGreatDoorQvs
set_option linter.all false
set_option maxRecDepth 100000
set_option maxHeartbeats 20000000
namespace Go.Proofs.YtbofdbhnbodbiaaGreatDoor.Am
section
theorem Kt(s:aC)(o t:Option Nat)(ho:o=none->s.regs=[])(ht:t=none->s.taint=[])(u:s.taint.length=s.regs.length)(B:s.regs.length<2^40)(D:∀l∈s.taint,l.length<=2^30)(i:aS)(O:1<=i.op)(N:i.op<=5):
  ac Tryz.prog 84 [.agg i.enc,.agg (cV s o t)] (ab o 1 (s.regs.map ah)++ab t 1 (s.taint.map bz)) (oD (aL i s) o t):=by
 obtain⟨op,M,G,E,n,j⟩:=i;dsimp only at O N;obtain rfl|rfl|rfl|rfl|rfl:op=1\/op=2\/op=3\/op=4\/op=5:=by omega
 .exact OA s o t ho ht u B D M G E n j
 .exact OB s o t ho ht u B D M G E n j
 .exact OC s o t ho ht u B D M G E n j
 .exact OD s o t ho ht u B D M G E n j
 .exact Oz s o t ho ht u B D M G E n j
section
variable (c:eb) (s:aC) (U:List Int) (hU:U.length<=2^30) (hT:gX U s) (hc:c.ins.length<2^40) (o t:Option Nat) (ho:o=none->s.regs=[]) (ht:t=none->s.taint=[])
include hU hT hc ho ht
theorem CQ(O N:Nat)(Q:AV->SH->Prop)(hq:∀v L,Fz L v (lT (dQ c.ins c.ins.length s))->Q v L):
  W.loop (wM Q) [.pptr [c.enc] 0 0,.ptr O 0 0,.ptr N 0 0,.Uf (0:Nat)] ((N,⟨4,[jI]⟩)::iZ s O o t):=by
 refine bD c.ins.length (λk (e:aC)=>([.pptr [c.enc] 0 0,.ptr O 0 0,.ptr N 0 0,.Uf k],(N,⟨4,[jI]⟩)::iZ e O o t)) (λk e=>gX U e/\(e.regs.length=s.regs.length/\e.taint.length=s.taint.length)/\dQ c.ins (c.ins.length-k) e=dQ c.ins c.ins.length s) s ⟨hT,⟨rfl,rfl⟩,rfl⟩ (.refl _ _) ?_;intro k e hk ⟨he,⟨hl1,hl2⟩,hrun⟩;rw[<-hrun]at hq;have ho':o=none->e.regs=[]:=λx=>Tp.1 (by rw[hl1,ho x];rfl)
 have ht':t=none->e.taint=[]:=λx=>Tp.1 (by rw[hl2,ht x];rfl)
 dsimp only;refine vw ?_;have hd0:decide ((k:Int)<=(c.ins.length:Int))=true:=by simp;omega
 have u:dQ c.ins (c.ins.length-k) e=(aC.zero,false)->∀L,Q (.tup [.agg jI,.bool false]) L:=λh L=>hq _ _ (by rw[h];exact nL (oZ _))
 by_cases p1:e.pc<0
 .have hd1:decide (e.pc<0)=true:=by simpa using p1
  have S:=u (xd (by simp[inB];omega));unfold iZ cV
  repeat' (first|refine st ?_|refine sb λG j=>?_|refine s2 (λh=>?_) λh=>?_|fail)
  exact S _
 .have hd1:decide (e.pc<0)=false:=by simpa using p1
  by_cases p2:(c.ins.length:Int)<=e.pc
  .have hd2:decide ((c.ins.length:Int)<=e.pc)=true:=by simpa using p2
   have S:=u (xd (by simp[inB];omega));unfold iZ cV
   repeat' (first|refine st ?_|refine sb λG j=>?_|refine s2 (λh=>?_) λh=>?_|fail)
   exact S _
  .have hd2:decide ((c.ins.length:Int)<=e.pc)=false:=by simpa using p2
   have M:inB e.pc c.ins.length=true:=by simp[inB];omega
   have hx:=bQ (f:=aS.enc) M;generalize Z:c.ins.getD e.pc.toNat default=i at hx;have D:=Ig i.op;by_cases p3:i.op<1\/5<i.op
   .have hr:=D7 (k:=c.ins.length-k) M (by rw[Z];exact p3);rw[hr]at hq;have fin:∀x,Q (.tup [.agg (cV e o t),.bool true]) ((N,x)::iZ e O o t):=λx=>hq _ _ (nL (G6 ho' ht' λp hp=>by unfold iZ;exact .tail _ (.tail _ hp)))
    unfold iZ cV at fin ⊢;rw[show F2 i.op=false by simp[F2];omega]at D;rcases o with _|b1<;>rcases t with _|b2
    all_goals
     dsimp only[aJ,ab,List.cons_append,List.nil_append]at fin ⊢
     repeat' (first|refine st ?_|(refine pf 83 ?_;refine pm (D) ?_)|refine sb λG j=>?_|refine s2 (λh=>?_) λh=>?_|fail)
     exact fin _
   .rw[show F2 i.op=true by simp[F2];omega]at D;by_cases p5:k=c.ins.length
    .have q3:decide ((k:Int)=(c.ins.length:Int))=true:=by simp[p5]
     have S:=u (by rw[p5,T7];exact D9 M (by rw[Z];exact p3));unfold iZ cV
     repeat' (first|refine st ?_|(refine pf 83 ?_;refine pm (D) ?_)|refine sb λG j=>?_|refine s2 (λh=>?_) λh=>?_|fail)
     exact S _
    .have q3:decide ((k:Int)=(c.ins.length:Int))=false:=by simp;omega
     have E:=Kt e o t ho' ht' he.len he.small he.short i Ua Ua;obtain⟨m,hm⟩:∃m,c.ins.length-k=m+1:=⟨c.ins.length-k-1,Ua⟩;cases B:aL i e with
     |none=>
      have S:=u (D8 M (by rw[Z];exact p3) (by rw[Z];exact B));rw[B]at E;change ac _ _ _ _ (λv L=>v=.tup [.agg jI,.bool false]\/∃s3:aC,v=.tup [.agg (cV s3 o t),.bool false])at E;unfold iZ;rcases o with _|b1<;>rcases t with _|b2
      all_goals
       repeat' (first|refine st ?_|(refine pf 83 ?_;refine pm (D) ?_)|((with_reducible refine bb 84 ?_);(refine oY (R:=[(N,_),(O,_)]) E (SG (l₁:=[(N,_),(O,_)])) ?_;rintro _ K' (rfl|⟨s3,rfl⟩)))|refine sb λG j=>?_|refine s2 (λh=>?_) λh=>?_|fail)
       all_goals exact S _
     |some s2=>
      rw[B]at E;change ac _ _ _ _ (λv L=>v=.tup [.agg (cV s2 o t),.bool true]/\L=ab o 1 (s2.regs.map ah)++ab t 1 (s2.taint.map bz))at E;have Y:dQ c.ins (c.ins.length-(k+1)) s2=dQ c.ins c.ins.length s:=by rw[<-hrun,hm,Ea M (by rw[Z];exact p3) (by rw[Z];exact B),show c.ins.length-(k+1)=m by omega]
      have hls:=uk B;unfold iZ;rcases o with _|b1<;>rcases t with _|b2
      all_goals
       repeat' (first|refine st ?_|(refine pf 83 ?_;refine pm (D) ?_)|((with_reducible refine bb 84 ?_);(refine oY (R:=[(N,_),(O,_)]) E (SG (l₁:=[(N,_),(O,_)])) ?_;rintro _ _ ⟨rfl,rfl⟩))|refine sb λG j=>?_|refine s2 (λh=>?_) λh=>?_|fail)
       exact⟨k+1,s2,Ua,Ua,⟨he.step hU B,⟨Ua,Ua⟩,Y⟩,df (by rw[ax (by omega:k<c.ins.length) Ua]<;>rfl) rfl⟩
end
end
section
section
variable (c:eb) (s:aC) (U:List Int) (hU:U.length<=2^30) (hr:s.regs.length<2^40) (ht:s.taint.length<2^40) (hsh:∀l∈s.taint,l.length<=2^30) (hsub:∀l∈s.taint,∀x∈l,x∈U) (hc:c.ins.length<2^40)
include hU hr ht hsh hsub hc
theorem F4:aq Tryz.prog 45 [.agg c.enc,.agg s.enc] (lT (aT c s)):=by
 refine ac.fz (wN _ _ _ _ ?_);refine vw ?_;generalize O:(λ(v:AV) (L:SH)=>∃N S,az [v] L [N] S/\N=lT (aT c s)/\S=[])=Q;have B:∀v L,Fz L v (lT (aT c s))->Q v L:=λv L h=>by subst O;exact⟨_,[],az.all h,rfl,rfl⟩
 clear O;by_cases E:(s.regs.length:Int)=c.regs
 .have d1:decide ((s.regs.length:Int)≠c.regs)=false:=by simpa using E
  by_cases D:(s.taint.length:Int)=c.regs
  .have d2:decide ((s.taint.length:Int)≠c.regs)=false:=by simpa using D
   have Z:gX U s:=⟨Ua,hr,hsh,hsub⟩;have e:aT c s=dQ c.ins c.ins.length s:=by unfold aT;rw[if_pos ⟨E,D⟩]
   rw[e]at B;have M:=EA s hr ht hsh
   repeat' (first|refine st ?_|((with_reducible refine bb 82 ?_);(refine oY (K:=[]) M (List.Perm.refl _) ?_;rintro _ _ ⟨o,t,rfl,rfl,Y,G⟩))|refine sb λu j=>?_|refine s2 (λh=>?_) λh=>?_|fail)
   rename_i b3 _;rcases o with _|b1<;>rcases t with _|b2
   all_goals
    repeat' (first|refine st ?_|refine sb λu j=>?_|refine s2 (λh=>?_) λh=>?_|fail)
    exact CQ c s U hU Z hc _ _ Y G b3 u Q B
  .have d2:decide ((s.taint.length:Int)≠c.regs)=true:=by simpa using D
   have e:aT c s=(aC.zero,false):=by unfold aT;rw[if_neg (λh=>D h.2)]
   rw[e]at B
   repeat' (first|refine st ?_|refine sb λu j=>?_|refine s2 (λh=>?_) λh=>?_|fail)
   exact B _ _ (nL (oZ _))
 .have d1:decide ((s.regs.length:Int)≠c.regs)=true:=by simpa using E
  have e:aT c s=(aC.zero,false):=by unfold aT;rw[if_neg (λh=>E h.1)]
  rw[e]at B
  repeat' (first|refine st ?_|refine sb λu j=>?_|refine s2 (λh=>?_) λh=>?_|fail)
  exact B _ _ (nL (oZ _))
end
theorem Ku(s:aC)(h1:s.regs.length<2^40)(h2:s.taint.length<2^40)(Y:∀l∈s.taint,l.length<=2^30):aq Tryz.prog 35 [.agg s.enc,.agg s.enc] (.bool true):=by
 refine pF _ _ _ _ ?_;refine vw ?_;generalize N:(λ(v:AV) (L:SH)=>v=AV.bool true/\L=[])=Q;have O:Q (.bool true) []:=by subst N;exact⟨rfl,rfl⟩
 clear N;have d1:decide (s.pc≠s.pc)=false:=by simp
 have d2:decide (s.ev≠s.ev)=false:=by simp
 have d3:decide ((s.regs.length:Int)≠(s.regs.length:Int))=false:=by simp
 have d4:decide ((s.taint.length:Int)≠(s.taint.length:Int))=false:=by simp
 repeat' (first|refine st ?_|refine sb λB u=>?_|refine s2 (λh=>?_) λh=>?_|fail)
 refine iR s.regs.length (λi=>([.pptr [s.enc] 0 0,.pptr [s.enc] 0 0,.Uf i],[])) (λi=>True) trivial rfl rfl ?_;intro i hi _;dsimp only;refine vw ?_;rcases Nat.lt_or_ge i s.regs.length with G|G
 .have S:=aW G;have hx:=ao (f:=ah) G;have d5:decide (s.regs[i]≠s.regs[i])=false:=by simp
  repeat' (first|refine st ?_|refine sb λB u=>?_|refine s2 (λh=>?_) λh=>?_|fail)
  exact⟨i+1,Ua,Ua,trivial,df (by rw[ax G Ua]<;>rfl) rfl⟩
 .have S:=aX G
  repeat' (first|refine st ?_|refine sb λB u=>?_|refine s2 (λh=>?_) λh=>?_|fail)
  refine iR s.taint.length (λi=>([.pptr [s.enc] 0 0,.pptr [s.enc] 0 0,.Uf i],[])) (λi=>True) trivial rfl rfl ?_;intro j hj _;dsimp only;refine vw ?_;rcases Nat.lt_or_ge j s.taint.length with E|E
  .have M:=aW E;have Z:=ao (f:=bz) E;have D:=sU s.taint[j] (by have:=Y _ (Sy E);omega)
   repeat' (first|refine st ?_|(refine pf 46 ?_;refine pm (D) ?_)|refine sb λB u=>?_|refine s2 (λh=>?_) λh=>?_|fail)
   exact⟨j+1,Ua,Ua,trivial,df (by rw[ax E Ua]<;>rfl) rfl⟩
  .have M:=aX E
   repeat' (first|refine st ?_|refine sb λB u=>?_|refine s2 (λh=>?_) λh=>?_|fail)
   exact O
end
def St{t:TypeId}{l:List AV}{ts:List TypeId}{K:AV->Prop}(u:Fl t=some ts)(j:xn Tryz.prog ts l l=some true)(h:K (.bool false)):W.bin Tryz.prog Fl .neq t (.agg l) (.agg l) K:=by rw[eP];refine⟨.bool false,?_,h⟩;simp only[gC,u,Tk,j];rfl
def ui:Tryz.prog.underlying 3=some (.int .i64):=by kernel_rfl
def ub:Tryz.prog.underlying 4=some .bool:=by kernel_rfl
def us:Tryz.prog.underlying 9=some .string:=by kernel_rfl
def OE(x:ThrD){K:AV->Prop}(h:K (.bool false)):W.bin Tryz.prog Fl .neq 98 (.agg x.enc) (.agg x.enc) K:=
 St (ts:=[3,3,4]) (by kernel_rfl) (by simp[ThrD.enc,xn,tH,ui,ub]) h
def EB(l:List Int)(O:l.length<2^62):aq Tryz.prog 34 [.lst (l.map ah),.lst (l.map ah)] (.bool true):=by
 refine ri _ _ _ _ ?_;refine vw ?_;generalize D:(λ(u:AV) (K:SH)=>u=AV.bool true/\K=[])=Q;have M:Q (.bool true) []:=by subst D;exact⟨rfl,rfl⟩
 clear D;have d0:decide ((l.length:Int)≠(l.length:Int))=false:=by simp
 repeat' (first|refine st ?_|refine sb λB j=>?_|refine s2 (λh=>?_) λh=>?_|fail)
 refine eB l.length (λ_=>True) (λi=>[.lst (l.map ah),.lst (l.map ah),.Uf i]) O trivial rfl (λi E S Z _ G N=>?_) (λi E S _ G=>?_)
 all_goals refine vw ?_
 .have Y:=ao (f:=ah) E;have d1:decide (l[i]≠l[i])=false:=by simp
  repeat' (first|refine st ?_|refine sb λB j=>?_|refine s2 (λh=>?_) λh=>?_|fail)
  exact N trivial
 .repeat' (first|refine st ?_|refine sb λB j=>?_|refine s2 (λh=>?_) λh=>?_|fail)
  exact M
def Kv(s:SyncD)(h1:s.locks.length<2^62)(h2:s.done.length<2^62)(h3:s.threads.length<2^62)(h4:∀l∈s.locks,l.readers.length<2^62):aq Tryz.prog 33 [.agg s.enc,.agg s.enc] (.bool true):=by
 refine ac.fz (AA _ _ _ _ ?_);refine vw ?_;generalize O:(λ(v:AV) (L:SH)=>∃M S,az [v] L [M] S/\M=AV.bool true/\S=[])=Q;have Z:∀L,Q (.bool true) L:=λL=>by subst O;exact⟨_,[],az.all (.refl _),rfl,rfl⟩
 clear O;have d0:decide (s.tx≠s.tx)=false:=by simp
 have d1:decide ((s.locks.length:Int)≠s.locks.length)=false:=by simp
 have d2:decide ((s.done.length:Int)≠s.done.length)=false:=by simp
 have d3:decide ((s.threads.length:Int)≠s.threads.length)=false:=by simp
 repeat' (first|refine st ?_|refine sb λu j=>?_|refine s2 (λh=>?_) λh=>?_|fail)
 refine eB s.locks.length (λ_=>True) (λi=>[.pptr [s.enc] 0 0,.pptr [s.enc] 0 0,.Uf i]) h1 trivial rfl (λi g E N _ B D=>?_) (λi g E _ B=>?_)
 all_goals refine vw ?_
 .have G:=ao (f:=LockD.enc) g;have Y:=sU s.locks[i].readers (h4 _ (Sy g));have d4:decide (s.locks[i].owner≠s.locks[i].owner)=false:=by simp
  rw[show s.locks[i].enc=[.Uf s.locks[i].owner,.lst (s.locks[i].readers.map ah)]from rfl]at G
  repeat' (first|refine st ?_|(refine pf 46 ?_;refine pm (Y) ?_)|refine sb λu j=>?_|refine s2 (λh=>?_) λh=>?_|fail)
  exact D trivial
 .repeat' (first|refine st ?_|refine sb λu j=>?_|refine s2 (λh=>?_) λh=>?_|fail)
  refine eB s.done.length (λ_=>True) (λi=>[.pptr [s.enc] 0 0,.pptr [s.enc] 0 0,.Uf i]) h2 trivial rfl (λi g E N _ B D=>?_) (λi g E _ B=>?_)
  all_goals refine vw ?_
  .have G:=ao (f:=aB) g;have d4:decide (s.done[i]≠s.done[i])=false:=by simp
   repeat' (first|refine st ?_|refine sb λu j=>?_|refine s2 (λh=>?_) λh=>?_|fail)
   exact D trivial
  .repeat' (first|refine st ?_|refine sb λu j=>?_|refine s2 (λh=>?_) λh=>?_|fail)
   refine eB s.threads.length (λ_=>True) (λi=>[.pptr [s.enc] 0 0,.pptr [s.enc] 0 0,.Uf i]) h3 trivial rfl (λi g E N _ B D=>?_) (λi g E _ B=>?_)
   all_goals refine vw ?_
   .have G:=ao (f:=ThrD.enc) g
    repeat' (first|refine jt (OE _ ?_)|refine st ?_|refine sb λu j=>?_|refine s2 (λh=>?_) λh=>?_|fail)
    exact D trivial
   .repeat' (first|refine st ?_|refine sb λu j=>?_|refine s2 (λh=>?_) λh=>?_|fail)
    exact Z _
def zc(c:aZ)(n:Nat)(M:n<=400)(s:cm)(H:wF c n s):aq Tryz.prog 12 [.agg s.enc,.agg s.enc] (.bool true):=by
 have E:=Kv s.sync (by have:=H.lk;omega) (by have:=H.dn;omega) (by have:=H.th;omega) (λl hl=>by have:=H.rd l hl;omega);have k2:=EB s.cells (by have:=H.nc;omega);have Z:=EB s.futures (by have:=H.nf;omega);have N:∀i (h:i<s.threads.length),aq Tryz.prog 35 [.agg s.threads[i].enc,.agg s.threads[i].enc] (.bool true):=λi h=>by obtain⟨a,_,_,b⟩:=H.thr _ (Sy h);exact Ku _ a.small (by have:=a.len;omega) a.short
 have d3:decide ((s.threads.length:Int)≠s.threads.length)=false:=by simp
 have nt:=H.nt;clear H;refine ac.fz (At _ _ _ _ ?_);refine vw ?_;generalize O:(λ(v:AV) (L:SH)=>∃D S,az [v] L [D] S/\D=AV.bool true/\S=[])=Q;have hq:∀L,Q (.bool true) L:=λL=>by subst O;exact⟨_,[],az.all (.refl _),rfl,rfl⟩
 clear O;have B:s.enc=[.lst (s.sync.locks.map LockD.enc),.Uf s.sync.tx,.lst (s.sync.done.map aB),.lst (s.sync.threads.map ThrD.enc),.lst (s.cells.map ah),.lst (s.futures.map ah),.lst (s.threads.map aC.enc)]:=rfl;rw[show s.sync.enc=[.lst (s.sync.locks.map LockD.enc),.Uf s.sync.tx,.lst (s.sync.done.map aB),.lst (s.sync.threads.map ThrD.enc)]from rfl]at E;rw[B]
 repeat' (first|refine st ?_|(refine pf 33 ?_;refine pm (E) ?_)|(refine pf 34 ?_;refine pm (k2) ?_)|(refine pf 34 ?_;refine pm (Z) ?_)|refine sb λu j=>?_|refine s2 (λh=>?_) λh=>?_|fail)
 rw[<-B];refine eB s.threads.length (λ_=>True) (λi=>[.pptr [s.enc] 0 0,.pptr [s.enc] 0 0,.Uf i]) Ua trivial rfl (λi g hd hi _ Y M=>?_) (λi g hd _ Y=>?_)
 all_goals refine vw ?_
 .have hx:=ao (f:=aC.enc) g;have G:=N i g;clear N;rw[show s.threads[i].enc=[.Uf s.threads[i].pc,.lst (s.threads[i].regs.map ah),.lst (s.threads[i].taint.map bz),.Uf s.threads[i].ev]from rfl]at hx G;generalize s.threads[i]=e at *
  repeat' (first|refine st ?_|(refine pf 35 ?_;refine pm (G) ?_)|refine sb λu j=>?_|refine s2 (λh=>?_) λh=>?_|fail)
  exact M trivial
 .repeat' (first|refine st ?_|refine sb λu j=>?_|refine s2 (λh=>?_) λh=>?_|fail)
  exact hq _
def qr:RF:=nv (bO Tryz.prog Tryz.f72 [] [])
abbrev AH(a b:AV)(L:SH)(Q:R):Prop:=Pc qr 20 Q 0 [] [a,b] L
def zd(j t1:AV)(L:SH)(Q:R)(h:AH j t1 L Q):ac Tryz.prog 72 [j,t1] L Q:=
 fv qr Tryz.func72 h
end Go.Proofs.YtbofdbhnbodbiaaGreatDoor.Am
