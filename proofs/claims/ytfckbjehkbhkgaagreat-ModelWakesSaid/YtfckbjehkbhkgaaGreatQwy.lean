/- part -/
import Derived.Test.YtfckbjehkbhkgaaGreatQwu
import Derived.Test.YtfckbjehkbhkgaaGreatQwx
set_option linter.all false
set_option maxRecDepth 100000
set_option maxHeartbeats 0
namespace Go.Proofs.YtfckbjehkbhkgaaGreat.Am
def kf{w:aG}(H:eT w):Av w:=by
 have N:=dT.1 H.fit;have B:∀k (u:k<w.ev.length),OkP w.w (ew w k) w.ev[k]:=λk u=>hM.1 (o4 H u)
 refine⟨H.len,by have:=H.world.d2;omega,λe G=>?_,H.evs,λe G=>?_,λn O=>(H.cnt n O).1,N.2.2.2⟩
 .obtain⟨k,u,rfl⟩:=abC G;exact(B k u).thr
 .obtain⟨k,u,rfl⟩:=abC G;have D:=B k u;have j:=D.thr;rw[<-N.2.2.2]at j;obtain⟨_,hc⟩:=w8 H j k acN;have S:=ka w.ev w.ev[k].thread k;have E:=H.len;have Z:aT w.init w.ev[k].thread<=400:=by
   obtain⟨a,b⟩:=ao.1 j;have E:w.ev[k].thread.toNat<w.init.count.length:=by omega
   have:=H.cnt _ (LT E);unfold aT;simp only[List.getD,mt E,abS];exact this.2
  have M:∀l,qN l (aT (ew w k) w.ev[k].thread)->∀d∈l,d<9223372036854775808:=λl h d Y=>by obtain⟨i,hi,rfl⟩:=abC Y;have:=(h i hi).2.1;omega
  exact⟨M _ D.nd,M _ D.nf⟩
def Ol{w:aG}(H:eT w):w.init.sync.locks.length<=4/\w.init.sync.done.length<=2/\w.init.sync.threads.length<=4/\(∀l∈w.init.sync.locks,l.readers.length<=400)/\w.init.cells.length<=12/\w.init.futures.length<=2:=by have B:=dT.1 H.fit;have u:=cH.1 B.1;have j:=H.world;exact⟨by rw[u.locks];exact j.l4,by rw[u.done];exact j.f2,by rw[u.threads];exact j.t4,H.rd,by rw[B.2.1];exact j.c12,by rw[B.2.2.1];exact j.f2⟩
def Dx{w:aG}(H:eT w):aq Tryz.prog 13 [.agg w.enc] (.agg (bN w).enc):=by obtain⟨a,b,c,d,e,f⟩:=Ol H;exact Mw w (kf H) acN acN acN (λl h=>by have:=d l h;omega) acN acN
def GC{w:aG}(H:eT w):aq Tryz.prog 12 [.agg w.enc] (.agg (gr (bN w) .nils)):=by obtain⟨a,b,c,d,e,f⟩:=Ol H;exact Mx w (kf H) acN acN acN (λl h=>by have:=d l h;omega) acN acN
section
theorem Sk(s:bI)(o t:Option Nat)(ho:o=none->s.regs=[])(ht:t=none->s.taint=[])(u:s.taint.length=s.regs.length)(B:s.regs.length<2^40)(D:∀l∈s.taint,l.length<=2^30)(i:cb)(O:1<=i.op)(N:i.op<=5):
  ac Tryz.prog 176 [.agg i.enc,.agg (gN s o t)] (ab o 1 (s.regs.map aa)++ab t 1 (s.taint.map eX)) (rv (cL i s) o t):=by
 obtain⟨op,M,G,E,n,j⟩:=i;dsimp only at O N;obtain rfl|rfl|rfl|rfl|rfl:op=1\/op=2\/op=3\/op=4\/op=5:=by omega
 .exact Xo s o t ho ht u B D M G E n j
 .exact Xp s o t ho ht u B D M G E n j
 .exact Xq s o t ho ht u B D M G E n j
 .exact Xr s o t ho ht u B D M G E n j
 .exact Xn s o t ho ht u B D M G E n j
section
variable (c:i6) (s:bI) (U:List Int) (hU:U.length<=2^30) (hT:j8 U s) (hc:c.ins.length<2^40) (o t:Option Nat) (ho:o=none->s.regs=[]) (ht:t=none->s.taint=[])
include hU hT hc ho ht
theorem Iu(G E:Nat)(Q:AV->SH->Prop)(hq:∀v L,Fz L v (Ka (gA c.ins c.ins.length s))->Q v L):
  W.loop (AB Q) [.pptr [c.enc] 0 0,.ptr G 0 0,.ptr E 0 0,.acU (0:Nat)] ((E,⟨4,[qM]⟩)::Tp s G o t):=by
 refine aL c.ins.length (λk (e:bI)=>([.pptr [c.enc] 0 0,.ptr G 0 0,.ptr E 0 0,.acU k],(E,⟨4,[qM]⟩)::Tp e G o t)) (λk e=>j8 U e/\(e.regs.length=s.regs.length/\e.taint.length=s.taint.length)/\gA c.ins (c.ins.length-k) e=gA c.ins c.ins.length s) s ⟨hT,⟨rfl,rfl⟩,rfl⟩ (.refl _ _) ?_;intro k e hk ⟨he,⟨hl1,hl2⟩,hrun⟩;rw[<-hrun]at hq;have Z:o=none->e.regs=[]:=λx=>abU.1 (by rw[hl1,ho x];rfl)
 have S:t=none->e.taint=[]:=λx=>abU.1 (by rw[hl2,ht x];rfl)
 dsimp only;refine vw ?_;have hd0:decide ((k:Int)<=(c.ins.length:Int))=true:=by simp;omega
 have j:gA c.ins (c.ins.length-k) e=(bI.zero,false)->∀L,Q (.tup [.agg qM,.bool false]) L:=λh L=>hq _ _ (by rw[h];exact HX (HW _))
 by_cases p1:e.pc<0
 .have hd1:decide (e.pc<0)=true:=by simpa using p1
  have M:=j (NZ (by simp[inB];omega));unfold Tp gN
  repeat' (first|refine sy ?_|refine s2 ?_ ?_|intro)
  exact M _
 .have hd1:decide (e.pc<0)=false:=by simpa using p1
  by_cases p2:(c.ins.length:Int)<=e.pc
  .have hd2:decide ((c.ins.length:Int)<=e.pc)=true:=by simpa using p2
   have M:=j (NZ (by simp[inB];omega));unfold Tp gN
   repeat' (first|refine sy ?_|refine s2 ?_ ?_|intro)
   exact M _
  .have hd2:decide ((c.ins.length:Int)<=e.pc)=false:=by simpa using p2
   have D:inB e.pc c.ins.length=true:=by simp[inB];omega
   have hx:=cq (f:=cb.enc) D;generalize O:c.ins.getD e.pc.toNat default=i at hx;have Y:=PD i.op;by_cases p3:i.op<1\/5<i.op
   .have hr:=Rn (k:=c.ins.length-k) D (by rw[O];exact p3);rw[hr]at hq;have fin:∀x,Q (.tup [.agg (gN e o t),.bool true]) ((E,x)::Tp e G o t):=λx=>hq _ _ (HX (Uc Z S λp hp=>by unfold Tp;exact .tail _ (.tail _ hp)))
    unfold Tp gN at fin ⊢;rw[show MN i.op=false by simp[MN];omega]at Y;rcases o with _|b1<;>rcases t with _|b2
    all_goals
     dsimp only[cU,ab,List.cons_append,List.nil_append]at fin ⊢
     repeat' (first|refine sy ?_|refine s2 ?_ ?_|intro)
     exact fin _
   .rw[show MN i.op=true by simp[MN];omega]at Y;by_cases p5:k=c.ins.length
    .have q3:decide ((k:Int)=(c.ins.length:Int))=true:=by simp[p5]
     have M:=j (by rw[p5,Nat.sub_self];exact Rp D (by rw[O];exact p3));unfold Tp gN
     repeat' (first|refine sy ?_|refine s2 ?_ ?_|intro)
     exact M _
    .have q3:decide ((k:Int)=(c.ins.length:Int))=false:=by simp;omega
     have B:=Sk e o t Z S he.len he.small he.short i acN acN;obtain⟨m,hm⟩:∃m,c.ins.length-k=m+1:=⟨c.ins.length-k-1,acN⟩;cases u:cL i e with
     |none=>
      have M:=j (Ro D (by rw[O];exact p3) (by rw[O];exact u));rw[u]at B;change ac _ _ _ _ (λv L=>v=.tup [.agg qM,.bool false]\/∃s3:bI,v=.tup [.agg (gN s3 o t),.bool false])at B;unfold Tp;rcases o with _|b1<;>rcases t with _|b2
      all_goals
       repeat' (first|refine sy ?_|((with_reducible refine aN 176 ?_);(refine HV (R:=[(E,_),(G,_)]) B (aar (l₁:=[(E,_),(G,_)])) ?_;rintro _ K' (rfl|⟨s3,rfl⟩)))|refine s2 ?_ ?_|intro)
       all_goals exact M _
     |some s2=>
      rw[u]at B;change ac _ _ _ _ (λv L=>v=.tup [.agg (gN s2 o t),.bool true]/\L=ab o 1 (s2.regs.map aa)++ab t 1 (s2.taint.map eX))at B;have N:gA c.ins (c.ins.length-(k+1)) s2=gA c.ins c.ins.length s:=by rw[<-hrun,hm,Rq D (by rw[O];exact p3) (by rw[O];exact u),show c.ins.length-(k+1)=m by omega]
      have hls:=Gp u;unfold Tp;rcases o with _|b1<;>rcases t with _|b2
      all_goals
       repeat' (first|refine sy ?_|((with_reducible refine aN 176 ?_);(refine HV (R:=[(E,_),(G,_)]) B (aar (l₁:=[(E,_),(G,_)])) ?_;rintro _ _ ⟨rfl,rfl⟩))|refine s2 ?_ ?_|intro)
       exact⟨k+1,s2,acN,acN,⟨he.step hU u,⟨acN,acN⟩,N⟩,fR (by rw[av (by omega:k<c.ins.length) acN]<;>rfl) rfl⟩
end
end
section
section
variable (c:i6) (s:bI) (U:List Int) (hU:U.length<=2^30) (hr:s.regs.length<2^40) (ht:s.taint.length<2^40) (hsh:∀l∈s.taint,l.length<=2^30) (hsub:∀l∈s.taint,∀x∈l,x∈U) (hc:c.ins.length<2^40)
include hU hr ht hsh hsub hc
theorem MP:aq Tryz.prog 152 [.agg c.enc,.agg s.enc] (Ka (cD c s)):=by
 refine ac.fz (AC _ _ _ _ ?_);refine vw ?_;generalize O:(λ(v:AV) (L:SH)=>∃N S,ax [v] L [N] S/\N=Ka (cD c s)/\S=[])=Q;have j:∀v L,Fz L v (Ka (cD c s))->Q v L:=λv L h=>by subst O;exact⟨_,[],ax.all h,rfl,rfl⟩
 clear O;by_cases E:(s.regs.length:Int)=c.regs
 .have d1:decide ((s.regs.length:Int)≠c.regs)=false:=by simpa using E
  by_cases D:(s.taint.length:Int)=c.regs
  .have d2:decide ((s.taint.length:Int)≠c.regs)=false:=by simpa using D
   have Z:j8 U s:=⟨acN,hr,hsh,hsub⟩;have e:cD c s=gA c.ins c.ins.length s:=by unfold cD;rw[if_pos ⟨E,D⟩]
   rw[e]at j;have M:=Kz s hr ht hsh
   repeat' (first|refine sx ?_|((with_reducible refine aN 175 ?_);(refine HV (K:=[]) M (List.Perm.refl _) ?_;rintro _ _ ⟨o,t,rfl,rfl,Y,G⟩))|refine sb λu B=>?_|refine s2 (λh=>?_) λh=>?_|fail)
   rename_i b3 _;rcases o with _|b1<;>rcases t with _|b2
   all_goals
    repeat' (first|refine sx ?_|refine sb λu B=>?_|refine s2 ?_ ?_|intro)
    exact Iu c s U hU Z hc _ _ Y G b3 u Q j
  .have d2:decide ((s.taint.length:Int)≠c.regs)=true:=by simpa using D
   have e:cD c s=(bI.zero,false):=by unfold cD;rw[if_neg (λh=>D h.2)]
   rw[e]at j
   repeat' (first|refine sy ?_|refine s2 ?_ ?_|intro)
   exact j _ _ (HX (HW _))
 .have d1:decide ((s.regs.length:Int)≠c.regs)=true:=by simpa using E
  have e:cD c s=(bI.zero,false):=by unfold cD;rw[if_neg (λh=>E h.1)]
  rw[e]at j
  repeat' (first|refine sy ?_|refine s2 ?_ ?_|intro)
  exact j _ _ (HX (HW _))
end
end
def us:Tryz.prog.underlying 9=some .string:=by kernel_rfl
def yM{P:Program}{g:FuncId}{args args2:List AV}{v:AV}{L L2:SH}{KL:R}(h:aq P g args2 v)(j:ax args L args2 L2)(u:KL v L2):W.callM P g args L KL:=⟨ac.pre j (h.call u)⟩
def gt:aq Tryz.prog 23 [] (.bool true):=by
 have u:=aq.of_ok Xh;have j:=aq.of_ok Xj;have B:=aq.of_ok UA;refine ac.fz (B8 _ _ ?_);refine vw ?_;unfold Uu at u j B;unfold W9 at j B;unfold Ys at u
 repeat' (first|refine sy ?_|((with_reducible refine aN 55 ?_);(refine yM u (ax.drop (L:=[_]) (K:=[_]) (R:=[]) (.refl _) rfl (fy.at_ (.cons (.refl _) (.cons (Fz.sls (l:=[0,0,0]) (f:=λn:Int=>[.int .u8 n]) (size:=1) (.head _) rfl acR rfl) (.cons (.refl _) (.cons (.refl _) .nil))))).2) ?_))|((with_reducible refine aN 26 ?_);(refine yM j (ax.drop (L:=[_]) (K:=[_]) (R:=[]) (.refl _) rfl (fy.at_ (.cons (.refl _) (.cons (Fz.sls (l:=[0]) (f:=λn:Int=>[.acU n,.acU n]) (size:=2) (.head _) rfl acR rfl) .nil))).2) ?_))|refine s2 ?_ ?_|intro)
 exact⟨_,[],ax.all (.refl _),acQ,rfl⟩
def mD:RF:=nv (bQ Tryz.prog Tryz.f154 [(63034,⟨[0,4,5,6,7,8,9],[9],true,[]⟩),(54049,⟨[0,4,5,6,7,8,9,36,47],[63034],false,[]⟩),(45040,⟨[0,4,5,6,7,8,9,36,39],[63034],false,[]⟩),(9,⟨[0,4,5,6,7,8],[],true,[]⟩)] [(5,[9])])
abbrev Dz(Q:R)(a:Kn):Vs->SH->Prop:=Jp mD 18 Q 63034 [a]
abbrev FC(a:AV)(L:SH)(Q:R):Prop:=Pc mD 20 Q 0 [] [a] L
def DA(j:AV)(L:SH)(Q:R)(h:FC j L Q):ac Tryz.prog 154 [j] L Q:=
 fv mD Tryz.func154 h
def pD:RF:=nv (bQ Tryz.prog Tryz.f155 [(42,⟨[1,6,7,8],[24],true,[]⟩),(24,⟨[1,6],[],true,[]⟩),(6,⟨[1,4],[],true,[]⟩)] [(0,[1]),(4,[5]),(10,[7])])
abbrev AF(a:AV)(L:SH)(Q:R):Prop:=Pc pD 20 Q 0 [] [a] L
def yN(j:AV)(L:SH)(Q:R)(h:AF j L Q):ac Tryz.prog 155 [j] L Q:=
 fv pD Tryz.func155 h
def pE:RF:=nv (bQ Tryz.prog Tryz.f123 [(60,⟨[1,10,11],[],true,[]⟩),(39,⟨[1,8,9],[],true,[]⟩)] [(0,[1])])
abbrev AG(a:AV)(L:SH)(Q:R):Prop:=Pc pE 20 Q 0 [] [a] L
def yO(j:AV)(L:SH)(Q:R)(h:AG j L Q):ac Tryz.prog 123 [j] L Q:=
 fv pE Tryz.func123 h
def jT:RF:=nv (bQ Tryz.prog Tryz.f198 [(6,⟨[0,1,2,3,9],[],true,[]⟩)] [(4,[10])])
abbrev sP(a b c d:AV)(L:SH)(Q:R):Prop:=Pc jT 20 Q 0 [] [a,b,c,d] L
def rB(D B u j:AV)(L:SH)(Q:R)(h:sP D B u j L Q):ac Tryz.prog 198 [D,B,u,j] L Q:=
 fv jT Tryz.func198 h
def nO:RF:=nv (bQ Tryz.prog Tryz.f181 [(150145,⟨[3,4,5,6,7],[],true,[]⟩),(145,⟨[3,4,5,6,7],[],true,[]⟩),(144139,⟨[0,3,5,6,14],[],true,[7]⟩),(78073,⟨[0,3,5,6,7,8,9,30,119],[150145],true,[4]⟩),(54049,⟨[0,3,5,6,7,8,9,30,91],[150145],true,[]⟩),(39034,⟨[0,3,5,6,7,8,9,30,67],[150145],true,[]⟩)] [(0,[3]),(1,[5])])
abbrev yP(a b:AV)(L:SH)(Q:R):Prop:=Pc nO 20 Q 0 [] [a,b] L
def xe(u j:AV)(L:SH)(Q:R)(h:yP u j L Q):ac Tryz.prog 181 [u,j] L Q:=
 fv nO Tryz.func181 h
def gH:RF:=nv (bQ Tryz.prog Tryz.f157 [(45040,⟨[0,1,6,8,9],[6],true,[]⟩),(27022,⟨[0,1,6,7,8],[6],true,[]⟩),(6,⟨[0,1,6],[],true,[]⟩)] [(4,[7])])
abbrev xf(Q:R)(a:Kn):Vs->SH->Prop:=Jp gH 17 Q 45040 [a]
abbrev xg(Q:R)(a:Kn):Vs->SH->Prop:=Jp gH 18 Q 27022 [a]
abbrev yQ(a b:AV)(L:SH)(Q:R):Prop:=Pc gH 20 Q 0 [] [a,b] L
def xh(u j:AV)(L:SH)(Q:R)(h:yQ u j L Q):ac Tryz.prog 157 [u,j] L Q:=
 fv gH Tryz.func157 h
section
def ly(k:Nat):List ThrD:=(List.replicate k (⟨0,0,false⟩:ThrD)).set 0 ⟨1,0,false⟩
theorem DH(k:Nat):(ly k).length=k:=by simp[ly]
theorem GI(k:Nat):ly (k+1)=ly k++[if k=0 then(⟨1,0,false⟩:ThrD)else⟨0,0,false⟩]:=by
 cases k with
 |zero=>rfl
 |succ k=>unfold ly;rw[List.replicate_succ' (n:=k+1),List.set_append_left _ _ acQ,if_neg acN]
theorem rC{α:Type}(k:Nat)(x:α):List.replicate (k+1) x=List.replicate k x++[x]:=List.replicate_succ'
section
variable (w:aF) (b2 b3:Nat) (Q:R) (hq:∀v L,Fz L v (.agg (bM w).enc)->Q v L)
def fW:List AV:=[.nils,.acU 0,.nils,.nils]
include hq
theorem Xz(h3:w.threads.length<=100)(Y Z:AV)(K L:SH)(M:Fz K Y (.lst ((List.replicate w.locks.length (⟨-1,[]⟩:LockD)).map LockD.enc)))(N:Fz K Z (.lst ((List.replicate w.futures.length false).map au)))(hL:L.Perm (K++[(b3,⟨4,[[Y,.acU (-1),Z,.nils]]⟩),(b2,⟨4,[fW]⟩)])):
  W.loop (qA Q) [.pptr [w.enc] 0 0,.ptr b2 0 0,.ptr b3 0 0,.acU (0:Nat)] L:=by
 refine aL w.threads.length (λk (o:Option Nat)=>([.pptr [w.enc] 0 0,.ptr b2 0 0,.ptr b3 0 0,.acU k],(b3,⟨4,[[.lst ((List.replicate w.locks.length (⟨-1,[]⟩:LockD)).map LockD.enc),.acU (-1),.lst ((List.replicate w.futures.length false).map au),af o k]]⟩)::(b2,⟨4,[fW]⟩)::ab o 3 ((ly k).map ThrD.enc))) (λk o=>o=none->k=0) none (λ_=>rfl) (ax.box hL (.cons M (.cons (.refl _) (.cons N (.cons .nile .nil))))) ?_;intro k o hk ho;dsimp only;unfold fW;refine vw ?_;have B:((ly k).map ThrD.enc).length=k:=by simp[DH]
 have O:o=none->(ly k).map ThrD.enc=[]:=λe=>by rw[ho e];rfl
 rw[show w.enc=[.lst (w.cells.map aU.enc),.lst (w.locks.map bZ.enc),.lst (w.conds.map cM.enc),.lst (w.futures.map ay),.lst (w.threads.map ay),.lst (w.sites.map cF.enc)]from rfl];rcases LE k w.threads.length with D|D
 .have hd:=aS D;have E:=GI k;clear hq;by_cases S:k=0
  .have d0:decide ((k:Int)=0)=true:=decide_eq_true acN;rw[if_pos S]at E
   repeat' (first|refine sx ?_|refine aM rp rp B O acP acQ acS acS acP (λj u=>?_)|refine sb λj u=>?_|refine s2 ?_ ?_|intro)
   exact⟨k+1,some j,acN,acN,nofun,ax.pickE (R:=[(b3,_),(b2,_),(j,_)]) rp (by rw[av D acN]) (by rw[E];simp[ab,af,ThrD.enc,aR])⟩
  .have d0:decide ((k:Int)=0)=false:=decide_eq_false acN;rw[if_neg S]at E
   repeat' (first|refine sx ?_|refine aM rp rp B O acP acQ acS acS acP (λj u=>?_)|refine sb λj u=>?_|refine s2 ?_ ?_|intro)
   exact⟨k+1,some j,acN,acN,nofun,ax.pickE (R:=[(b3,_),(b2,_),(j,_)]) rp (by rw[av D acN]) (by rw[E];simp[ab,af,ThrD.enc,aR])⟩
 .have hd:=aW D;have G:k=w.threads.length:=by omega
  have fin:∀L,(∀q∈ab o 3 ((ly k).map ThrD.enc),q∈L)->Q (.agg [.lst ((List.replicate w.locks.length (⟨-1,[]⟩:LockD)).map LockD.enc),.acU (-1),.lst ((List.replicate w.futures.length false).map au),af o k]) L:=λL hm=>by
   refine hq _ _ (Fz.aggs (.cons (.refl _) (.cons (.refl _) (.cons (.refl _) (.cons ?_ .nil)))));subst G;cases o with
   |none=>rw[O rfl |> λh=>show(bM w).threads.map ThrD.enc=[]from h];exact .emp
   |some b=>exact Fz.sls (l:=ly w.threads.length) (hm _ (.head _)) rfl acR (by rw[DH])
  clear hq;cases o
  all_goals
   dsimp only[af,ab]at *
   repeat' (first|refine sy ?_|refine s2 ?_ ?_|intro)
   exact fin _ acQ
theorem XA(h2:w.futures.length<=100)(h3:w.threads.length<=100)(N:AV)(K L:SH)(G:Fz K N (.lst ((List.replicate w.locks.length (⟨-1,[]⟩:LockD)).map LockD.enc)))(hL:L.Perm (K++[(b3,⟨4,[[N,.acU (-1),.nils,.nils]]⟩),(b2,⟨4,[fW]⟩)])):
  W.loop (qB Q) [.pptr [w.enc] 0 0,.ptr b2 0 0,.ptr b3 0 0,.acU (0:Nat)] L:=by
 refine aL w.futures.length (λk (o:Option Nat)=>([.pptr [w.enc] 0 0,.ptr b2 0 0,.ptr b3 0 0,.acU k],(b3,⟨4,[[.lst ((List.replicate w.locks.length (⟨-1,[]⟩:LockD)).map LockD.enc),.acU (-1),af o k,.nils]]⟩)::(b2,⟨4,[fW]⟩)::ab o 1 ((List.replicate k false).map au))) (λk o=>o=none->k=0) none (λ_=>rfl) (ax.box hL (.cons G (.cons (.refl _) (.cons .nile (.cons (.refl _) .nil))))) ?_;intro k o hk Y;dsimp only;refine vw ?_;have B:((List.replicate k false).map au).length=k:=by simp
 have M:o=none->(List.replicate k false).map au=[]:=λe=>by rw[Y e];rfl
 rcases LE k w.futures.length with D|D
 .have Z:=aS D;have S:=rC k false;clear hq;unfold fW;rw[show w.enc=[.lst (w.cells.map aU.enc),.lst (w.locks.map bZ.enc),.lst (w.conds.map cM.enc),.lst (w.futures.map ay),.lst (w.threads.map ay),.lst (w.sites.map cF.enc)]from rfl]
  repeat' (first|refine sx ?_|refine aM rp rp B M acP acQ acS acS acP (λj u=>?_)|refine sb λj u=>?_|refine s2 ?_ ?_|intro)
  exact⟨k+1,some j,acN,acN,nofun,ax.pickE (R:=[(b3,_),(b2,_),(j,_)]) rp (by rw[av D acN]) (by rw[S];simp[ab,af,au,aR])⟩
 .have Z:=aW D;have E:k=w.futures.length:=by omega
  subst E;have O:=Xz w b2 b3 Q hq h3 (.lst ((List.replicate w.locks.length (⟨-1,[]⟩:LockD)).map LockD.enc)) (af o w.futures.length) (ab o 1 ((List.replicate w.futures.length false).map au)) _ (.refl _) (by
   cases o with
   |none=>rw[M rfl];exact .emp
   |some b=>exact Fz.sls (l:=List.replicate w.futures.length false) (.head _) rfl acR acQ) (aar (l₁:=[(b3,(⟨4,[[.lst ((List.replicate w.locks.length (⟨-1,[]⟩:LockD)).map LockD.enc),.int .i64 (-1),af o w.futures.length,.nils]]⟩:Blk)),(b2,⟨4,[fW]⟩)]))
  clear hq
  repeat' (first|exact O|refine sy ?_|refine s2 ?_ ?_|intro)
theorem XB(h1:w.locks.length<=100)(h2:w.futures.length<=100)(h3:w.threads.length<=100)(L:SH)(hL:L.Perm [(b3,⟨4,[[.nils,.acU (-1),.nils,.nils]]⟩),(b2,⟨4,[fW]⟩)]):
  W.loop (qC Q) [.pptr [w.enc] 0 0,.ptr b2 0 0,.ptr b3 0 0,.acU (0:Nat)] L:=by
 refine aL w.locks.length (λk (o:Option Nat)=>([.pptr [w.enc] 0 0,.ptr b2 0 0,.ptr b3 0 0,.acU k],(b3,⟨4,[[af o k,.acU (-1),.nils,.nils]]⟩)::(b2,⟨4,[fW]⟩)::ab o 2 ((List.replicate k (⟨-1,[]⟩:LockD)).map LockD.enc))) (λk o=>o=none->k=0) none (λ_=>rfl) (ax.box (K:=[]) hL (.cons .nile (.cons (.refl _) (.cons (.refl _) (.cons (.refl _) .nil))))) ?_;intro k o hk Z;dsimp only;refine vw ?_;have u:((List.replicate k (⟨-1,[]⟩:LockD)).map LockD.enc).length=k:=by simp
 have S:o=none->(List.replicate k (⟨-1,[]⟩:LockD)).map LockD.enc=[]:=λe=>by rw[Z e];rfl
 rcases LE k w.locks.length with M|M
 .have hd:=aS M;clear hq;unfold fW;rw[show w.enc=[.lst (w.cells.map aU.enc),.lst (w.locks.map bZ.enc),.lst (w.conds.map cM.enc),.lst (w.futures.map ay),.lst (w.threads.map ay),.lst (w.sites.map cF.enc)]from rfl]
  repeat' (first|refine sx ?_|refine aM rp rp u S acP acQ acS acS acP (λD G=>?_)|refine sb λD G=>?_|refine s2 ?_ ?_|intro)
  refine⟨k+1,some D,acN,acN,nofun,?_⟩;refine ax.rowA (A:=[(b3,_),(b2,_)]) (b:=D) (R:=[]) (rows':=(List.replicate (k+1) (⟨-1,[]⟩:LockD)).map LockD.enc) rp ?_ ?_ (by rw[av M acN]<;>rfl)
  .simp
  .intro j r r' E B;rw[rC,ST]at B;rcases LE j k with O|O
   .rw[aaW (by rw[u];exact O)]at E B;rw[E]at B;cases B;exact fy.refl _ _
   .rw[aaL (by rw[u];exact O),u]at E B;generalize j-k=m at E B
    match m with
    |0=>cases E;cases B;exact .cons (.refl _) (.cons .nils .nil)
    |m+1=>simp at E
 .have hd:=aW M;have N:k=w.locks.length:=by omega
  subst N;have Y:=XA w b2 b3 Q hq h2 h3 (af o w.locks.length) (ab o 2 ((List.replicate w.locks.length (⟨-1,[]⟩:LockD)).map LockD.enc)) _ (by
   cases o with
   |none=>rw[S rfl];exact .emp
   |some b=>exact Fz.sls (l:=List.replicate w.locks.length (⟨-1,[]⟩:LockD)) (.head _) rfl acR acQ) (aar (l₁:=[(b3,(⟨4,[[af o w.locks.length,.int .i64 (-1),.nils,.nils]]⟩:Blk)),(b2,⟨4,[fW]⟩)]))
  clear hq
  repeat' (first|exact Y|refine sy ?_|refine s2 ?_ ?_|intro)
end
theorem GJ(w:aF)(D:w.locks.length<=100)(h2:w.futures.length<=100)(B:w.threads.length<=100):aq Tryz.prog 100 [.agg w.enc] (.agg (bM w).enc):=by
 refine OY λQ hq=>qD _ _ _ ?_
 refine vw ?_;have j:=λb2 b3 L u=>XB w b2 b3 Q hq D h2 B L u
 clear hq;unfold fW at j
 repeat' (first|refine sy ?_|intro)
 exact j _ _ _ (.refl _)
end
def dO(w:aF):w.enc=[.lst (w.cells.map aU.enc),.lst (w.locks.map bZ.enc),.lst (w.conds.map cM.enc),.lst (w.futures.map ay),.lst (w.threads.map ay),.lst (w.sites.map cF.enc)]:=rfl
def IB(s:SyncD)(x f k:AV):List AV:=[.lst (s.locks.map LockD.enc),.acU s.tx,.lst (s.done.map au),.lst (s.threads.map ThrD.enc),x,f,k]
def dB:List AV:=[.nils,.acU 0,.nils,.nils,.nils,.nils,.nils]
def zs(n:Nat):AV:=.lst ((List.replicate n (0:Int)).map aa)
def UU(w:aF)(b2 M:Nat)(Q:R)(Y:∀v L,Fz L v (.agg (bG w).enc)->Q v L)(h4:w.cells.length<2^40)(gf gn:AV)(K L:SH)(B:Fz K gf (zs w.futures.length))(u:Fz K gn (zs w.threads.length))(Z:L.Perm (K++[(M,⟨7,[IB (bM w) .nils gf gn]⟩),(b2,⟨7,[dB]⟩)])):
  W.loop (rk Q) [.pptr [w.enc] 0 0,.ptr b2 0 0,.ptr M 0 0,.acU (0:Nat)] L:=by
 refine aL w.cells.length (λk (o:Option Nat)=>([.pptr [w.enc] 0 0,.ptr b2 0 0,.ptr M 0 0,.acU k],(M,⟨7,[IB (bM w) (af o k) (zs w.futures.length) (zs w.threads.length)]⟩)::(b2,⟨7,[dB]⟩)::ab o 1 (((w.cells.take k).map aU.init).map aa))) (λk o=>o=none->k=0) none (λ_=>rfl) (ax.box Z (by unfold IB;exact .cons (.refl _) (.cons (.refl _) (.cons (.refl _) (.cons (.refl _) (.cons .nile (.cons B (.cons u .nil)))))))) ?_;intro k o hk ho;dsimp only;refine vw ?_;have G:(((w.cells.take k).map aU.init).map aa).length=k:=by simp;omega
 have h0:o=none->((w.cells.take k).map aU.init).map aa=[]:=λe=>by rw[ho e];rfl
 rcases LE k w.cells.length with D|D
 .have hd:=aS D;have O:=aj (f:=aU.enc) D;have S:w.cells.take (k+1)=w.cells.take k++[w.cells[k]]:=Fn D;generalize hT:w.cells[k]=ck at *;rw[show ck.enc=[.str ck.name,.acU ck.index,.acU ck.size,.bool ck.vol,.acU ck.init]from rfl]at O;clear Y Z B u;unfold zs;generalize(List.replicate w.futures.length (0:Int)).map aa=fx at *;generalize(List.replicate w.threads.length (0:Int)).map aa=wk at *;generalize bM w=sy_ at *;unfold IB dB;rw[dO]at *
  repeat' (first|refine sx ?_|refine aM rp rp G h0 acP acQ acS acS acP (λj E=>?_)|refine sb λj E=>?_|refine s2 ?_ ?_|intro)
  exact⟨k+1,some j,acN,acN,nofun,ax.pickE (R:=[(M,_),(b2,_),(j,_)]) rp (by rw[av D acN]) (by rw[S];simp[ab,af,aa,aR])⟩
 .have hd:=aW D;obtain rfl:k=w.cells.length:=by omega
  rw[aaT (Fd _)]at *;have N:∀L,(∀q∈ab o 1 ((w.cells.map aU.init).map aa),q∈L)->Q (.agg (IB (bM w) (af o w.cells.length) (zs w.futures.length) (zs w.threads.length))) L:=λL hm=>by
   refine Y _ _ (Fz.aggs (m:=(bG w).enc) ?_);rw[dL];unfold IB;refine .cons (.refl _) (.cons (.refl _) (.cons (.refl _) (.cons (.refl _) (.cons ?_ (.cons (.refl _) (.cons (.refl _) .nil))))));cases o with
   |none=>show Fz L .emp (.lst ((w.cells.map aU.init).map aa));rw[h0 rfl];exact .emp
   |some b=>exact Fz.sls (l:=w.cells.map aU.init) (hm _ (.head _)) rfl acR acQ
  clear Y Z B u;unfold zs at N;unfold zs;generalize(List.replicate w.futures.length (0:Int)).map aa=fx at *;generalize(List.replicate w.threads.length (0:Int)).map aa=wk at *;generalize bM w=sy_ at *;unfold IB at N;unfold IB dB;rw[dO]at *;cases o
  all_goals
   dsimp only[af,ab]at *
   repeat' (first|refine sy ?_|refine s2 ?_ ?_|intro)
   exact N _ acQ
def o7(w:aF)(h1:w.locks.length<=100)(h2:w.futures.length<=100)(Z:w.threads.length<=100)(h4:w.cells.length<2^40):aq Tryz.prog 63 [.agg w.enc] (.agg (bG w).enc):=by
 have u:=GJ w h1 h2 Z;refine OY λQ G=>rn _ _ _ ?_
 refine vw ?_;have E:=λO j gf gn K L D B Y=>UU w O j Q G h4 gf gn K L D B Y
 clear G;rw[show(bM w).enc=[.lst ((bM w).locks.map LockD.enc),.acU (bM w).tx,.lst ((bM w).done.map au),.lst ((bM w).threads.map ThrD.enc)]from rfl]at u;unfold IB dB at E;generalize bM w=sy_ at *;rw[dO]at *
 repeat' (first|refine sx ?_|refine sb λS M=>?_|refine s2 (λh=>?_) λh=>?_|fail)
 rename_i O _ bf _ N _ j _;refine E _ _ (.sl N 0 w.futures.length) (.sl j 0 w.threads.length) [(j,⟨1,List.replicate w.threads.length [.acU 0]⟩),(N,⟨1,List.replicate w.futures.length [.acU 0]⟩)] _ ?_ ?_ ?_
 .exact Fz.sls (l:=List.replicate w.futures.length (0:Int)) (.tail _ (.head _)) (by simp[aa]) acR acQ
 .exact Fz.sls (l:=List.replicate w.threads.length (0:Int)) (.head _) (by simp[aa]) acR acQ
 .exact aar (l₁:=[_]) |>.trans (by simp;exact List.Perm.swap _ _ _)
