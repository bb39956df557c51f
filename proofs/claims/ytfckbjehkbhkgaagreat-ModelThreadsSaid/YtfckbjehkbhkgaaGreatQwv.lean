/- part -/
import Derived.Test.YtfckbjehkbhkgaaGreatQwt
import Derived.Test.YtfckbjehkbhkgaaGreatQwu
set_option linter.all false
set_option maxRecDepth 100000
set_option maxHeartbeats 0
namespace Go.Proofs.YtfckbjehkbhkgaaGreat.Am
section
open Go.RowKit
def yH(xs:List eu)(B:xs.length*16<=140737488355328):ac Tryz.prog 50 [.lst (xs.map eu.enc)] [] λv L=>∃o,v=cU o xs.length/\L=ab o 2 (xs.map eu.enc)/\(o=none->xs=[]):=by refine(yq (λA n c xs w D G u E=>cloneC_any A n c xs w D G u E) ⟨_,_,Tryz.func50,rfl⟩ (xs.map eu.enc) (by simp[eu.enc,AV.one]) (λr j=>by obtain⟨x,_,rfl⟩:=abP.1 j;rfl) (by simpa using B)).mono ?_;rintro v L ⟨o,rfl,rfl,h⟩;exact⟨o,acQ,rfl,λe=>by simpa using h e⟩
def KK(xs:List eu)(u:xs.length*16<=140737488355328):aq Tryz.prog 50 [.lst (xs.map eu.enc)] (.lst (xs.map eu.enc)):=by
 refine ac.fz ((yH xs u).mono ?_);rintro v L ⟨o,rfl,rfl,j⟩;refine⟨_,[],ax.all (v2:=.lst (xs.map eu.enc)) ?_,rfl,rfl⟩;cases o with
 |none=>rw[j rfl];exact .refl _
 |some b=>exact Fz.sls (.head _) rfl acR rfl
def Pt{n b m:Nat}{y:Blk}{kd j:IntKind}{L:SH}{K:AV->Prop}(B:(b,y)∈L)(u:y.size=n)(D:K (.sl b 0 m)):W.slice n (.sl b 0 m) none (some (.int kd (m:Int))) (some (.int j (m:Int))) L K:=
 ⟨m,0,m,m,rfl,rfl,rR,rR,abt _,Fd _,Fd _,⟨y,B,u⟩,by rw[Nat.sub_zero];exact D⟩
def MC{n:Nat}{kd j:IntKind}{L:SH}{K:AV->Prop}(u:K .nils):W.slice n .nils none (some (.int kd 0)) (some (.int j 0)) L K:=
 ⟨0,0,0,0,rfl,rfl,rfl,rfl,abt _,Fd _,Fd _,u⟩
def ZP(a:Int)(b:Bool)(v:Int){K:AV->Prop}(h:K (.bool (Kk ⟨a,b⟩ v))):W.bin Tryz.prog Fl .eql 80 (.agg [.acU a,.bool b]) (.agg [.acU v,.bool true]) K:=by
 rw[gg];refine⟨.bool (Kk ⟨a,b⟩ v),?_,h⟩;have u:Fl 80=some [2,4]:=by kernel_rfl
 simp only[iS,u,abQ];cases b<;>by_cases j:a=v<;>simp[xB,vg,Kk,j,show Tryz.prog.underlying 2=some (.int .i64) by kernel_rfl,show Tryz.prog.underlying 4=some .bool by kernel_rfl]
def MD(w:aG)(c:aP)(t wake:Int)(K:SH)(v:AV)(L:SH):Prop:=match c8 w c t wake with
 |none=>v=.tup [.agg aP.zero.enc,.bool false]/\L=K
 |some n=>∃b:Nat,v=.tup [.agg (gr n (.sl b 0 n.order.length)),.bool true]/\L=[(b,⟨1,n.order.map aa⟩)]
def aG.pure(w:aG):bv (.agg w.enc):=.aggs (by
 rw[bj];exact aA (.lmap λx _=>by unfold aU.enc;exact pv) (aA (.lmap λx _=>by unfold bZ.enc;exact pv) (aA (.lmap λx _=>by unfold cM.enc;exact pv) (aA (.lmap λx _=>gD x) (aA (.lmap λx _=>gD x) (aA (.lmap λx _=>by unfold cF.enc;exact pv) (aA (.int _ _) (aA (.lmap λx _=>by unfold LockD.enc;exact aA (.int _ _) (aA (.lmap λx _=>by unfold aa;exact pv) dS)) (aA (.int _ _) (aA (.lmap λx _=>by unfold au;exact pv) (aA (.lmap λx _=>by unfold ThrD.enc;exact pv)
  (aA (.lmap λx _=>by unfold aa;exact pv) (aA (.lmap λx _=>by unfold aa;exact pv) (aA (.lmap λx _=>by unfold aa;exact pv) (aA (.lmap λx _=>by unfold bA.enc;exact aA (.int _ _) (aA (.int _ _) (aA (.int _ _) (aA (.int _ _) (aA (.int _ _) (aA (.lmap λx _=>by unfold aa;exact pv) (aA (.lmap λx _=>by unfold aa;exact pv) dS))))))) dS)))))))))))))))
def aP.pure(c:aP):bv (.agg c.enc):=.aggs (by
 rw[cG];exact aA (.lmap λx _=>by unfold LockD.enc;exact aA (.int _ _) (aA (.lmap λx _=>by unfold aa;exact pv) dS)) (aA (.int _ _) (aA (.lmap λx _=>by unfold au;exact pv) (aA (.lmap λx _=>by unfold ThrD.enc;exact pv) (aA (.lmap λx _=>by unfold eu.enc;exact pv) (aA (.lmap λx _=>by unfold eu.enc;exact pv) (aA (.lmap λx _=>by unfold aa;exact pv) (aA (.lmap λx _=>by unfold au;exact pv) (aA (.lmap λx _=>by unfold aa;exact pv) dS)))))))))
def rX(w:aG)(c:aP)(t:Int):∀(i:Nat) (a:AV),([.agg w.enc,.agg c.enc,.acU t]:List AV)[i]? =some a->bv a:=λi a h=>by
 match i with
 |0=>cases h;exact w.pure
 |1=>cases h;exact c.pure
 |2=>cases h;exact .int _ _
 |i+3=>simp at h
def Ob(c:aP)(j:Nat){K:SH}(h:(j,(⟨1,c.order.map aa⟩:Blk))∈K):Fz K (.agg (gr c (.sl j 0 c.order.length))) (.agg c.enc):=
 Fz.aggs (m:=c.enc) (.cons (.refl _) (.cons (.refl _) (.cons (.refl _) (.cons (.refl _) (.cons (.refl _) (.cons (.refl _) (.cons (Fz.sls h rfl acR rfl) (.cons (.refl _) (.cons (.refl _) .nil)))))))))
def UE(w:aG)(c:aP)(t:Int)(j:Nat):ax [.agg w.enc,.agg (gr c (.sl j 0 c.order.length)),.acU t] [(j,(⟨1,c.order.map aa⟩:Blk))] [.agg w.enc,.agg c.enc,.acU t] []:=
 ax.drop (K:=[(j,(⟨1,c.order.map aa⟩:Blk))]) (.refl _) rfl (fy.at_ (.cons (.refl _) (.cons (Ob c j (.head _)) (.cons (.refl _) .nil)))).2
end
section
theorem Sk(s:bI)(o t:Option Nat)(ho:o=none->s.regs=[])(ht:t=none->s.taint=[])(u:s.taint.length=s.regs.length)(B:s.regs.length<2^40)(D:∀l∈s.taint,l.length<=2^30)(i:cb)(O:1<=i.op)(N:i.op<=5):
  ac Tryz.prog 176 [.agg i.enc,.agg (gN s o t)] (ab o 1 (s.regs.map aa)++ab t 1 (s.taint.map eX)) (rv (cL i s) o t):=by
 obtain⟨op,M,G,E,n,j⟩:=i;dsimp only at O N;obtain rfl|rfl|rfl|rfl|rfl:op=1\/op=2\/op=3\/op=4\/op=5:=by omega
 .exact Xo s o t ho ht u B D M G E n j
 .exact Xp s o t ho ht u B D M G E n j
 .exact Xq s o t ho ht u B D M G E n j
 .exact Xr s o t ho ht u B D M G E n j
 .exact Xn s o t ho ht u B D M G E n j
section
variable (c:i6) (s:bI) (U:List Int) (hU:U.length<=2^30) (hT:j8 U s) (hc:c.ins.length<2^40) (o t:Option Nat) (ho:o=none->s.regs=[]) (ht:t=none->s.taint=[])
include hU hT hc ho ht
theorem Iu(G E:Nat)(Q:AV->SH->Prop)(hq:∀v L,Fz L v (Ka (gA c.ins c.ins.length s))->Q v L):
  W.loop (AB Q) [.pptr [c.enc] 0 0,.ptr G 0 0,.ptr E 0 0,.acU (0:Nat)] ((E,⟨4,[qM]⟩)::Tp s G o t):=by
 refine aL c.ins.length (λk (e:bI)=>([.pptr [c.enc] 0 0,.ptr G 0 0,.ptr E 0 0,.acU k],(E,⟨4,[qM]⟩)::Tp e G o t)) (λk e=>j8 U e/\(e.regs.length=s.regs.length/\e.taint.length=s.taint.length)/\gA c.ins (c.ins.length-k) e=gA c.ins c.ins.length s) s ⟨hT,⟨rfl,rfl⟩,rfl⟩ (.refl _ _) ?_;intro k e hk ⟨he,⟨hl1,hl2⟩,hrun⟩;rw[<-hrun]at hq;have Z:o=none->e.regs=[]:=λx=>abU.1 (by rw[hl1,ho x];rfl)
 have S:t=none->e.taint=[]:=λx=>abU.1 (by rw[hl2,ht x];rfl)
 dsimp only;refine vw ?_;have hd0:decide ((k:Int)<=(c.ins.length:Int))=true:=by simp;omega
 have j:gA c.ins (c.ins.length-k) e=(bI.zero,false)->∀L,Q (.tup [.agg qM,.bool false]) L:=λh L=>hq _ _ (by rw[h];exact HX (HW _))
 by_cases p1:e.pc<0
 .have hd1:decide (e.pc<0)=true:=by simpa using p1
  have M:=j (NZ (by simp[inB];omega));unfold Tp gN
  repeat' (first|refine sy ?_|refine s2 ?_ ?_|intro)
  exact M _
 .have hd1:decide (e.pc<0)=false:=by simpa using p1
  by_cases p2:(c.ins.length:Int)<=e.pc
  .have hd2:decide ((c.ins.length:Int)<=e.pc)=true:=by simpa using p2
   have M:=j (NZ (by simp[inB];omega));unfold Tp gN
   repeat' (first|refine sy ?_|refine s2 ?_ ?_|intro)
   exact M _
  .have hd2:decide ((c.ins.length:Int)<=e.pc)=false:=by simpa using p2
   have D:inB e.pc c.ins.length=true:=by simp[inB];omega
   have hx:=cq (f:=cb.enc) D;generalize O:c.ins.getD e.pc.toNat default=i at hx;have Y:=PD i.op;by_cases p3:i.op<1\/5<i.op
   .have hr:=Rn (k:=c.ins.length-k) D (by rw[O];exact p3);rw[hr]at hq;have fin:∀x,Q (.tup [.agg (gN e o t),.bool true]) ((E,x)::Tp e G o t):=λx=>hq _ _ (HX (Uc Z S λp hp=>by unfold Tp;exact .tail _ (.tail _ hp)))
    unfold Tp gN at fin ⊢;rw[show MN i.op=false by simp[MN];omega]at Y;rcases o with _|b1<;>rcases t with _|b2
    all_goals
     dsimp only[cU,ab,List.cons_append,List.nil_append]at fin ⊢
     repeat' (first|refine sy ?_|refine s2 ?_ ?_|intro)
     exact fin _
   .rw[show MN i.op=true by simp[MN];omega]at Y;by_cases p5:k=c.ins.length
    .have q3:decide ((k:Int)=(c.ins.length:Int))=true:=by simp[p5]
     have M:=j (by rw[p5,Nat.sub_self];exact Rp D (by rw[O];exact p3));unfold Tp gN
     repeat' (first|refine sy ?_|refine s2 ?_ ?_|intro)
     exact M _
    .have q3:decide ((k:Int)=(c.ins.length:Int))=false:=by simp;omega
     have B:=Sk e o t Z S he.len he.small he.short i acN acN;obtain⟨m,hm⟩:∃m,c.ins.length-k=m+1:=⟨c.ins.length-k-1,acN⟩;cases u:cL i e with
     |none=>
      have M:=j (Ro D (by rw[O];exact p3) (by rw[O];exact u));rw[u]at B;change ac _ _ _ _ (λv L=>v=.tup [.agg qM,.bool false]\/∃s3:bI,v=.tup [.agg (gN s3 o t),.bool false])at B;unfold Tp;rcases o with _|b1<;>rcases t with _|b2
      all_goals
       repeat' (first|refine sy ?_|((with_reducible refine aN 176 ?_);(refine HV (R:=[(E,_),(G,_)]) B (aar (l₁:=[(E,_),(G,_)])) ?_;rintro _ K' (rfl|⟨s3,rfl⟩)))|refine s2 ?_ ?_|intro)
       all_goals exact M _
     |some s2=>
      rw[u]at B;change ac _ _ _ _ (λv L=>v=.tup [.agg (gN s2 o t),.bool true]/\L=ab o 1 (s2.regs.map aa)++ab t 1 (s2.taint.map eX))at B;have N:gA c.ins (c.ins.length-(k+1)) s2=gA c.ins c.ins.length s:=by rw[<-hrun,hm,Rq D (by rw[O];exact p3) (by rw[O];exact u),show c.ins.length-(k+1)=m by omega]
      have hls:=Gp u;unfold Tp;rcases o with _|b1<;>rcases t with _|b2
      all_goals
       repeat' (first|refine sy ?_|((with_reducible refine aN 176 ?_);(refine HV (R:=[(E,_),(G,_)]) B (aar (l₁:=[(E,_),(G,_)])) ?_;rintro _ _ ⟨rfl,rfl⟩))|refine s2 ?_ ?_|intro)
       exact⟨k+1,s2,acN,acN,⟨he.step hU u,⟨acN,acN⟩,N⟩,fR (by rw[av (by omega:k<c.ins.length) acN]<;>rfl) rfl⟩
end
end
section
section
variable (c:i6) (s:bI) (U:List Int) (hU:U.length<=2^30) (hr:s.regs.length<2^40) (ht:s.taint.length<2^40) (hsh:∀l∈s.taint,l.length<=2^30) (hsub:∀l∈s.taint,∀x∈l,x∈U) (hc:c.ins.length<2^40)
include hU hr ht hsh hsub hc
theorem MP:aq Tryz.prog 152 [.agg c.enc,.agg s.enc] (Ka (cD c s)):=by
 refine ac.fz (AC _ _ _ _ ?_);refine vw ?_;generalize O:(λ(v:AV) (L:SH)=>∃N S,ax [v] L [N] S/\N=Ka (cD c s)/\S=[])=Q;have j:∀v L,Fz L v (Ka (cD c s))->Q v L:=λv L h=>by subst O;exact⟨_,[],ax.all h,rfl,rfl⟩
 clear O;by_cases E:(s.regs.length:Int)=c.regs
 .have d1:decide ((s.regs.length:Int)≠c.regs)=false:=by simpa using E
  by_cases D:(s.taint.length:Int)=c.regs
  .have d2:decide ((s.taint.length:Int)≠c.regs)=false:=by simpa using D
   have Z:j8 U s:=⟨acN,hr,hsh,hsub⟩;have e:cD c s=gA c.ins c.ins.length s:=by unfold cD;rw[if_pos ⟨E,D⟩]
   rw[e]at j;have M:=Kz s hr ht hsh
   repeat' (first|refine sx ?_|((with_reducible refine aN 175 ?_);(refine HV (K:=[]) M (List.Perm.refl _) ?_;rintro _ _ ⟨o,t,rfl,rfl,Y,G⟩))|refine sb λu B=>?_|refine s2 (λh=>?_) λh=>?_|fail)
   rename_i b3 _;rcases o with _|b1<;>rcases t with _|b2
   all_goals
    repeat' (first|refine sx ?_|refine sb λu B=>?_|refine s2 ?_ ?_|intro)
    exact Iu c s U hU Z hc _ _ Y G b3 u Q j
  .have d2:decide ((s.taint.length:Int)≠c.regs)=true:=by simpa using D
   have e:cD c s=(bI.zero,false):=by unfold cD;rw[if_neg (λh=>D h.2)]
   rw[e]at j
   repeat' (first|refine sy ?_|refine s2 ?_ ?_|intro)
   exact j _ _ (HX (HW _))
 .have d1:decide ((s.regs.length:Int)≠c.regs)=true:=by simpa using E
  have e:cD c s=(bI.zero,false):=by unfold cD;rw[if_neg (λh=>E h.1)]
  rw[e]at j
  repeat' (first|refine sy ?_|refine s2 ?_ ?_|intro)
  exact j _ _ (HX (HW _))
end
end
def us:Tryz.prog.underlying 9=some .string:=by kernel_rfl
def mD:RF:=nv (bQ Tryz.prog Tryz.f154 [(63034,⟨[0,4,5,6,7,8,9],[9],true,[]⟩),(54049,⟨[0,4,5,6,7,8,9,36,47],[63034],false,[]⟩),(45040,⟨[0,4,5,6,7,8,9,36,39],[63034],false,[]⟩),(9,⟨[0,4,5,6,7,8],[],true,[]⟩)] [(5,[9])])
abbrev Dz(Q:R)(a:Kn):Vs->SH->Prop:=Jp mD 18 Q 63034 [a]
abbrev FC(a:AV)(L:SH)(Q:R):Prop:=Pc mD 20 Q 0 [] [a] L
def DA(j:AV)(L:SH)(Q:R)(h:FC j L Q):ac Tryz.prog 154 [j] L Q:=
 fv mD Tryz.func154 h
def pD:RF:=nv (bQ Tryz.prog Tryz.f155 [(42,⟨[1,6,7,8],[24],true,[]⟩),(24,⟨[1,6],[],true,[]⟩),(6,⟨[1,4],[],true,[]⟩)] [(0,[1]),(4,[5]),(10,[7])])
abbrev AF(a:AV)(L:SH)(Q:R):Prop:=Pc pD 20 Q 0 [] [a] L
def yN(j:AV)(L:SH)(Q:R)(h:AF j L Q):ac Tryz.prog 155 [j] L Q:=
 fv pD Tryz.func155 h
def pE:RF:=nv (bQ Tryz.prog Tryz.f123 [(60,⟨[1,10,11],[],true,[]⟩),(39,⟨[1,8,9],[],true,[]⟩)] [(0,[1])])
abbrev AG(a:AV)(L:SH)(Q:R):Prop:=Pc pE 20 Q 0 [] [a] L
def yO(j:AV)(L:SH)(Q:R)(h:AG j L Q):ac Tryz.prog 123 [j] L Q:=
 fv pE Tryz.func123 h
def jT:RF:=nv (bQ Tryz.prog Tryz.f198 [(6,⟨[0,1,2,3,9],[],true,[]⟩)] [(4,[10])])
abbrev sP(a b c d:AV)(L:SH)(Q:R):Prop:=Pc jT 20 Q 0 [] [a,b,c,d] L
def rB(D B u j:AV)(L:SH)(Q:R)(h:sP D B u j L Q):ac Tryz.prog 198 [D,B,u,j] L Q:=
 fv jT Tryz.func198 h
def nO:RF:=nv (bQ Tryz.prog Tryz.f181 [(150145,⟨[3,4,5,6,7],[],true,[]⟩),(145,⟨[3,4,5,6,7],[],true,[]⟩),(144139,⟨[0,3,5,6,14],[],true,[7]⟩),(78073,⟨[0,3,5,6,7,8,9,30,119],[150145],true,[4]⟩),(54049,⟨[0,3,5,6,7,8,9,30,91],[150145],true,[]⟩),(39034,⟨[0,3,5,6,7,8,9,30,67],[150145],true,[]⟩)] [(0,[3]),(1,[5])])
abbrev yP(a b:AV)(L:SH)(Q:R):Prop:=Pc nO 20 Q 0 [] [a,b] L
def xe(u j:AV)(L:SH)(Q:R)(h:yP u j L Q):ac Tryz.prog 181 [u,j] L Q:=
 fv nO Tryz.func181 h
def gH:RF:=nv (bQ Tryz.prog Tryz.f157 [(45040,⟨[0,1,6,8,9],[6],true,[]⟩),(27022,⟨[0,1,6,7,8],[6],true,[]⟩),(6,⟨[0,1,6],[],true,[]⟩)] [(4,[7])])
abbrev xf(Q:R)(a:Kn):Vs->SH->Prop:=Jp gH 17 Q 45040 [a]
abbrev xg(Q:R)(a:Kn):Vs->SH->Prop:=Jp gH 18 Q 27022 [a]
abbrev yQ(a b:AV)(L:SH)(Q:R):Prop:=Pc gH 20 Q 0 [] [a,b] L
def xh(u j:AV)(L:SH)(Q:R)(h:yQ u j L Q):ac Tryz.prog 157 [u,j] L Q:=
 fv gH Tryz.func157 h
section
def ly(k:Nat):List ThrD:=(List.replicate k (⟨0,0,false⟩:ThrD)).set 0 ⟨1,0,false⟩
theorem DH(k:Nat):(ly k).length=k:=by simp[ly]
theorem GI(k:Nat):ly (k+1)=ly k++[if k=0 then(⟨1,0,false⟩:ThrD)else⟨0,0,false⟩]:=by
 cases k with
 |zero=>rfl
 |succ k=>unfold ly;rw[List.replicate_succ' (n:=k+1),List.set_append_left _ _ acQ,if_neg acN]
theorem rC{α:Type}(k:Nat)(x:α):List.replicate (k+1) x=List.replicate k x++[x]:=List.replicate_succ'
section
variable (w:aF) (b2 b3:Nat) (Q:R) (hq:∀v L,Fz L v (.agg (bM w).enc)->Q v L)
def fW:List AV:=[.nils,.acU 0,.nils,.nils]
include hq
theorem Xz(h3:w.threads.length<=100)(Y Z:AV)(K L:SH)(M:Fz K Y (.lst ((List.replicate w.locks.length (⟨-1,[]⟩:LockD)).map LockD.enc)))(N:Fz K Z (.lst ((List.replicate w.futures.length false).map au)))(hL:L.Perm (K++[(b3,⟨4,[[Y,.acU (-1),Z,.nils]]⟩),(b2,⟨4,[fW]⟩)])):
  W.loop (qA Q) [.pptr [w.enc] 0 0,.ptr b2 0 0,.ptr b3 0 0,.acU (0:Nat)] L:=by
 refine aL w.threads.length (λk (o:Option Nat)=>([.pptr [w.enc] 0 0,.ptr b2 0 0,.ptr b3 0 0,.acU k],(b3,⟨4,[[.lst ((List.replicate w.locks.length (⟨-1,[]⟩:LockD)).map LockD.enc),.acU (-1),.lst ((List.replicate w.futures.length false).map au),af o k]]⟩)::(b2,⟨4,[fW]⟩)::ab o 3 ((ly k).map ThrD.enc))) (λk o=>o=none->k=0) none (λ_=>rfl) (ax.box hL (.cons M (.cons (.refl _) (.cons N (.cons .nile .nil))))) ?_;intro k o hk ho;dsimp only;unfold fW;refine vw ?_;have B:((ly k).map ThrD.enc).length=k:=by simp[DH]
 have O:o=none->(ly k).map ThrD.enc=[]:=λe=>by rw[ho e];rfl
 rw[show w.enc=[.lst (w.cells.map aU.enc),.lst (w.locks.map bZ.enc),.lst (w.conds.map cM.enc),.lst (w.futures.map ay),.lst (w.threads.map ay),.lst (w.sites.map cF.enc)]from rfl];rcases LE k w.threads.length with D|D
 .have hd:=aS D;have E:=GI k;clear hq;by_cases S:k=0
  .have d0:decide ((k:Int)=0)=true:=decide_eq_true acN;rw[if_pos S]at E
   repeat' (first|refine sx ?_|refine aM rp rp B O acP acQ acS acS acP (λj u=>?_)|refine sb λj u=>?_|refine s2 ?_ ?_|intro)
   exact⟨k+1,some j,acN,acN,nofun,ax.pickE (R:=[(b3,_),(b2,_),(j,_)]) rp (by rw[av D acN]) (by rw[E];simp[ab,af,ThrD.enc,aR])⟩
  .have d0:decide ((k:Int)=0)=false:=decide_eq_false acN;rw[if_neg S]at E
   repeat' (first|refine sx ?_|refine aM rp rp B O acP acQ acS acS acP (λj u=>?_)|refine sb λj u=>?_|refine s2 ?_ ?_|intro)
   exact⟨k+1,some j,acN,acN,nofun,ax.pickE (R:=[(b3,_),(b2,_),(j,_)]) rp (by rw[av D acN]) (by rw[E];simp[ab,af,ThrD.enc,aR])⟩
 .have hd:=aW D;have G:k=w.threads.length:=by omega
  have fin:∀L,(∀q∈ab o 3 ((ly k).map ThrD.enc),q∈L)->Q (.agg [.lst ((List.replicate w.locks.length (⟨-1,[]⟩:LockD)).map LockD.enc),.acU (-1),.lst ((List.replicate w.futures.length false).map au),af o k]) L:=λL hm=>by
   refine hq _ _ (Fz.aggs (.cons (.refl _) (.cons (.refl _) (.cons (.refl _) (.cons ?_ .nil)))));subst G;cases o with
   |none=>rw[O rfl |> λh=>show(bM w).threads.map ThrD.enc=[]from h];exact .emp
   |some b=>exact Fz.sls (l:=ly w.threads.length) (hm _ (.head _)) rfl acR (by rw[DH])
  clear hq;cases o
  all_goals
   dsimp only[af,ab]at *
   repeat' (first|refine sy ?_|refine s2 ?_ ?_|intro)
   exact fin _ acQ
theorem XA(h2:w.futures.length<=100)(h3:w.threads.length<=100)(N:AV)(K L:SH)(G:Fz K N (.lst ((List.replicate w.locks.length (⟨-1,[]⟩:LockD)).map LockD.enc)))(hL:L.Perm (K++[(b3,⟨4,[[N,.acU (-1),.nils,.nils]]⟩),(b2,⟨4,[fW]⟩)])):
  W.loop (qB Q) [.pptr [w.enc] 0 0,.ptr b2 0 0,.ptr b3 0 0,.acU (0:Nat)] L:=by
 refine aL w.futures.length (λk (o:Option Nat)=>([.pptr [w.enc] 0 0,.ptr b2 0 0,.ptr b3 0 0,.acU k],(b3,⟨4,[[.lst ((List.replicate w.locks.length (⟨-1,[]⟩:LockD)).map LockD.enc),.acU (-1),af o k,.nils]]⟩)::(b2,⟨4,[fW]⟩)::ab o 1 ((List.replicate k false).map au))) (λk o=>o=none->k=0) none (λ_=>rfl) (ax.box hL (.cons G (.cons (.refl _) (.cons .nile (.cons (.refl _) .nil))))) ?_;intro k o hk Y;dsimp only;refine vw ?_;have B:((List.replicate k false).map au).length=k:=by simp
 have M:o=none->(List.replicate k false).map au=[]:=λe=>by rw[Y e];rfl
 rcases LE k w.futures.length with D|D
 .have Z:=aS D;have S:=rC k false;clear hq;unfold fW;rw[show w.enc=[.lst (w.cells.map aU.enc),.lst (w.locks.map bZ.enc),.lst (w.conds.map cM.enc),.lst (w.futures.map ay),.lst (w.threads.map ay),.lst (w.sites.map cF.enc)]from rfl]
  repeat' (first|refine sx ?_|refine aM rp rp B M acP acQ acS acS acP (λj u=>?_)|refine sb λj u=>?_|refine s2 ?_ ?_|intro)
  exact⟨k+1,some j,acN,acN,nofun,ax.pickE (R:=[(b3,_),(b2,_),(j,_)]) rp (by rw[av D acN]) (by rw[S];simp[ab,af,au,aR])⟩
 .have Z:=aW D;have E:k=w.futures.length:=by omega
  subst E;have O:=Xz w b2 b3 Q hq h3 (.lst ((List.replicate w.locks.length (⟨-1,[]⟩:LockD)).map LockD.enc)) (af o w.futures.length) (ab o 1 ((List.replicate w.futures.length false).map au)) _ (.refl _) (by
   cases o with
   |none=>rw[M rfl];exact .emp
   |some b=>exact Fz.sls (l:=List.replicate w.futures.length false) (.head _) rfl acR acQ) (aar (l₁:=[(b3,(⟨4,[[.lst ((List.replicate w.locks.length (⟨-1,[]⟩:LockD)).map LockD.enc),.int .i64 (-1),af o w.futures.length,.nils]]⟩:Blk)),(b2,⟨4,[fW]⟩)]))
  clear hq
  repeat' (first|exact O|refine sy ?_|refine s2 ?_ ?_|intro)
theorem XB(h1:w.locks.length<=100)(h2:w.futures.length<=100)(h3:w.threads.length<=100)(L:SH)(hL:L.Perm [(b3,⟨4,[[.nils,.acU (-1),.nils,.nils]]⟩),(b2,⟨4,[fW]⟩)]):
  W.loop (qC Q) [.pptr [w.enc] 0 0,.ptr b2 0 0,.ptr b3 0 0,.acU (0:Nat)] L:=by
 refine aL w.locks.length (λk (o:Option Nat)=>([.pptr [w.enc] 0 0,.ptr b2 0 0,.ptr b3 0 0,.acU k],(b3,⟨4,[[af o k,.acU (-1),.nils,.nils]]⟩)::(b2,⟨4,[fW]⟩)::ab o 2 ((List.replicate k (⟨-1,[]⟩:LockD)).map LockD.enc))) (λk o=>o=none->k=0) none (λ_=>rfl) (ax.box (K:=[]) hL (.cons .nile (.cons (.refl _) (.cons (.refl _) (.cons (.refl _) .nil))))) ?_;intro k o hk Z;dsimp only;refine vw ?_;have u:((List.replicate k (⟨-1,[]⟩:LockD)).map LockD.enc).length=k:=by simp
 have S:o=none->(List.replicate k (⟨-1,[]⟩:LockD)).map LockD.enc=[]:=λe=>by rw[Z e];rfl
 rcases LE k w.locks.length with M|M
 .have hd:=aS M;clear hq;unfold fW;rw[show w.enc=[.lst (w.cells.map aU.enc),.lst (w.locks.map bZ.enc),.lst (w.conds.map cM.enc),.lst (w.futures.map ay),.lst (w.threads.map ay),.lst (w.sites.map cF.enc)]from rfl]
  repeat' (first|refine sx ?_|refine aM rp rp u S acP acQ acS acS acP (λD G=>?_)|refine sb λD G=>?_|refine s2 ?_ ?_|intro)
  refine⟨k+1,some D,acN,acN,nofun,?_⟩;refine ax.rowA (A:=[(b3,_),(b2,_)]) (b:=D) (R:=[]) (rows':=(List.replicate (k+1) (⟨-1,[]⟩:LockD)).map LockD.enc) rp ?_ ?_ (by rw[av M acN]<;>rfl)
  .simp
  .intro j r r' E B;rw[rC,ST]at B;rcases LE j k with O|O
   .rw[aaW (by rw[u];exact O)]at E B;rw[E]at B;cases B;exact fy.refl _ _
   .rw[aaL (by rw[u];exact O),u]at E B;generalize j-k=m at E B
    match m with
    |0=>cases E;cases B;exact .cons (.refl _) (.cons .nils .nil)
    |m+1=>simp at E
 .have hd:=aW M;have N:k=w.locks.length:=by omega
  subst N;have Y:=XA w b2 b3 Q hq h2 h3 (af o w.locks.length) (ab o 2 ((List.replicate w.locks.length (⟨-1,[]⟩:LockD)).map LockD.enc)) _ (by
   cases o with
   |none=>rw[S rfl];exact .emp
   |some b=>exact Fz.sls (l:=List.replicate w.locks.length (⟨-1,[]⟩:LockD)) (.head _) rfl acR acQ) (aar (l₁:=[(b3,(⟨4,[[af o w.locks.length,.int .i64 (-1),.nils,.nils]]⟩:Blk)),(b2,⟨4,[fW]⟩)]))
  clear hq
  repeat' (first|exact Y|refine sy ?_|refine s2 ?_ ?_|intro)
end
theorem GJ(w:aF)(D:w.locks.length<=100)(h2:w.futures.length<=100)(B:w.threads.length<=100):aq Tryz.prog 100 [.agg w.enc] (.agg (bM w).enc):=by
 refine OY λQ hq=>qD _ _ _ ?_
 refine vw ?_;have j:=λb2 b3 L u=>XB w b2 b3 Q hq D h2 B L u
 clear hq;unfold fW at j
 repeat' (first|refine sy ?_|intro)
 exact j _ _ _ (.refl _)
end
def dO(w:aF):w.enc=[.lst (w.cells.map aU.enc),.lst (w.locks.map bZ.enc),.lst (w.conds.map cM.enc),.lst (w.futures.map ay),.lst (w.threads.map ay),.lst (w.sites.map cF.enc)]:=rfl
def IB(s:SyncD)(x f k:AV):List AV:=[.lst (s.locks.map LockD.enc),.acU s.tx,.lst (s.done.map au),.lst (s.threads.map ThrD.enc),x,f,k]
def dB:List AV:=[.nils,.acU 0,.nils,.nils,.nils,.nils,.nils]
def zs(n:Nat):AV:=.lst ((List.replicate n (0:Int)).map aa)
def UU(w:aF)(b2 M:Nat)(Q:R)(Y:∀v L,Fz L v (.agg (bG w).enc)->Q v L)(h4:w.cells.length<2^40)(gf gn:AV)(K L:SH)(B:Fz K gf (zs w.futures.length))(u:Fz K gn (zs w.threads.length))(Z:L.Perm (K++[(M,⟨7,[IB (bM w) .nils gf gn]⟩),(b2,⟨7,[dB]⟩)])):
  W.loop (rk Q) [.pptr [w.enc] 0 0,.ptr b2 0 0,.ptr M 0 0,.acU (0:Nat)] L:=by
 refine aL w.cells.length (λk (o:Option Nat)=>([.pptr [w.enc] 0 0,.ptr b2 0 0,.ptr M 0 0,.acU k],(M,⟨7,[IB (bM w) (af o k) (zs w.futures.length) (zs w.threads.length)]⟩)::(b2,⟨7,[dB]⟩)::ab o 1 (((w.cells.take k).map aU.init).map aa))) (λk o=>o=none->k=0) none (λ_=>rfl) (ax.box Z (by unfold IB;exact .cons (.refl _) (.cons (.refl _) (.cons (.refl _) (.cons (.refl _) (.cons .nile (.cons B (.cons u .nil)))))))) ?_;intro k o hk ho;dsimp only;refine vw ?_;have G:(((w.cells.take k).map aU.init).map aa).length=k:=by simp;omega
 have h0:o=none->((w.cells.take k).map aU.init).map aa=[]:=λe=>by rw[ho e];rfl
 rcases LE k w.cells.length with D|D
 .have hd:=aS D;have O:=aj (f:=aU.enc) D;have S:w.cells.take (k+1)=w.cells.take k++[w.cells[k]]:=Fn D;generalize hT:w.cells[k]=ck at *;rw[show ck.enc=[.str ck.name,.acU ck.index,.acU ck.size,.bool ck.vol,.acU ck.init]from rfl]at O;clear Y Z B u;unfold zs;generalize(List.replicate w.futures.length (0:Int)).map aa=fx at *;generalize(List.replicate w.threads.length (0:Int)).map aa=wk at *;generalize bM w=sy_ at *;unfold IB dB;rw[dO]at *
  repeat' (first|refine sx ?_|refine aM rp rp G h0 acP acQ acS acS acP (λj E=>?_)|refine sb λj E=>?_|refine s2 ?_ ?_|intro)
  exact⟨k+1,some j,acN,acN,nofun,ax.pickE (R:=[(M,_),(b2,_),(j,_)]) rp (by rw[av D acN]) (by rw[S];simp[ab,af,aa,aR])⟩
 .have hd:=aW D;obtain rfl:k=w.cells.length:=by omega
  rw[aaT (Fd _)]at *;have N:∀L,(∀q∈ab o 1 ((w.cells.map aU.init).map aa),q∈L)->Q (.agg (IB (bM w) (af o w.cells.length) (zs w.futures.length) (zs w.threads.length))) L:=λL hm=>by
   refine Y _ _ (Fz.aggs (m:=(bG w).enc) ?_);rw[dL];unfold IB;refine .cons (.refl _) (.cons (.refl _) (.cons (.refl _) (.cons (.refl _) (.cons ?_ (.cons (.refl _) (.cons (.refl _) .nil))))));cases o with
   |none=>show Fz L .emp (.lst ((w.cells.map aU.init).map aa));rw[h0 rfl];exact .emp
   |some b=>exact Fz.sls (l:=w.cells.map aU.init) (hm _ (.head _)) rfl acR acQ
  clear Y Z B u;unfold zs at N;unfold zs;generalize(List.replicate w.futures.length (0:Int)).map aa=fx at *;generalize(List.replicate w.threads.length (0:Int)).map aa=wk at *;generalize bM w=sy_ at *;unfold IB at N;unfold IB dB;rw[dO]at *;cases o
  all_goals
   dsimp only[af,ab]at *
   repeat' (first|refine sy ?_|refine s2 ?_ ?_|intro)
   exact N _ acQ
def o7(w:aF)(h1:w.locks.length<=100)(h2:w.futures.length<=100)(Z:w.threads.length<=100)(h4:w.cells.length<2^40):aq Tryz.prog 63 [.agg w.enc] (.agg (bG w).enc):=by
 have u:=GJ w h1 h2 Z;refine OY λQ G=>rn _ _ _ ?_
 refine vw ?_;have E:=λO j gf gn K L D B Y=>UU w O j Q G h4 gf gn K L D B Y
 clear G;rw[show(bM w).enc=[.lst ((bM w).locks.map LockD.enc),.acU (bM w).tx,.lst ((bM w).done.map au),.lst ((bM w).threads.map ThrD.enc)]from rfl]at u;unfold IB dB at E;generalize bM w=sy_ at *;rw[dO]at *
 repeat' (first|refine sx ?_|refine sb λS M=>?_|refine s2 (λh=>?_) λh=>?_|fail)
 rename_i O _ bf _ N _ j _;refine E _ _ (.sl N 0 w.futures.length) (.sl j 0 w.threads.length) [(j,⟨1,List.replicate w.threads.length [.acU 0]⟩),(N,⟨1,List.replicate w.futures.length [.acU 0]⟩)] _ ?_ ?_ ?_
 .exact Fz.sls (l:=List.replicate w.futures.length (0:Int)) (.tail _ (.head _)) (by simp[aa]) acR acQ
 .exact Fz.sls (l:=List.replicate w.threads.length (0:Int)) (.head _) (by simp[aa]) acR acQ
 .exact aar (l₁:=[_]) |>.trans (by simp;exact List.Perm.swap _ _ _)
section
theorem St{P:Program}{L:SH}{j:AV->SH->List Nat->Prop}{us:List W.WR}{i:Nat}{g:FuncId}{args:List AV}{R1:AV->SH->Prop}(h:ac P g args [] R1)(u:∀v K,R1 v K->j v (K++L) [])(B:∀x∈us,W.free x ⟨i,[],[],[],true,[]⟩:=by(simp only[rm,rc,rz,W.free,co,↓reduceIte,Nat.reduceEqDiff,ai,dV,aco,abz,abA,not_false_eq_true,implies_true,and_true,true_and,and_self,abj,reduceCtorEq,forall_const,false_implies,aag,forall_eq,aby,abK,aaj,or_false,false_or,forall_eq_or_imp,not_or])<;>(repeat' constructor)<;>first|assumption|(exact Ne.symm acO)|(intro D;subst D;simp[SH.names]at *;done)):W.dcallM P us i g args L j:=⟨[],L,.refl _,B,h.mono u⟩
def o8:List AV:=[.acU (-1),.nils]
section
variable (w:aF) (b2 b3:Nat) (Q:R)
theorem XD(h3:w.threads.length<=100)(p3:0<w.threads.length)(D E Y Z:Nat)(O S:List (List AV))
  (N:∀bt L,cO L [(bt,⟨3,(ly w.threads.length).map ThrD.enc⟩),(E,⟨1,S⟩),(D,⟨2,O⟩)]->Q (.agg [.sl D 0 Y,.acU (-1),.sl E 0 Z,.sl bt 0 w.threads.length]) L)
  (L:SH) (hL:cO L [(b3,⟨4,[[.sl D 0 Y,.acU (-1),.sl E 0 Z,.nils]]⟩),(b2,⟨4,[fW]⟩),(E,⟨1,S⟩),(D,⟨2,O⟩)]):W.loop (qA Q) [.pptr [w.enc] 0 0,.ptr b2 0 0,.ptr b3 0 0,.acU (0:Nat)] L:=by
 obtain⟨K0,hP⟩:=hL.perm;refine aL w.threads.length (λk (o:Option Nat)=>([.pptr [w.enc] 0 0,.ptr b2 0 0,.ptr b3 0 0,.acU k],(b3,⟨4,[[.sl D 0 Y,.acU (-1),.sl E 0 Z,af o k]]⟩)::(b2,⟨4,[fW]⟩)::(E,⟨1,S⟩)::(D,⟨2,O⟩)::ab o 3 ((ly k).map ThrD.enc))) (λk o=>o=none->k=0) none (λ_=>rfl) (ax.box hP (.cons (.refl _) (.cons (.refl _) (.cons (.refl _) (.cons .nile .nil))))) ?_;intro k o hk ho;dsimp only;unfold fW;refine vw ?_;have B:((ly k).map ThrD.enc).length=k:=by simp[DH]
 have h0:o=none->(ly k).map ThrD.enc=[]:=λe=>by rw[ho e];rfl
 rw[dO];rcases LE k w.threads.length with G|G
 .have hd:=aS G;have M:=GI k;clear N;by_cases k0:k=0
  .have d0:decide ((k:Int)=0)=true:=decide_eq_true acN;rw[if_pos k0]at M
   repeat' (first|refine sx ?_|refine aM rp rp B h0 acP acQ acS acS acP (λj u=>?_)|refine sb λj u=>?_|refine s2 ?_ ?_|intro)
   exact⟨k+1,some j,acN,acN,nofun,ax.pickE (R:=[(b3,_),(b2,_),(E,_),(D,_),(j,_)]) rp (by rw[av G acN]) (by rw[M];simp[ab,af,ThrD.enc,aR])⟩
  .have d0:decide ((k:Int)=0)=false:=decide_eq_false acN;rw[if_neg k0]at M
   repeat' (first|refine sx ?_|refine aM rp rp B h0 acP acQ acS acS acP (λj u=>?_)|refine sb λj u=>?_|refine s2 ?_ ?_|intro)
   exact⟨k+1,some j,acN,acN,nofun,ax.pickE (R:=[(b3,_),(b2,_),(E,_),(D,_),(j,_)]) rp (by rw[av G acN]) (by rw[M];simp[ab,af,ThrD.enc,aR])⟩
 .have hd:=aW G;obtain rfl:k=w.threads.length:=by omega
  cases o with
  |none=>exact absurd (ho rfl) acN
  |some bt=>
   have N:=N bt;dsimp only[af,ab]at *
   repeat' (first|refine sy ?_|refine s2 ?_ ?_|intro)
   (refine N _ ?_;exact rp)
theorem XE(h2:w.futures.length<=100)(p2:0<w.futures.length)(h3:w.threads.length<=100)(Y:0<w.threads.length)(j M:Nat)(G:List (List AV))
  (O:∀E bt L,cO L [(bt,⟨3,(ly w.threads.length).map ThrD.enc⟩),(E,⟨1,(List.replicate w.futures.length false).map au⟩),(j,⟨2,G⟩)]->Q (.agg [.sl j 0 M,.acU (-1),.sl E 0 w.futures.length,.sl bt 0 w.threads.length]) L)
  (L:SH) (hL:cO L [(b3,⟨4,[[.sl j 0 M,.acU (-1),.nils,.nils]]⟩),(b2,⟨4,[fW]⟩),(j,⟨2,G⟩)]):W.loop (qB Q) [.pptr [w.enc] 0 0,.ptr b2 0 0,.ptr b3 0 0,.acU (0:Nat)] L:=by
 obtain⟨K0,hP⟩:=hL.perm;refine aL w.futures.length (λk (o:Option Nat)=>([.pptr [w.enc] 0 0,.ptr b2 0 0,.ptr b3 0 0,.acU k],(b3,⟨4,[[.sl j 0 M,.acU (-1),af o k,.nils]]⟩)::(b2,⟨4,[fW]⟩)::(j,⟨2,G⟩)::ab o 1 ((List.replicate k false).map au))) (λk o=>o=none->k=0) none (λ_=>rfl) (ax.box hP (.cons (.refl _) (.cons (.refl _) (.cons .nile (.cons (.refl _) .nil))))) ?_;intro k o hk S;dsimp only;refine vw ?_;have D:((List.replicate k false).map au).length=k:=by simp
 have h0:o=none->(List.replicate k false).map au=[]:=λe=>by rw[S e];rfl
 rcases LE k w.futures.length with N|N
 .have hd:=aS N;have hs:=rC k false;clear O;unfold fW;rw[dO]
  repeat' (first|refine sx ?_|refine aM rp rp D h0 acP acQ acS acS acP (λu B=>?_)|refine sb λu B=>?_|refine s2 ?_ ?_|intro)
  exact⟨k+1,some u,acN,acN,nofun,ax.pickE (R:=[(b3,_),(b2,_),(j,_),(u,_)]) rp (by rw[av N acN]) (by rw[hs];simp[ab,af,au,aR])⟩
 .have hd:=aW N;obtain rfl:k=w.futures.length:=by omega
  cases o with
  |none=>exact absurd (S rfl) acN
  |some E=>
   have Z:=XD w b2 b3 Q h3 Y j E M w.futures.length G ((List.replicate w.futures.length false).map au) (O E);clear O;unfold fW at *;dsimp only[af,ab]at *;rw[dO]at *
   repeat' (first|(refine Z _ ?_;exact rp)|refine sy ?_|refine s2 ?_ ?_|intro)
theorem XF(h1:w.locks.length<=100)(p1:0<w.locks.length)(h2:w.futures.length<=100)(S:0<w.futures.length)(h3:w.threads.length<=100)(O:0<w.threads.length)
  (G:∀D N bt L,cO L [(bt,⟨3,(ly w.threads.length).map ThrD.enc⟩),(N,⟨1,(List.replicate w.futures.length false).map au⟩),(D,⟨2,List.replicate w.locks.length o8⟩)]->Q (.agg [.sl D 0 w.locks.length,.acU (-1),.sl N 0 w.futures.length,.sl bt 0 w.threads.length]) L)
  (L:SH) (hL:cO L [(b3,⟨4,[[.nils,.acU (-1),.nils,.nils]]⟩),(b2,⟨4,[fW]⟩)]):W.loop (qC Q) [.pptr [w.enc] 0 0,.ptr b2 0 0,.ptr b3 0 0,.acU (0:Nat)] L:=by
 obtain⟨K0,hP⟩:=hL.perm;refine aL w.locks.length (λk (o:Option Nat)=>([.pptr [w.enc] 0 0,.ptr b2 0 0,.ptr b3 0 0,.acU k],(b3,⟨4,[[af o k,.acU (-1),.nils,.nils]]⟩)::(b2,⟨4,[fW]⟩)::ab o 2 (List.replicate k o8))) (λk o=>o=none->k=0) none (λ_=>rfl) (ax.box hP (.cons .nile (.cons (.refl _) (.cons (.refl _) (.cons (.refl _) .nil))))) ?_;intro k o hk M;dsimp only;refine vw ?_;have B:(List.replicate k o8).length=k:=by simp
 have h0:o=none->List.replicate k o8=[]:=λe=>by rw[M e];rfl
 rcases LE k w.locks.length with E|E
 .have hd:=aS E;have Z:=rC k o8;clear G;unfold fW;rw[dO]
  repeat' (first|refine sx ?_|refine aM rp rp B h0 acP acQ acS acS acP (λj u=>?_)|refine sb λj u=>?_|refine s2 ?_ ?_|intro)
  exact⟨k+1,some j,acN,acN,nofun,ax.pickE (R:=[(b3,_),(b2,_),(j,_)]) rp (by rw[av E acN]) (by rw[Z];simp[ab,af,o8,aR])⟩
 .have hd:=aW E;obtain rfl:k=w.locks.length:=by omega
  cases o with
  |none=>exact absurd (M rfl) acN
  |some D=>
   have Y:=XE w b2 b3 Q h2 S h3 O D w.locks.length (List.replicate w.locks.length o8) (G D);clear G;unfold fW at *;dsimp only[af,ab]at *;rw[dO]at *
   repeat' (first|(refine Y _ ?_;exact rp)|refine sy ?_|refine s2 ?_ ?_|intro)
end
theorem MS(w:aF)(Z:w.locks.length<=100)(O:0<w.locks.length)(h2:w.futures.length<=100)(N:0<w.futures.length)(Y:w.threads.length<=100)(M:0<w.threads.length):ac Tryz.prog 100 [.agg w.enc] [] λv L=>∃j u bt:Nat,v=.agg [.sl j 0 w.locks.length,.acU (-1),.sl u 0 w.futures.length,.sl bt 0 w.threads.length]/\
  L=[(bt,⟨3,(ly w.threads.length).map ThrD.enc⟩),(u,⟨1,(List.replicate w.futures.length false).map au⟩),(j,⟨2,List.replicate w.locks.length o8⟩)]:=by
 refine ac.fz (qD _ _ _ ?_);refine vw ?_;generalize E:(λ(v:AV) (L:SH)=>∃B G,ax [v] L [B] G/\∃j u bt:Nat,B=AV.agg [.sl j 0 w.locks.length,.acU (-1),.sl u 0 w.futures.length,.sl bt 0 w.threads.length]/\G=[(bt,(⟨3,(ly w.threads.length).map ThrD.enc⟩:Blk)),(u,⟨1,(List.replicate w.futures.length false).map au⟩),(j,⟨2,List.replicate w.locks.length o8⟩)])=Q;have D:=λb2 b3=>XF w b2 b3 Q Z O h2 N Y M (λj u bt L S=>by subst E;exact⟨_,_,ax.pickE S rfl rfl,j,u,bt,rfl,rfl⟩)
 clear E;unfold fW at D
 repeat' (first|refine sy ?_|intro)
 (refine D _ _ _ ?_;exact rp)
theorem UV(w:aF)(b2 b3:Nat)(Q:R)(h4:w.cells.length<2^40)(p4:0<w.cells.length)(B E bt D u:Nat)(B1 B2 B3 B4 B5:Blk)(nl nd Y nf Z:Nat)
  (O:∀S L,cO L [(S,⟨1,(w.cells.map aU.init).map aa⟩),(bt,B1),(E,B2),(B,B3),(D,B4),(u,B5)]->Q (.agg [.sl B 0 nl,.acU (-1),.sl E 0 nd,.sl bt 0 Y,.sl S 0 w.cells.length,.sl D 0 nf,.sl u 0 Z]) L)
  (L:SH) (hL:cO L [(b3,⟨7,[[.sl B 0 nl,.acU (-1),.sl E 0 nd,.sl bt 0 Y,.nils,.sl D 0 nf,.sl u 0 Z]]⟩),(b2,⟨7,[dB]⟩),(bt,B1),(E,B2),(B,B3),(D,B4),(u,B5)]):W.loop (rk Q) [.pptr [w.enc] 0 0,.ptr b2 0 0,.ptr b3 0 0,.acU (0:Nat)] L:=by
 obtain⟨K0,hP⟩:=hL.perm;refine aL w.cells.length (λk (o:Option Nat)=>([.pptr [w.enc] 0 0,.ptr b2 0 0,.ptr b3 0 0,.acU k],(b3,⟨7,[[.sl B 0 nl,.acU (-1),.sl E 0 nd,.sl bt 0 Y,af o k,.sl D 0 nf,.sl u 0 Z]]⟩)::(b2,⟨7,[dB]⟩)::(bt,B1)::(E,B2)::(B,B3)::(D,B4)::(u,B5)::ab o 1 (((w.cells.take k).map aU.init).map aa))) (λk o=>o=none->k=0) none (λ_=>rfl) (ax.box hP (.cons (.refl _) (.cons (.refl _) (.cons (.refl _) (.cons (.refl _) (.cons .nile (.cons (.refl _) (.cons (.refl _) .nil)))))))) ?_;intro k o hk ho;dsimp only;refine vw ?_;have N:(((w.cells.take k).map aU.init).map aa).length=k:=by simp;omega
 have h0:o=none->((w.cells.take k).map aU.init).map aa=[]:=λe=>by rw[ho e];rfl
 rcases LE k w.cells.length with G|G
 .have hd:=aS G;have hxx:=aj (f:=aU.enc) G;have htk:w.cells.take (k+1)=w.cells.take k++[w.cells[k]]:=Fn G;generalize hT:w.cells[k]=ck at *;rw[show ck.enc=[.str ck.name,.acU ck.index,.acU ck.size,.bool ck.vol,.acU ck.init]from rfl]at hxx;clear O hL hP;unfold dB;rw[dO]at *
  repeat' (first|refine sx ?_|refine aM rp rp N h0 acP acQ acS acS acP (λj M=>?_)|refine sb λj M=>?_|refine s2 ?_ ?_|intro)
  exact⟨k+1,some j,acN,acN,nofun,ax.pickE (R:=[(b3,_),(b2,_),(bt,_),(E,_),(B,_),(D,_),(u,_),(j,_)]) rp (by rw[av G acN]) (by rw[htk];simp[ab,af,aa,aR])⟩
 .have hd:=aW G;obtain rfl:k=w.cells.length:=by omega
  rw[aaT (Fd _)]at *;cases o with
  |none=>exact absurd (ho rfl) acN
  |some S=>
   have O:=O S;clear hL hP;unfold dB;rw[dO]at *;dsimp only[af,ab]at *
   repeat' (first|refine sy ?_|refine s2 ?_ ?_|intro)
   (refine O _ ?_;exact rp)
theorem K5(w:aF)(h1:w.locks.length<=100)(p1:0<w.locks.length)(h2:w.futures.length<=100)(p2:0<w.futures.length)(h3:w.threads.length<=100)(p3:0<w.threads.length)(h4:w.cells.length<2^40)(p4:0<w.cells.length):ac Tryz.prog 63 [.agg w.enc] [] λv L=>∃u D bt E B j:Nat,v=.agg [.sl u 0 w.locks.length,.acU (-1),.sl D 0 w.futures.length,.sl bt 0 w.threads.length,.sl E 0 w.cells.length,.sl B 0 w.futures.length,.sl j 0 w.threads.length]/\
  L=[(E,⟨1,(w.cells.map aU.init).map aa⟩),(bt,⟨3,(ly w.threads.length).map ThrD.enc⟩),(D,⟨1,(List.replicate w.futures.length false).map au⟩),(u,⟨2,List.replicate w.locks.length o8⟩),(B,⟨1,List.replicate w.futures.length [.acU 0]⟩),(j,⟨1,List.replicate w.threads.length [.acU 0]⟩)]:=by
 have G:=MS w h1 p1 h2 p2 h3 p3;refine ac.fz (rn _ _ _ ?_);refine vw ?_;generalize hQ:(λ(v:AV) (L:SH)=>∃Y L2,ax [v] L [Y] L2/\∃u D bt E B j:Nat,Y=AV.agg [.sl u 0 w.locks.length,.acU (-1),.sl D 0 w.futures.length,.sl bt 0 w.threads.length,.sl E 0 w.cells.length,.sl B 0 w.futures.length,.sl j 0 w.threads.length]/\L2=[(E,(⟨1,(w.cells.map aU.init).map aa⟩:Blk)),(bt,⟨3,(ly w.threads.length).map ThrD.enc⟩),(D,⟨1,(List.replicate w.futures.length false).map au⟩),(u,⟨2,List.replicate w.locks.length o8⟩),(B,⟨1,List.replicate w.futures.length [.acU 0]⟩),(j,⟨1,List.replicate w.threads.length [.acU 0]⟩)])=Q;have Z:=λb2 b3 u D bt B j=>UV w b2 b3 Q h4 p4 u D bt B j _ _ _ _ _ w.locks.length w.futures.length w.threads.length w.futures.length w.threads.length (λE L hL=>by subst hQ;exact⟨_,_,ax.pickE hL rfl rfl,u,D,bt,E,B,j,rfl,rfl⟩)
 clear hQ;unfold dB at Z;rw[dO]at *
 repeat' (first|refine sy ?_|((with_reducible refine aN 100 ?_);(refine fm G (λv_ K_ M=>?_);obtain⟨O,S,N,rfl,rfl⟩:=M;simp only[abX,abK]))|(with_reducible refine cy 100 ?_;refine St G (λv_ K_ M=>?_);obtain⟨O,S,N,rfl,rfl⟩:=M;simp only[abX,abK])|refine s2 ?_ ?_|intro)
 exact Z _ _ _ _ _ _ _ _ acT
end
