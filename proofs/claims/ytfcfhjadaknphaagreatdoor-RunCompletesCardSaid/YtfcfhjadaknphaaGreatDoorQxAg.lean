/- part -/
import Derived.Test.YtfcfhjadaknphaaGreatDoorQxAd
set_option linter.all false
set_option maxRecDepth 100000
set_option maxHeartbeats 0
namespace Go.Proofs.YtfcfhjadaknphaaGreatDoor.Am
section
theorem N8(s:aG)(o t:Option Nat)(ho:o=none->s.regs=[])(ht:t=none->s.taint=[])(u:s.taint.length=s.regs.length)(B:s.regs.length<2^40)(D:∀l∈s.taint,l.length<=2^30)(i:az)(S:1<=i.op)(O:i.op<=5):
  ac Tryz.prog 173 [.agg i.enc,.agg (dL s o t)] (ab o 1 (s.regs.map ah)++ab t 1 (s.taint.map bP)) (qq (aZ i s) o t):=by
 obtain⟨op,M,G,E,n,j⟩:=i;dsimp only at S O;obtain rfl|rfl|rfl|rfl|rfl:op=1\/op=2\/op=3\/op=4\/op=5:=by omega
 .exact SX s o t ho ht u B D M G E n j
 .exact SY s o t ho ht u B D M G E n j
 .exact SZ s o t ho ht u B D M G E n j
 .exact S0 s o t ho ht u B D M G E n j
 .exact SW s o t ho ht u B D M G E n j
section
variable (c:eG) (s:aG) (U:List Int) (hU:U.length<=2^30) (hT:ji U s) (hc:c.ins.length<2^40) (o t:Option Nat) (ho:o=none->s.regs=[]) (ht:t=none->s.taint=[])
include hU hT hc ho ht
theorem Fw(G E:Nat)(Q:AV->SH->Prop)(hq:∀v L,Fz L v (nR (eV c.ins c.ins.length s))->Q v L):
  W.loop (zb Q) [.pptr [c.enc] 0 0,.ptr G 0 0,.ptr E 0 0,.YJ (0:Nat)] ((E,⟨4,[lu]⟩)::ko s G o t):=by
 refine bF c.ins.length (λk (e:aG)=>([.pptr [c.enc] 0 0,.ptr G 0 0,.ptr E 0 0,.YJ k],(E,⟨4,[lu]⟩)::ko e G o t)) (λk e=>ji U e/\(e.regs.length=s.regs.length/\e.taint.length=s.taint.length)/\eV c.ins (c.ins.length-k) e=eV c.ins c.ins.length s) s ⟨hT,⟨rfl,rfl⟩,rfl⟩ (.refl _ _) ?_;intro k e hk ⟨he,⟨hl1,hl2⟩,hrun⟩;rw[<-hrun]at hq;have ho':o=none->e.regs=[]:=λx=>XA.1 (by rw[hl1,ho x];rfl)
 have Y:t=none->e.taint=[]:=λx=>XA.1 (by rw[hl2,ht x];rfl)
 dsimp only;refine vw ?_;have hd0:decide ((k:Int)<=(c.ins.length:Int))=true:=by simp;omega
 have j:eV c.ins (c.ins.length-k) e=(aG.zero,false)->∀L,Q (.tup [.agg lu,.bool false]) L:=λh L=>hq _ _ (by rw[h];exact pQ (qN _))
 by_cases p1:e.pc<0
 .have hd1:decide (e.pc<0)=true:=by simpa using p1
  have M:=j (zA (by simp[inB];omega));unfold ko dL
  repeat' (first|refine sy ?_|refine s2 ?_ ?_|intro)
  exact M _
 .have hd1:decide (e.pc<0)=false:=by simpa using p1
  by_cases p2:(c.ins.length:Int)<=e.pc
  .have hd2:decide ((c.ins.length:Int)<=e.pc)=true:=by simpa using p2
   have M:=j (zA (by simp[inB];omega));unfold ko dL
   repeat' (first|refine sy ?_|refine s2 ?_ ?_|intro)
   exact M _
  .have hd2:decide ((c.ins.length:Int)<=e.pc)=false:=by simpa using p2
   have D:inB e.pc c.ins.length=true:=by simp[inB];omega
   have hx:=co (f:=az.enc) D;generalize S:c.ins.getD e.pc.toNat default=i at hx;have Z:=LJ i.op;by_cases p3:i.op<1\/5<i.op
   .have hr:=G0 (k:=c.ins.length-k) D (by rw[S];exact p3);rw[hr]at hq;have fin:∀x,Q (.tup [.agg (dL e o t),.bool true]) ((E,x)::ko e G o t):=λx=>hq _ _ (pQ (Kq ho' Y λp hp=>by unfold ko;exact .tail _ (.tail _ hp)))
    unfold ko dL at fin ⊢;rw[show Jh i.op=false by simp[Jh];omega]at Z;rcases o with _|b1<;>rcases t with _|b2
    all_goals
     dsimp only[aQ,ab,List.cons_append,List.nil_append]at fin ⊢
     repeat' (first|refine sy ?_|refine s2 ?_ ?_|intro)
     exact fin _
   .rw[show Jh i.op=true by simp[Jh];omega]at Z;by_cases p5:k=c.ins.length
    .have q3:decide ((k:Int)=(c.ins.length:Int))=true:=by simp[p5]
     have M:=j (by rw[p5,X9];exact G2 D (by rw[S];exact p3));unfold ko dL
     repeat' (first|refine sy ?_|refine s2 ?_ ?_|intro)
     exact M _
    .have q3:decide ((k:Int)=(c.ins.length:Int))=false:=by simp;omega
     have B:=N8 e o t ho' Y he.len he.small he.short i YC YC;obtain⟨m,hm⟩:∃m,c.ins.length-k=m+1:=⟨c.ins.length-k-1,YC⟩;cases u:aZ i e with
     |none=>
      have M:=j (G1 D (by rw[S];exact p3) (by rw[S];exact u));rw[u]at B;change ac _ _ _ _ (λv L=>v=.tup [.agg lu,.bool false]\/∃s3:aG,v=.tup [.agg (dL s3 o t),.bool false])at B;unfold ko;rcases o with _|b1<;>rcases t with _|b2
      all_goals
       repeat' (first|refine sy ?_|((with_reducible refine aU 173 ?_);(refine qM (R:=[(E,_),(G,_)]) B (W1 (l₁:=[(E,_),(G,_)])) ?_;rintro _ K' (rfl|⟨s3,rfl⟩)))|refine s2 ?_ ?_|intro)
       all_goals exact M _
     |some s2=>
      rw[u]at B;change ac _ _ _ _ (λv L=>v=.tup [.agg (dL s2 o t),.bool true]/\L=ab o 1 (s2.regs.map ah)++ab t 1 (s2.taint.map bP))at B;have O:eV c.ins (c.ins.length-(k+1)) s2=eV c.ins c.ins.length s:=by rw[<-hrun,hm,G3 D (by rw[S];exact p3) (by rw[S];exact u),show c.ins.length-(k+1)=m by omega]
      have hls:=wJ u;unfold ko;rcases o with _|b1<;>rcases t with _|b2
      all_goals
       repeat' (first|refine sy ?_|((with_reducible refine aU 173 ?_);(refine qM (R:=[(E,_),(G,_)]) B (W1 (l₁:=[(E,_),(G,_)])) ?_;rintro _ _ ⟨rfl,rfl⟩))|refine s2 ?_ ?_|intro)
       exact⟨k+1,s2,YC,YC,⟨he.step hU u,⟨YC,YC⟩,O⟩,dX (by rw[ax (by omega:k<c.ins.length) YC]<;>rfl) rfl⟩
end
end
section
section
variable (c:eG) (s:aG) (U:List Int) (hU:U.length<=2^30) (hr:s.regs.length<2^40) (ht:s.taint.length<2^40) (hsh:∀l∈s.taint,l.length<=2^30) (hsub:∀l∈s.taint,∀x∈l,x∈U) (hc:c.ins.length<2^40)
include hU hr ht hsh hsub hc
theorem Jj:ao Tryz.prog 123 [.agg c.enc,.agg s.enc] (nR (bu c s)):=by
 refine ac.fz (zc _ _ _ _ ?_);refine vw ?_;generalize S:(λ(v:AV) (L:SH)=>∃O Y,aE [v] L [O] Y/\O=nR (bu c s)/\Y=[])=Q;have j:∀v L,Fz L v (nR (bu c s))->Q v L:=λv L h=>by subst S;exact⟨_,[],aE.all h,rfl,rfl⟩
 clear S;by_cases E:(s.regs.length:Int)=c.regs
 .have d1:decide ((s.regs.length:Int)≠c.regs)=false:=by simpa using E
  by_cases D:(s.taint.length:Int)=c.regs
  .have d2:decide ((s.taint.length:Int)≠c.regs)=false:=by simpa using D
   have hT:ji U s:=⟨YC,hr,hsh,hsub⟩;have e:bu c s=eV c.ins c.ins.length s:=by unfold bu;rw[if_pos ⟨E,D⟩]
   rw[e]at j;have M:=HH s hr ht hsh
   repeat' (first|refine sx ?_|((with_reducible refine aU 172 ?_);(refine qM (K:=[]) M (List.Perm.refl _) ?_;rintro _ _ ⟨o,t,rfl,rfl,Z,G⟩))|refine sb λu B=>?_|refine s2 (λh=>?_) λh=>?_|fail)
   rename_i b3 _;rcases o with _|b1<;>rcases t with _|b2
   all_goals
    repeat' (first|refine sx ?_|refine sb λu B=>?_|refine s2 ?_ ?_|intro)
    exact Fw c s U hU hT hc _ _ Z G b3 u Q j
  .have d2:decide ((s.taint.length:Int)≠c.regs)=true:=by simpa using D
   have e:bu c s=(aG.zero,false):=by unfold bu;rw[if_neg (λh=>D h.2)]
   rw[e]at j
   repeat' (first|refine sy ?_|refine s2 ?_ ?_|intro)
   exact j _ _ (pQ (qN _))
 .have d1:decide ((s.regs.length:Int)≠c.regs)=true:=by simpa using E
  have e:bu c s=(aG.zero,false):=by unfold bu;rw[if_neg (λh=>E h.1)]
  rw[e]at j
  repeat' (first|refine sy ?_|refine s2 ?_ ?_|intro)
  exact j _ _ (pQ (qN _))
end
end
