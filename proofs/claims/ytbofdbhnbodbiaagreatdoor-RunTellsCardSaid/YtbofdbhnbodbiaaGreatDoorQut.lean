/- A part of the proof; the statement is proved in the last part. -/
import Derived.Test.YtbofdbhnbodbiaaGreatDoorQus
set_option linter.all false
set_option maxRecDepth 100000
set_option maxHeartbeats 20000000
namespace Go.Proofs.YtbofdbhnbodbiaaGreatDoor.Am
section
structure S0(P:Prop):Prop where
 h:P
theorem HL{Q:AV->SH->Prop}{vs:List AV}{L:SH}(h:S0 (kE Q vs L)):kE Q vs L:=h.h
theorem GA(o:Option Nat)(n:Nat):(aK o n).one=true:=by cases o<;>rfl
theorem oP(s:aD)(o t:Option Nat):(cY s o t).all AV.one=true:=by unfold cY;simp[GA];exact⟨rfl,rfl⟩
theorem Ta(n a:Int):aq Tryz.prog 127 [.U1 (Ku n),.U1 a] (.tup [.U1 (yw n a).1,.bool (yw n a).2]):=by
 have:=IL (Ku n) a
 rwa [Rk]at this
theorem S1(n a b:Int):aq Tryz.prog 129 [.U1 (Ku n),.U1 a,.U1 b] (.tup [.U1 (iQ n a b).1,.bool (iQ n a b).2]):=by
 have:=Gy (Ku n) a b
 rwa [ON]at this
section
variable (s:aD) (o t:Option Nat) (ho:o=none->s.regs=[]) (ht:t=none->s.taint=[]) (hlen:s.taint.length=s.regs.length) (hsm:s.regs.length<2^40) (hsh:∀l∈s.taint,l.length<=2^30) (ia ib ic n site:Int)
include ho ht hlen hsm hsh
theorem O9:ac Tryz.prog 84 [.agg (aT.mk 5 ia ib ic n site).enc,.agg (cY s o t)] (ab o 1 (s.regs.map ah)++ab t 1 (s.taint.map bC)) (oO (aM ⟨5,ia,ib,ic,n,site⟩ s) o t):=by
 have N:aq Tryz.prog 54 [.agg (aT.mk 5 ia ib ic n site).enc] (.lst (([]:List Int).map ah)):=by have:=ml ⟨5,ia,ib,ic,n,site⟩;simpa[aO]using this
 refine ac.fz (fJ _ _ _ _ ?_);refine vw ?_;generalize G:(λ(v:AV) (L:SH)=>∃B E,az [v] L [B] E/\oO (aM ⟨5,ia,ib,ic,n,site⟩ s) o t B E)=Q;have D:∀vv L,(∃B E,az [vv] L [B] E/\oO (aM ⟨5,ia,ib,ic,n,site⟩ s) o t B E)->Q vv L:=by subst G;exact λ_ _ h=>h
 clear G
 repeat' (first|refine st ?_|refine yj (cs:=cY s o t) rfl (oP s o t) (λj u=>?_)|(refine pf 54 ?_;refine pm (N) ?_)|refine sb λj u=>?_|refine s2 (λh=>?_) λh=>?_|fail)
 rename_i M O;refine lB s o t ho hsm (aT.mk 5 ia ib ic n site) M j _ Q [] UZ (λh L=>?_) (λh=>?_)
 .simp at h
 .have e:aM ⟨5,ia,ib,ic,n,site⟩ s=some {s with pc:=ia}:=by simp[aM]
  rw[e]at D;refine vw ?_;rcases o with _|Y<;>rcases t with _|S
  all_goals
   dsimp only[ab,List.cons_append,List.nil_append]
   repeat' (first|refine st ?_|refine sb λj u=>?_|refine s2 (λh=>?_) λh=>?_|fail)
   exact D _ _ ⟨_,_,az.forget (K:=[(j,_),(M,_)]) (List.Perm.refl _),rfl,rfl⟩
theorem Pa:ac Tryz.prog 84 [.agg (aT.mk 1 ia ib ic n site).enc,.agg (cY s o t)] (ab o 1 (s.regs.map ah)++ab t 1 (s.taint.map bC)) (oO (aM ⟨1,ia,ib,ic,n,site⟩ s) o t):=by
 have hr:aq Tryz.prog 54 [.agg (aT.mk 1 ia ib ic n site).enc] (.lst ([ia].map ah)):=by have:=ml ⟨1,ia,ib,ic,n,site⟩;simpa[aO]using this
 refine ac.fz (fJ _ _ _ _ ?_);refine vw ?_;generalize hQ:(λ(v:AV) (L:SH)=>∃G N,az [v] L [G] N/\oO (aM ⟨1,ia,ib,ic,n,site⟩ s) o t G N)=Q;have u:∀vv L,(∃G N,az [vv] L [G] N/\oO (aM ⟨1,ia,ib,ic,n,site⟩ s) o t G N)->Q vv L:=by subst hQ;exact λ_ _ h=>h
 clear hQ
 repeat' (first|refine st ?_|refine yj (cs:=cY s o t) rfl (oP s o t) (λj B=>?_)|(refine pf 54 ?_;refine pm (hr) ?_)|refine sb λj B=>?_|refine s2 (λh=>?_) λh=>?_|fail)
 rename_i O M;refine lB s o t ho hsm (aT.mk 1 ia ib ic n site) O j _ Q [ia] UZ (λh L=>?_) (λh=>?_)
 .have e:aM ⟨1,ia,ib,ic,n,site⟩ s=none:=by simp at h;simp_all[aM]
  rw[e]at u;exact u _ _ ⟨_,[],az.all (.refl _),.inl rfl⟩
 .have Z:s.has ia=true:=by simpa using h
  have e:aM ⟨1,ia,ib,ic,n,site⟩ s=if true then some (s.put ia n [])else none:=by simp[aM,Z]
  rw[e]at u;obtain⟨a,rfl,E⟩:=dN.1 Z;obtain⟨b1,rfl⟩:=dO ho E;obtain⟨b2,rfl⟩:=dO ht (k:=a) UW;have Y:O≠b1:=λe=>M (by simp[SH.names,ab,e])
  have S:O≠b2:=λe=>M (by simp[SH.names,ab,e])
  have D:a<s.taint.length:=by omega
  have hxa:=am (f:=ah) E;have hya:=am (f:=bC) D;refine vw ?_;dsimp only[ab,List.cons_append,List.nil_append]
  repeat' (first|(with_reducible refine HL ?_)|refine st ?_|refine sb λj B=>?_|refine s2 (λh=>?_) λh=>?_|fail)
  exact⟨xz s 1 a _ _ n site n a [] U0 b1 b2 O j true rfl E D Y S _ (.inl ⟨rfl,rfl⟩) Q u⟩
theorem Pb:ac Tryz.prog 84 [.agg (aT.mk 2 ia ib ic n site).enc,.agg (cY s o t)] (ab o 1 (s.regs.map ah)++ab t 1 (s.taint.map bC)) (oO (aM ⟨2,ia,ib,ic,n,site⟩ s) o t):=by
 have hr:aq Tryz.prog 54 [.agg (aT.mk 2 ia ib ic n site).enc] (.lst ([ia,ib].map ah)):=by have:=ml ⟨2,ia,ib,ic,n,site⟩;simpa[aO]using this
 refine ac.fz (fJ _ _ _ _ ?_);refine vw ?_;generalize hQ:(λ(v:AV) (L:SH)=>∃M S,az [v] L [M] S/\oO (aM ⟨2,ia,ib,ic,n,site⟩ s) o t M S)=Q;have j:∀vv L,(∃M S,az [vv] L [M] S/\oO (aM ⟨2,ia,ib,ic,n,site⟩ s) o t M S)->Q vv L:=by subst hQ;exact λ_ _ h=>h
 clear hQ
 repeat' (first|refine st ?_|refine yj (cs:=cY s o t) rfl (oP s o t) (λB D=>?_)|(refine pf 54 ?_;refine pm (hr) ?_)|refine sb λB D=>?_|refine s2 (λh=>?_) λh=>?_|fail)
 rename_i Y O;refine lB s o t ho hsm (aT.mk 2 ia ib ic n site) Y B _ Q [ia,ib] UZ (λh L=>?_) (λh=>?_)
 .have e:aM ⟨2,ia,ib,ic,n,site⟩ s=none:=by simp at h;simp_all[aM]
  rw[e]at j;exact j _ _ ⟨_,[],az.all (.refl _),.inl rfl⟩
 .obtain⟨ha,hb⟩:s.has ia=true/\s.has ib=true:=by simpa using h
  have e:aM ⟨2,ia,ib,ic,n,site⟩ s=if true then some (s.put ia (s.reg ib) (s.tnt ib))else none:=by simp[aM,ha,hb]
  rw[e]at j;obtain⟨a,rfl,G⟩:=dN.1 ha;obtain⟨b,rfl,N⟩:=dN.1 hb;obtain⟨b1,rfl⟩:=dO ho G;obtain⟨b2,rfl⟩:=dO ht (k:=a) UW;have h13:Y≠b1:=λe=>O (by simp[SH.names,ab,e])
  have h23:Y≠b2:=λe=>O (by simp[SH.names,ab,e])
  have E:a<s.taint.length:=by omega
  have hxa:=am (f:=ah) G;have hya:=am (f:=bC) E;have u:b<s.taint.length:=by omega
  have hxb:=am (f:=ah) N;have hyb:=am (f:=bC) u;have Z:s.taint[b].length<=2^31:=by have:=hsh _ (Tk u);omega
  have hrb:s.reg b=s.regs[b]:=by simp[aD.reg,List.getD,N]
  have htb:s.tnt b=s.taint[b]:=by simp[aD.tnt,List.getD,u]
  rw[hrb,htb]at j;refine vw ?_;dsimp only[ab,List.cons_append,List.nil_append]
  repeat' (first|(with_reducible refine HL ?_)|refine st ?_|refine sb λB D=>?_|refine s2 (λh=>?_) λh=>?_|fail)
  exact⟨xz s 2 a _ _ n site _ a _ Z b1 b2 Y B true rfl G E h13 h23 _ (.inr rfl) Q j⟩
theorem Pd:ac Tryz.prog 84 [.agg (aT.mk 3 ia ib ic n site).enc,.agg (cY s o t)] (ab o 1 (s.regs.map ah)++ab t 1 (s.taint.map bC)) (oO (aM ⟨3,ia,ib,ic,n,site⟩ s) o t):=by
 have hr:aq Tryz.prog 54 [.agg (aT.mk 3 ia ib ic n site).enc] (.lst ([ia,ib].map ah)):=by have:=ml ⟨3,ia,ib,ic,n,site⟩;simpa[aO]using this
 refine ac.fz (fJ _ _ _ _ ?_);refine vw ?_;generalize hQ:(λ(v:AV) (L:SH)=>∃M Y,az [v] L [M] Y/\oO (aM ⟨3,ia,ib,ic,n,site⟩ s) o t M Y)=Q;have j:∀vv L,(∃M Y,az [vv] L [M] Y/\oO (aM ⟨3,ia,ib,ic,n,site⟩ s) o t M Y)->Q vv L:=by subst hQ;exact λ_ _ h=>h
 clear hQ
 repeat' (first|refine st ?_|refine yj (cs:=cY s o t) rfl (oP s o t) (λB D=>?_)|(refine pf 54 ?_;refine pm (hr) ?_)|refine sb λB D=>?_|refine s2 (λh=>?_) λh=>?_|fail)
 rename_i Z S;refine lB s o t ho hsm (aT.mk 3 ia ib ic n site) Z B _ Q [ia,ib] UZ (λh L=>?_) (λh=>?_)
 .have e:aM ⟨3,ia,ib,ic,n,site⟩ s=none:=by simp at h;simp_all[aM]
  rw[e]at j;exact j _ _ ⟨_,[],az.all (.refl _),.inl rfl⟩
 .obtain⟨ha,hb⟩:s.has ia=true/\s.has ib=true:=by simpa using h
  have e:aM ⟨3,ia,ib,ic,n,site⟩ s=if(yw n (s.reg ib)).2 then some (s.put ia (yw n (s.reg ib)).1 (s.tnt ib))else none:=by simp[aM,ha,hb]
  rw[e]at j;obtain⟨a,rfl,G⟩:=dN.1 ha;obtain⟨b,rfl,O⟩:=dN.1 hb;obtain⟨b1,rfl⟩:=dO ho G;obtain⟨b2,rfl⟩:=dO ht (k:=a) UW;have h13:Z≠b1:=λe=>S (by simp[SH.names,ab,e])
  have h23:Z≠b2:=λe=>S (by simp[SH.names,ab,e])
  have E:a<s.taint.length:=by omega
  have hxa:=am (f:=ah) G;have hya:=am (f:=bC) E;have u:b<s.taint.length:=by omega
  have hxb:=am (f:=ah) O;have hyb:=am (f:=bC) u;have hub:s.taint[b].length<=2^31:=by have:=hsh _ (Tk u);omega
  have hrb:s.reg b=s.regs[b]:=by simp[aD.reg,List.getD,O]
  have htb:s.tnt b=s.taint[b]:=by simp[aD.tnt,List.getD,u]
  have hop:=vY n;have N:=Ta n s.regs[b];rw[hrb,htb]at j;generalize yw n s.regs[b]=p at N j;refine vw ?_;dsimp only[ab,List.cons_append,List.nil_append]
  repeat' (first|(with_reducible refine HL ?_)|refine st ?_|(refine pf 128 ?_;refine pm (hop) ?_)|(refine pf 127 ?_;refine pm (N) ?_)|(refine Cz ?_ ?_;focus (simp[rm,rc,rz,W.free,af,fx,cF,SH.names,aK];done))|refine sb λB D=>?_|refine s2 (λh=>?_) λh=>?_|fail)
  exact⟨xz s 3 a _ _ n site p.1 a _ hub b1 b2 Z B p.2 rfl G E h13 h23 _ (.inr rfl) Q j⟩
theorem Pe:ac Tryz.prog 84 [.agg (aT.mk 4 ia ib ic n site).enc,.agg (cY s o t)] (ab o 1 (s.regs.map ah)++ab t 1 (s.taint.map bC)) (oO (aM ⟨4,ia,ib,ic,n,site⟩ s) o t):=by
 have hr:aq Tryz.prog 54 [.agg (aT.mk 4 ia ib ic n site).enc] (.lst ([ia,ib,ic].map ah)):=by have:=ml ⟨4,ia,ib,ic,n,site⟩;simpa[aO]using this
 refine ac.fz (fJ _ _ _ _ ?_);refine vw ?_;generalize hQ:(λ(v:AV) (L:SH)=>∃O L2,az [v] L [O] L2/\oO (aM ⟨4,ia,ib,ic,n,site⟩ s) o t O L2)=Q;have j:∀vv L,(∃O L2,az [vv] L [O] L2/\oO (aM ⟨4,ia,ib,ic,n,site⟩ s) o t O L2)->Q vv L:=by subst hQ;exact λ_ _ h=>h
 clear hQ
 repeat' (first|refine st ?_|refine yj (cs:=cY s o t) rfl (oP s o t) (λE G=>?_)|(refine pf 54 ?_;refine pm (hr) ?_)|refine sb λE G=>?_|refine s2 (λh=>?_) λh=>?_|fail)
 rename_i b3 hb3;refine lB s o t ho hsm (aT.mk 4 ia ib ic n site) b3 E _ Q [ia,ib,ic] UZ (λh L=>?_) (λh=>?_)
 .have e:aM ⟨4,ia,ib,ic,n,site⟩ s=none:=by simp at h;simp_all[aM]
  rw[e]at j;exact j _ _ ⟨_,[],az.all (.refl _),.inl rfl⟩
 .obtain⟨ha,hb,hc⟩:s.has ia=true/\s.has ib=true/\s.has ic=true:=by simpa using h
  have e:aM ⟨4,ia,ib,ic,n,site⟩ s=if(iQ n (s.reg ib) (s.reg ic)).2 then some (s.put ia (iQ n (s.reg ib) (s.reg ic)).1 (Aq (s.tnt ib++s.tnt ic)))else none:=by simp[aM,ha,hb,hc]
  rw[e]at j;obtain⟨a,rfl,N⟩:=dN.1 ha;obtain⟨b,rfl,hbl⟩:=dN.1 hb;obtain⟨c,rfl,hcl⟩:=dN.1 hc;obtain⟨b1,rfl⟩:=dO ho N;obtain⟨b2,rfl⟩:=dO ht (k:=a) UW;have h13:b3≠b1:=λe=>hb3 (by simp[SH.names,ab,e])
  have h23:b3≠b2:=λe=>hb3 (by simp[SH.names,ab,e])
  have M:a<s.taint.length:=by omega
  have hxa:=am (f:=ah) N;have hya:=am (f:=bC) M;have D:b<s.taint.length:=by omega
  have hxb:=am (f:=ah) hbl;have hyb:=am (f:=bC) D;have B:c<s.taint.length:=by omega
  have hxc:=am (f:=ah) hcl;have hyc:=am (f:=bC) B;have hub:s.taint[b].length<=2^31:=by have:=hsh _ (Tk D);omega
  have huc:s.taint[c].length<=2^31:=by have:=hsh _ (Tk B);omega
  have hrb:s.reg b=s.regs[b]:=by simp[aD.reg,List.getD,hbl]
  have htb:s.tnt b=s.taint[b]:=by simp[aD.tnt,List.getD,D]
  have hrc:s.reg c=s.regs[c]:=by simp[aD.reg,List.getD,hcl]
  have htc:s.tnt c=s.taint[c]:=by simp[aD.tnt,List.getD,B]
  have hop:=vY n;have S:=S1 n s.regs[b] s.regs[c];have Y:=B1 s.taint[b] s.taint[c] UW UW;have Z:(Aq (s.taint[b]++s.taint[c])).length<=2^31:=Nat.le_trans (BN (U:=s.taint[b]++s.taint[c]) λx hx=>hx) (by have h1:=hsh _ (List.getElem_mem D);have h2:=hsh _ (List.getElem_mem B);simp;omega);rw[hrb,htb,hrc,htc]at j;generalize iQ n s.regs[b] s.regs[c]=p at S j;generalize Aq (s.taint[b]++s.taint[c])=u at Y j Z;refine vw ?_;dsimp only[ab,List.cons_append,List.nil_append]
  repeat' (first|(with_reducible refine HL ?_)|refine st ?_|(refine pf 128 ?_;refine pm (hop) ?_)|(refine pf 129 ?_;refine pm (S) ?_)|(refine pf 78 ?_;refine pm (Y) ?_)|(refine Cz ?_ ?_;focus (simp[rm,rc,rz,W.free,af,fx,cF,SH.names,aK];done))|refine sb λE G=>?_|refine s2 (λh=>?_) λh=>?_|fail)
  exact⟨xz s 4 a _ _ n site p.1 a u Z b1 b2 b3 E p.2 rfl N M h13 h23 _ (.inr rfl) Q j⟩
end
end
section
theorem K7(s:aD)(o t:Option Nat)(ho:o=none->s.regs=[])(ht:t=none->s.taint=[])(u:s.taint.length=s.regs.length)(B:s.regs.length<2^40)(D:∀l∈s.taint,l.length<=2^30)(i:aT)(O:1<=i.op)(N:i.op<=5):
  ac Tryz.prog 84 [.agg i.enc,.agg (cY s o t)] (ab o 1 (s.regs.map ah)++ab t 1 (s.taint.map bC)) (oO (aM i s) o t):=by
 obtain⟨op,M,G,E,n,j⟩:=i;dsimp only at O N;obtain rfl|rfl|rfl|rfl|rfl:op=1\/op=2\/op=3\/op=4\/op=5:=by omega
 .exact Pa s o t ho ht u B D M G E n j
 .exact Pb s o t ho ht u B D M G E n j
 .exact Pd s o t ho ht u B D M G E n j
 .exact Pe s o t ho ht u B D M G E n j
 .exact O9 s o t ho ht u B D M G E n j
section
variable (c:eB) (s:aD) (U:List Int) (hU:U.length<=2^30) (hT:hM U s) (hc:c.ins.length<2^40) (o t:Option Nat) (ho:o=none->s.regs=[]) (ht:t=none->s.taint=[])
include hU hT hc ho ht
theorem Dn(O N:Nat)(Q:AV->SH->Prop)(hq:∀v L,Fz L v (l8 (dT c.ins c.ins.length s))->Q v L):
  W.loop (xc Q) [.pptr [c.enc] 0 0,.ptr O 0 0,.ptr N 0 0,.U1 (0:Nat)] ((N,⟨4,[jP]⟩)::jc s O o t):=by
 refine bz c.ins.length (λk (e:aD)=>([.pptr [c.enc] 0 0,.ptr O 0 0,.ptr N 0 0,.U1 k],(N,⟨4,[jP]⟩)::jc e O o t)) (λk e=>hM U e/\(e.regs.length=s.regs.length/\e.taint.length=s.taint.length)/\dT c.ins (c.ins.length-k) e=dT c.ins c.ins.length s) s ⟨hT,⟨rfl,rfl⟩,rfl⟩ (.refl _ _) ?_;intro k e hk ⟨he,⟨hl1,hl2⟩,hrun⟩;rw[<-hrun]at hq;have ho':o=none->e.regs=[]:=λx=>T9.1 (by rw[hl1,ho x];rfl)
 have ht':t=none->e.taint=[]:=λx=>T9.1 (by rw[hl2,ht x];rfl)
 dsimp only;refine vw ?_;have hd0:decide ((k:Int)<=(c.ins.length:Int))=true:=by simp;omega
 have u:dT c.ins (c.ins.length-k) e=(aD.zero,false)->∀L,Q (.tup [.agg jP,.bool false]) L:=λh L=>hq _ _ (by rw[h];exact nW (pk _))
 by_cases p1:e.pc<0
 .have hd1:decide (e.pc<0)=true:=by simpa using p1
  have S:=u (xx (by simp[inB];omega));unfold jc cY
  repeat' (first|refine st ?_|refine sb λG j=>?_|refine s2 (λh=>?_) λh=>?_|fail)
  exact S _
 .have hd1:decide (e.pc<0)=false:=by simpa using p1
  by_cases p2:(c.ins.length:Int)<=e.pc
  .have hd2:decide ((c.ins.length:Int)<=e.pc)=true:=by simpa using p2
   have S:=u (xx (by simp[inB];omega));unfold jc cY
   repeat' (first|refine st ?_|refine sb λG j=>?_|refine s2 (λh=>?_) λh=>?_|fail)
   exact S _
  .have hd2:decide ((c.ins.length:Int)<=e.pc)=false:=by simpa using p2
   have M:inB e.pc c.ins.length=true:=by simp[inB];omega
   have hx:=bS (f:=aT.enc) M;generalize Z:c.ins.getD e.pc.toNat default=i at hx;have D:=IM i.op;by_cases p3:i.op<1\/5<i.op
   .have hr:=EG (k:=c.ins.length-k) M (by rw[Z];exact p3);rw[hr]at hq;have fin:∀x,Q (.tup [.agg (cY e o t),.bool true]) ((N,x)::jc e O o t):=λx=>hq _ _ (nW (HG ho' ht' λp hp=>by unfold jc;exact .tail _ (.tail _ hp)))
    unfold jc cY at fin ⊢;rw[show Gz i.op=false by simp[Gz];omega]at D;rcases o with _|b1<;>rcases t with _|b2
    all_goals
     dsimp only[aK,ab,List.cons_append,List.nil_append]at fin ⊢
     repeat' (first|refine st ?_|(refine pf 83 ?_;refine pm (D) ?_)|refine sb λG j=>?_|refine s2 (λh=>?_) λh=>?_|fail)
     exact fin _
   .rw[show Gz i.op=true by simp[Gz];omega]at D;by_cases p5:k=c.ins.length
    .have q3:decide ((k:Int)=(c.ins.length:Int))=true:=by simp[p5]
     have S:=u (by rw[p5,UT];exact EI M (by rw[Z];exact p3));unfold jc cY
     repeat' (first|refine st ?_|(refine pf 83 ?_;refine pm (D) ?_)|refine sb λG j=>?_|refine s2 (λh=>?_) λh=>?_|fail)
     exact S _
    .have q3:decide ((k:Int)=(c.ins.length:Int))=false:=by simp;omega
     have E:=K7 e o t ho' ht' he.len he.small he.short i UW UW;obtain⟨m,hm⟩:∃m,c.ins.length-k=m+1:=⟨c.ins.length-k-1,UW⟩;cases B:aM i e with
     |none=>
      have S:=u (EH M (by rw[Z];exact p3) (by rw[Z];exact B));rw[B]at E;change ac _ _ _ _ (λv L=>v=.tup [.agg jP,.bool false]\/∃s3:aD,v=.tup [.agg (cY s3 o t),.bool false])at E;unfold jc;rcases o with _|b1<;>rcases t with _|b2
      all_goals
       repeat' (first|refine st ?_|(refine pf 83 ?_;refine pm (D) ?_)|((with_reducible refine bb 84 ?_);(refine pj (R:=[(N,_),(O,_)]) E (Tt (l₁:=[(N,_),(O,_)])) ?_;rintro _ K' (rfl|⟨s3,rfl⟩)))|refine sb λG j=>?_|refine s2 (λh=>?_) λh=>?_|fail)
       all_goals exact S _
     |some s2=>
      rw[B]at E;change ac _ _ _ _ (λv L=>v=.tup [.agg (cY s2 o t),.bool true]/\L=ab o 1 (s2.regs.map ah)++ab t 1 (s2.taint.map bC))at E;have Y:dT c.ins (c.ins.length-(k+1)) s2=dT c.ins c.ins.length s:=by rw[<-hrun,hm,EJ M (by rw[Z];exact p3) (by rw[Z];exact B),show c.ins.length-(k+1)=m by omega]
      have hls:=uD B;unfold jc;rcases o with _|b1<;>rcases t with _|b2
      all_goals
       repeat' (first|refine st ?_|(refine pf 83 ?_;refine pm (D) ?_)|((with_reducible refine bb 84 ?_);(refine pj (R:=[(N,_),(O,_)]) E (Tt (l₁:=[(N,_),(O,_)])) ?_;rintro _ _ ⟨rfl,rfl⟩))|refine sb λG j=>?_|refine s2 (λh=>?_) λh=>?_|fail)
       exact⟨k+1,s2,UW,UW,⟨he.step hU B,⟨UW,UW⟩,Y⟩,dq (by rw[aw (by omega:k<c.ins.length) UW]<;>rfl) rfl⟩
end
end
section
section
variable (c:eB) (s:aD) (U:List Int) (hU:U.length<=2^30) (hr:s.regs.length<2^40) (ht:s.taint.length<2^40) (hsh:∀l∈s.taint,l.length<=2^30) (hsub:∀l∈s.taint,∀x∈l,x∈U) (hc:c.ins.length<2^40)
include hU hr ht hsh hsub hc
theorem GB:aq Tryz.prog 45 [.agg c.enc,.agg s.enc] (l8 (aU c s)):=by
 refine ac.fz (xd _ _ _ _ ?_);refine vw ?_;generalize O:(λ(v:AV) (L:SH)=>∃N S,az [v] L [N] S/\N=l8 (aU c s)/\S=[])=Q;have B:∀v L,Fz L v (l8 (aU c s))->Q v L:=λv L h=>by subst O;exact⟨_,[],az.all h,rfl,rfl⟩
 clear O;by_cases E:(s.regs.length:Int)=c.regs
 .have d1:decide ((s.regs.length:Int)≠c.regs)=false:=by simpa using E
  by_cases D:(s.taint.length:Int)=c.regs
  .have d2:decide ((s.taint.length:Int)≠c.regs)=false:=by simpa using D
   have Z:hM U s:=⟨UW,hr,hsh,hsub⟩;have e:aU c s=dT c.ins c.ins.length s:=by unfold aU;rw[if_pos ⟨E,D⟩]
   rw[e]at B;have M:=E4 s hr ht hsh
   repeat' (first|refine st ?_|((with_reducible refine bb 82 ?_);(refine pj (K:=[]) M (List.Perm.refl _) ?_;rintro _ _ ⟨o,t,rfl,rfl,Y,G⟩))|refine sb λu j=>?_|refine s2 (λh=>?_) λh=>?_|fail)
   rename_i b3 _;rcases o with _|b1<;>rcases t with _|b2
   all_goals
    repeat' (first|refine st ?_|refine sb λu j=>?_|refine s2 (λh=>?_) λh=>?_|fail)
    exact Dn c s U hU Z hc _ _ Y G b3 u Q B
  .have d2:decide ((s.taint.length:Int)≠c.regs)=true:=by simpa using D
   have e:aU c s=(aD.zero,false):=by unfold aU;rw[if_neg (λh=>D h.2)]
   rw[e]at B
   repeat' (first|refine st ?_|refine sb λu j=>?_|refine s2 (λh=>?_) λh=>?_|fail)
   exact B _ _ (nW (pk _))
 .have d1:decide ((s.regs.length:Int)≠c.regs)=true:=by simpa using E
  have e:aU c s=(aD.zero,false):=by unfold aU;rw[if_neg (λh=>E h.1)]
  rw[e]at B
  repeat' (first|refine st ?_|refine sb λu j=>?_|refine s2 (λh=>?_) λh=>?_|fail)
  exact B _ _ (nW (pk _))
end
theorem K8(s:aD)(h1:s.regs.length<2^40)(h2:s.taint.length<2^40)(Y:∀l∈s.taint,l.length<=2^30):aq Tryz.prog 35 [.agg s.enc,.agg s.enc] (.bool true):=by
 refine pS _ _ _ _ ?_;refine vw ?_;generalize N:(λ(v:AV) (L:SH)=>v=AV.bool true/\L=[])=Q;have O:Q (.bool true) []:=by subst N;exact⟨rfl,rfl⟩
 clear N;have d1:decide (s.pc≠s.pc)=false:=by simp
 have d2:decide (s.ev≠s.ev)=false:=by simp
 have d3:decide ((s.regs.length:Int)≠(s.regs.length:Int))=false:=by simp
 have d4:decide ((s.taint.length:Int)≠(s.taint.length:Int))=false:=by simp
 repeat' (first|refine st ?_|refine sb λB u=>?_|refine s2 (λh=>?_) λh=>?_|fail)
 refine iY s.regs.length (λi=>([.pptr [s.enc] 0 0,.pptr [s.enc] 0 0,.U1 i],[])) (λi=>True) trivial rfl rfl ?_;intro i hi _;dsimp only;refine vw ?_;rcases Nat.lt_or_ge i s.regs.length with G|G
 .have S:=aS G;have hx:=am (f:=ah) G;have d5:decide (s.regs[i]≠s.regs[i])=false:=by simp
  repeat' (first|refine st ?_|refine sb λB u=>?_|refine s2 (λh=>?_) λh=>?_|fail)
  exact⟨i+1,UW,UW,trivial,dq (by rw[aw G UW]<;>rfl) rfl⟩
 .have S:=aX G
  repeat' (first|refine st ?_|refine sb λB u=>?_|refine s2 (λh=>?_) λh=>?_|fail)
  refine iY s.taint.length (λi=>([.pptr [s.enc] 0 0,.pptr [s.enc] 0 0,.U1 i],[])) (λi=>True) trivial rfl rfl ?_;intro j hj _;dsimp only;refine vw ?_;rcases Nat.lt_or_ge j s.taint.length with E|E
  .have M:=aS E;have Z:=am (f:=bC) E;have D:=tm s.taint[j] (by have:=Y _ (Tk E);omega)
   repeat' (first|refine st ?_|(refine pf 46 ?_;refine pm (D) ?_)|refine sb λB u=>?_|refine s2 (λh=>?_) λh=>?_|fail)
   exact⟨j+1,UW,UW,trivial,dq (by rw[aw E UW]<;>rfl) rfl⟩
  .have M:=aX E
   repeat' (first|refine st ?_|refine sb λB u=>?_|refine s2 (λh=>?_) λh=>?_|fail)
   exact O
end
def RE{t:TypeId}{l:List AV}{ts:List TypeId}{K:AV->Prop}(u:Fl t=some ts)(j:qO Tryz.prog ts l l=some true)(h:K (.bool false)):W.bin Tryz.prog Fl .neq t (.agg l) (.agg l) K:=by rw[eV];refine⟨.bool false,?_,h⟩;simp only[gH,u,Ua,j];rfl
def ui:Tryz.prog.underlying 3=some (.int .i64):=by kernel_rfl
def ul:Tryz.prog.underlying 2=some (.int .i64):=by kernel_rfl
def ub:Tryz.prog.underlying 4=some .bool:=by kernel_rfl
def us:Tryz.prog.underlying 9=some .string:=by kernel_rfl
def Pf(x:ThrD){K:AV->Prop}(h:K (.bool false)):W.bin Tryz.prog Fl .neq 98 (.agg x.enc) (.agg x.enc) K:=
 RE (ts:=[3,3,4]) (by kernel_rfl) (by simp[ThrD.enc,qO,qN,ui,ub]) h
def Pg(x:aF){K:AV->Prop}(h:K (.bool false)):W.bin Tryz.prog Fl .neq 90 (.agg x.enc) (.agg x.enc) K:=
 RE (ts:=[9,3,3,4,2]) (by kernel_rfl) (by simp[aF.enc,qO,qN,ui,ul,ub,us]) h
def Ph(x:bn){K:AV->Prop}(h:K (.bool false)):W.bin Tryz.prog Fl .neq 141 (.agg x.enc) (.agg x.enc) K:=
 RE (ts:=[9,4]) (by kernel_rfl) (by simp[bn.enc,qO,qN,ub,us]) h
def Pi(x:bP){K:AV->Prop}(h:K (.bool false)):W.bin Tryz.prog Fl .neq 144 (.agg x.enc) (.agg x.enc) K:=
 RE (ts:=[9,3]) (by kernel_rfl) (by simp[bP.enc,qO,qN,ui,us]) h
def Pj(x:bQ){K:AV->Prop}(h:K (.bool false)):W.bin Tryz.prog Fl .neq 148 (.agg x.enc) (.agg x.enc) K:=
 RE (ts:=[3,3,3]) (by kernel_rfl) (by simp[bQ.enc,qO,qN,ui]) h
def E5(l:List Int)(O:l.length<2^62):aq Tryz.prog 34 [.lst (l.map ah),.lst (l.map ah)] (.bool true):=by
 refine rC _ _ _ _ ?_;refine vw ?_;generalize D:(λ(u:AV) (K:SH)=>u=AV.bool true/\K=[])=Q;have M:Q (.bool true) []:=by subst D;exact⟨rfl,rfl⟩
 clear D;have d0:decide ((l.length:Int)≠(l.length:Int))=false:=by simp
 repeat' (first|refine st ?_|refine sb λB j=>?_|refine s2 (λh=>?_) λh=>?_|fail)
 refine dw l.length (λ_=>True) (λi=>[.lst (l.map ah),.lst (l.map ah),.U1 i]) O trivial rfl (λi E S Z _ G N=>?_) (λi E S _ G=>?_)
 all_goals refine vw ?_
 .have Y:=am (f:=ah) E;have d1:decide (l[i]≠l[i])=false:=by simp
  repeat' (first|refine st ?_|refine sb λB j=>?_|refine s2 (λh=>?_) λh=>?_|fail)
  exact N trivial
 .repeat' (first|refine st ?_|refine sb λB j=>?_|refine s2 (λh=>?_) λh=>?_|fail)
  exact M
def K9(s:SyncD)(h1:s.locks.length<2^62)(h2:s.done.length<2^62)(h3:s.threads.length<2^62)(h4:∀l∈s.locks,l.readers.length<2^62):aq Tryz.prog 33 [.agg s.enc,.agg s.enc] (.bool true):=by
 refine ac.fz (AX _ _ _ _ ?_);refine vw ?_;generalize O:(λ(v:AV) (L:SH)=>∃M S,az [v] L [M] S/\M=AV.bool true/\S=[])=Q;have Z:∀L,Q (.bool true) L:=λL=>by subst O;exact⟨_,[],az.all (.refl _),rfl,rfl⟩
 clear O;have d0:decide (s.tx≠s.tx)=false:=by simp
 have d1:decide ((s.locks.length:Int)≠s.locks.length)=false:=by simp
 have d2:decide ((s.done.length:Int)≠s.done.length)=false:=by simp
 have d3:decide ((s.threads.length:Int)≠s.threads.length)=false:=by simp
 repeat' (first|refine st ?_|refine sb λu j=>?_|refine s2 (λh=>?_) λh=>?_|fail)
 refine dw s.locks.length (λ_=>True) (λi=>[.pptr [s.enc] 0 0,.pptr [s.enc] 0 0,.U1 i]) h1 trivial rfl (λi g E N _ B D=>?_) (λi g E _ B=>?_)
 all_goals refine vw ?_
 .have G:=am (f:=LockD.enc) g;have Y:=tm s.locks[i].readers (h4 _ (Tk g));have d4:decide (s.locks[i].owner≠s.locks[i].owner)=false:=by simp
  rw[show s.locks[i].enc=[.U1 s.locks[i].owner,.lst (s.locks[i].readers.map ah)]from rfl]at G
  repeat' (first|refine st ?_|(refine pf 46 ?_;refine pm (Y) ?_)|refine sb λu j=>?_|refine s2 (λh=>?_) λh=>?_|fail)
  exact D trivial
 .repeat' (first|refine st ?_|refine sb λu j=>?_|refine s2 (λh=>?_) λh=>?_|fail)
  refine dw s.done.length (λ_=>True) (λi=>[.pptr [s.enc] 0 0,.pptr [s.enc] 0 0,.U1 i]) h2 trivial rfl (λi g E N _ B D=>?_) (λi g E _ B=>?_)
  all_goals refine vw ?_
  .have G:=am (f:=aB) g;have d4:decide (s.done[i]≠s.done[i])=false:=by simp
   repeat' (first|refine st ?_|refine sb λu j=>?_|refine s2 (λh=>?_) λh=>?_|fail)
   exact D trivial
  .repeat' (first|refine st ?_|refine sb λu j=>?_|refine s2 (λh=>?_) λh=>?_|fail)
   refine dw s.threads.length (λ_=>True) (λi=>[.pptr [s.enc] 0 0,.pptr [s.enc] 0 0,.U1 i]) h3 trivial rfl (λi g E N _ B D=>?_) (λi g E _ B=>?_)
   all_goals refine vw ?_
   .have G:=am (f:=ThrD.enc) g
    repeat' (first|refine g9 (Pf _ ?_)|refine st ?_|refine sb λu j=>?_|refine s2 (λh=>?_) λh=>?_|fail)
    exact D trivial
   .repeat' (first|refine st ?_|refine sb λu j=>?_|refine s2 (λh=>?_) λh=>?_|fail)
    exact Z _
def E6(c:aY)(n:Nat)(M:n<=400)(s:cy)(H:kB c n s):aq Tryz.prog 12 [.agg s.enc,.agg s.enc] (.bool true):=by
 have E:=K9 s.sync (by have:=H.lk;omega) (by have:=H.dn;omega) (by have:=H.th;omega) (λl hl=>by have:=H.rd l hl;omega);have k2:=E5 s.cells (by have:=H.nc;omega);have Z:=E5 s.futures (by have:=H.nf;omega);have N:∀i (h:i<s.threads.length),aq Tryz.prog 35 [.agg s.threads[i].enc,.agg s.threads[i].enc] (.bool true):=λi h=>by obtain⟨a,_,_,b⟩:=H.thr _ (Tk h);exact K8 _ a.small (by have:=a.len;omega) a.short
 have d3:decide ((s.threads.length:Int)≠s.threads.length)=false:=by simp
 have nt:=H.nt;clear H;refine ac.fz (AL _ _ _ _ ?_);refine vw ?_;generalize O:(λ(v:AV) (L:SH)=>∃D S,az [v] L [D] S/\D=AV.bool true/\S=[])=Q;have hq:∀L,Q (.bool true) L:=λL=>by subst O;exact⟨_,[],az.all (.refl _),rfl,rfl⟩
 clear O;have B:s.enc=[.lst (s.sync.locks.map LockD.enc),.U1 s.sync.tx,.lst (s.sync.done.map aB),.lst (s.sync.threads.map ThrD.enc),.lst (s.cells.map ah),.lst (s.futures.map ah),.lst (s.threads.map aD.enc)]:=rfl;rw[show s.sync.enc=[.lst (s.sync.locks.map LockD.enc),.U1 s.sync.tx,.lst (s.sync.done.map aB),.lst (s.sync.threads.map ThrD.enc)]from rfl]at E;rw[B]
 repeat' (first|refine st ?_|(refine pf 33 ?_;refine pm (E) ?_)|(refine pf 34 ?_;refine pm (k2) ?_)|(refine pf 34 ?_;refine pm (Z) ?_)|refine sb λu j=>?_|refine s2 (λh=>?_) λh=>?_|fail)
 rw[<-B];refine dw s.threads.length (λ_=>True) (λi=>[.pptr [s.enc] 0 0,.pptr [s.enc] 0 0,.U1 i]) UW trivial rfl (λi g hd hi _ Y M=>?_) (λi g hd _ Y=>?_)
 all_goals refine vw ?_
 .have hx:=am (f:=aD.enc) g;have G:=N i g;clear N;rw[show s.threads[i].enc=[.U1 s.threads[i].pc,.lst (s.threads[i].regs.map ah),.lst (s.threads[i].taint.map bC),.U1 s.threads[i].ev]from rfl]at hx G;generalize s.threads[i]=e at *
  repeat' (first|refine st ?_|(refine pf 35 ?_;refine pm (G) ?_)|refine sb λu j=>?_|refine s2 (λh=>?_) λh=>?_|fail)
  exact M trivial
 .repeat' (first|refine st ?_|refine sb λu j=>?_|refine s2 (λh=>?_) λh=>?_|fail)
  exact hq _
def La(w:aG)(h1:w.cells.length<2^62)(h2:w.locks.length<2^62)(h3:w.conds.length<2^62)(h4:w.futures.length<2^62)(h5:w.threads.length<2^62)(h6:w.sites.length<2^62):aq Tryz.prog 31 [.agg w.enc,.agg w.enc] (.bool true):=by
 refine ac.fz (rG _ _ _ _ ?_);refine vw ?_;generalize S:(λ(v:AV) (L:SH)=>∃O Y,az [v] L [O] Y/\O=AV.bool true/\Y=[])=Q;have Z:∀L,Q (.bool true) L:=λL=>by subst S;exact⟨_,[],az.all (.refl _),rfl,rfl⟩
 clear S;have G:∀n:Nat,decide ((n:Int)≠(n:Int))=false:=λn=>by simp
 have d1:=G w.cells.length;have d2:=G w.locks.length;have d3:=G w.conds.length;have d4:=G w.futures.length;have d5:=G w.threads.length;have d6:=G w.sites.length
 repeat' (first|refine st ?_|refine sb λu j=>?_|refine s2 (λh=>?_) λh=>?_|fail)
 refine dw w.cells.length (λ_=>True) (λi=>[.pptr [w.enc] 0 0,.pptr [w.enc] 0 0,.U1 i]) h1 trivial rfl (λi g E N _ B D=>?_) (λi g E _ B=>?_)
 all_goals refine vw ?_
 .have M:=am (f:=aF.enc) g
  repeat' (first|refine g9 (Pg _ ?_)|refine st ?_|refine sb λu j=>?_|refine s2 (λh=>?_) λh=>?_|fail)
  exact D trivial
 .repeat' (first|refine st ?_|refine sb λu j=>?_|refine s2 (λh=>?_) λh=>?_|fail)
  refine dw w.locks.length (λ_=>True) (λi=>[.pptr [w.enc] 0 0,.pptr [w.enc] 0 0,.U1 i]) h2 trivial rfl (λi g E N _ B D=>?_) (λi g E _ B=>?_)
  all_goals refine vw ?_
  .have M:=am (f:=bn.enc) g
   repeat' (first|refine g9 (Ph _ ?_)|refine st ?_|refine sb λu j=>?_|refine s2 (λh=>?_) λh=>?_|fail)
   exact D trivial
  .repeat' (first|refine st ?_|refine sb λu j=>?_|refine s2 (λh=>?_) λh=>?_|fail)
   refine dw w.conds.length (λ_=>True) (λi=>[.pptr [w.enc] 0 0,.pptr [w.enc] 0 0,.U1 i]) h3 trivial rfl (λi g E N _ B D=>?_) (λi g E _ B=>?_)
   all_goals refine vw ?_
   .have M:=am (f:=bP.enc) g
    repeat' (first|refine g9 (Pi _ ?_)|refine st ?_|refine sb λu j=>?_|refine s2 (λh=>?_) λh=>?_|fail)
    exact D trivial
   .repeat' (first|refine st ?_|refine sb λu j=>?_|refine s2 (λh=>?_) λh=>?_|fail)
    refine dw w.futures.length (λ_=>True) (λi=>[.pptr [w.enc] 0 0,.pptr [w.enc] 0 0,.U1 i]) h4 trivial rfl (λi g E N _ B D=>?_) (λi g E _ B=>?_)
    all_goals refine vw ?_
    .have M:=am (f:=au) g;have dx:decide (w.futures[i]≠w.futures[i])=false:=by simp
     repeat' (first|refine st ?_|refine sb λu j=>?_|refine s2 (λh=>?_) λh=>?_|fail)
     exact D trivial
    .repeat' (first|refine st ?_|refine sb λu j=>?_|refine s2 (λh=>?_) λh=>?_|fail)
     refine dw w.threads.length (λ_=>True) (λi=>[.pptr [w.enc] 0 0,.pptr [w.enc] 0 0,.U1 i]) h5 trivial rfl (λi g E N _ B D=>?_) (λi g E _ B=>?_)
     all_goals refine vw ?_
     .have M:=am (f:=au) g;have dx:decide (w.threads[i]≠w.threads[i])=false:=by simp
      repeat' (first|refine st ?_|refine sb λu j=>?_|refine s2 (λh=>?_) λh=>?_|fail)
      exact D trivial
     .repeat' (first|refine st ?_|refine sb λu j=>?_|refine s2 (λh=>?_) λh=>?_|fail)
      refine dw w.sites.length (λ_=>True) (λi=>[.pptr [w.enc] 0 0,.pptr [w.enc] 0 0,.U1 i]) h6 trivial rfl (λi g E N _ B D=>?_) (λi g E _ B=>?_)
      all_goals refine vw ?_
      .have M:=am (f:=bQ.enc) g
       repeat' (first|refine g9 (Pj _ ?_)|refine st ?_|refine sb λu j=>?_|refine s2 (λh=>?_) λh=>?_|fail)
       exact D trivial
      .repeat' (first|refine st ?_|refine sb λu j=>?_|refine s2 (λh=>?_) λh=>?_|fail)
       exact Z _
def IN(t:oJ)(u:aq Tryz.prog 31 [.agg t.w.enc,.agg t.w.enc] (.bool true))(h:∀e∈t.ev,Jq e)(N:t.ev.length<2^62):aq Tryz.prog 11 [.agg t.enc,.agg t.enc] (.bool true):=by
 have O:=Gw t.ev h N;refine ac.fz (rF _ _ _ _ ?_);refine vw ?_;generalize D:(λ(v:AV) (L:SH)=>∃j E,az [v] L [j] E/\j=AV.bool true/\E=[])=Q;have M:∀L,Q (.bool true) L:=λL=>by subst D;exact⟨_,[],az.all (.refl _),rfl,rfl⟩
 clear D;obtain⟨w,ev⟩:=t;unfold oJ.enc;unfold aG.enc at u;dsimp only at *
 repeat' (first|refine st ?_|(refine pf 31 ?_;refine pm (u) ?_)|(refine pf 32 ?_;refine pm (O) ?_)|refine sb λG B=>?_|refine s2 (λh=>?_) λh=>?_|fail)
 exact M _
def qB:RF:=nv (bO Tryz.prog Tryz.f72 [] [])
abbrev A6(a b:AV)(L:SH)(Q:R):Prop:=Pc qB 20 Q 0 [] [a,b] L
def zz(j t1:AV)(L:SH)(Q:R)(h:A6 j t1 L Q):ac Tryz.prog 72 [j,t1] L Q:=
 fv qB Tryz.func72 h
end Go.Proofs.YtbofdbhnbodbiaaGreatDoor.Am
