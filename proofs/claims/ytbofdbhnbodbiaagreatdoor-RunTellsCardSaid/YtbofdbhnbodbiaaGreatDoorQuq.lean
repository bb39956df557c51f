/- A part of the proof; the statement is proved in the last part. -/
import Derived.Test.YtbofdbhnbodbiaaGreatDoorQup
set_option linter.all false
set_option maxRecDepth 100000
set_option maxHeartbeats 20000000
namespace Go.Proofs.YtbofdbhnbodbiaaGreatDoor.Am
def BU:RF:=nv (bO Tryz.prog Tryz.f9 [] [(0,[2]),(3,[7])])
abbrev IA(a b:AV)(L:SH)(Q:R):Prop:=Pc BU 20 Q 0 [] [a,b] L
def Gm(j t1:AV)(L:SH)(Q:R)(h:IA j t1 L Q):ac Tryz.prog 9 [j,t1] L Q:=
 fv BU Tryz.func9 h
def jV:RF:=nv (bO Tryz.prog Tryz.f36 [(24,⟨[2,3,43,44,45],[],true,[]⟩),(9,⟨[1,2,3,28,29,30],[],true,[]⟩)] [(0,[1]),(4,[5]),(9,[7])])
abbrev sY(Q:R):Vs->SH->Kn->Prop:=Lp jV 18 Q 24 []
abbrev sZ(Q:R):Vs->SH->Kn->Prop:=Lp jV 19 Q 9 []
abbrev ER(a:AV)(L:SH)(Q:R):Prop:=Pc jV 20 Q 0 [] [a] L
def C0(j:AV)(L:SH)(Q:R)(h:ER j L Q):ac Tryz.prog 36 [j] L Q:=
 fv jV Tryz.func36 h
def iS:RF:=nv (bO Tryz.prog Tryz.f27 [(36031,⟨[5,6,7],[],true,[]⟩),(12,⟨[2,5,6,7,15,16,17],[36031],false,[]⟩)] [(0,[2]),(5,[9]),(7,[10,11])])
abbrev kz(Q:R):Vs->SH->Prop:=Jp iS 19 Q 36031 []
abbrev AD(a:Kn):Vs->SH->Kn->Prop:=Lp iS 19 q0 12 [a]
abbrev C1(a b:AV)(L:SH)(Q:R):Prop:=Pc iS 20 Q 0 [] [a,b] L
def AE(j t1:AV)(L:SH)(Q:R)(h:C1 j t1 L Q):ac Tryz.prog 27 [j,t1] L Q:=
 fv iS Tryz.func27 h
def qr:RF:=nv (bO Tryz.prog Tryz.f38 [] [(0,[3,4]),(3,[8,9,10]),(6,[11])])
abbrev AF(a b c:AV)(L:SH)(Q:R):Prop:=Pc qr 20 Q 0 [] [a,b,c] L
def yW(j t1 t2:AV)(L:SH)(Q:R)(h:AF j t1 t2 L Q):ac Tryz.prog 38 [j,t1,t2] L Q:=
 fv qr Tryz.func38 h
def jW:RF:=nv (bO Tryz.prog Tryz.f70 [(36031,⟨[3,4,6,7,19,49],[],true,[]⟩),(18013,⟨[3,4,6,7,19,20],[],true,[]⟩)] [(0,[3,4])])
abbrev cT(a b c:AV)(L:SH)(Q:R):Prop:=Pc jW 20 Q 0 [] [a,b,c] L
def rv(j t1 t2:AV)(L:SH)(Q:R)(h:cT j t1 t2 L Q):ac Tryz.prog 70 [j,t1,t2] L Q:=
 fv jW Tryz.func70 h
def gU:RF:=nv (bO Tryz.prog Tryz.f42 [(132127,⟨[6,7,9,13],[],true,[]⟩),(111106,⟨[3,5,6,7,9,13,14,17],[],true,[]⟩),(4202,⟨[3,5,6,7,9,13,14,15,16,17],[111106],false,[]⟩),(108103,⟨[3,5,6,7,9,13,14,17,215],[111106],false,[]⟩),(96091,⟨[3,5,6,7,9,12,13,14,17,105,210],[111106],false,[]⟩),(4802,⟨[3,5,6,7,9,12,13,14,15,16,17,105],[111106],false,[]⟩),(2108,⟨[3,5,6,7,9,11,12,74],[],true,[]⟩)] [(0,[3,4,5]),(4,[11]),(10,[15]),(39,[18])])
abbrev bV(Q:R):Vs->SH->Prop:=Jp gU 18 Q 111106 []
abbrev ES(a:Kn)(b:SH)(c d e f g h i j k l:AV):Prop:=Pc gU 18 q0 4202 [a] [h,i,j,k,d,c,e,f,g,l] b
abbrev C2(a:Kn)(b:SH)(c d e f g h i j k l m n:AV):Prop:=Pc gU 18 q0 4802 [a] [i,j,k,l,e,n,d,f,g,h,m,c] b
abbrev vS(Q:R)(a b c d e f g h:AV)(i:SH):Prop:=Pc gU 19 Q 2108 [] [c,b,e,f,d,a,g,h] i
abbrev Gn(a b c:AV)(L:SH)(Q:R):Prop:=Pc gU 20 Q 0 [] [a,b,c] L
def ET(j t1 t2:AV)(L:SH)(Q:R)(h:Gn j t1 t2 L Q):ac Tryz.prog 42 [j,t1,t2] L Q:=
 fv gU Tryz.func42 h
def ez:RF:=nv (bO Tryz.prog Tryz.f74 [(3602,⟨[2,3,6,21,22,23],[9],false,[]⟩),(24,⟨[2,3,6,21,22,23,41,42,43],[9],false,[]⟩),(9,⟨[2,3,21,22,23],[],true,[]⟩)] [(0,[1]),(4,[5])])
abbrev uQ(a:Kn)(b:SH)(c d e f g h:AV):Prop:=Pc ez 17 q0 3602 [a] [f,c,d,g,h,e] b
abbrev uR(a:Kn):Vs->SH->Kn->Prop:=Lp ez 18 q0 24 [a]
abbrev lw(Q:R):Vs->SH->Kn->Prop:=Lp ez 19 Q 9 []
abbrev wW(a:AV)(L:SH)(Q:R):Prop:=Pc ez 20 Q 0 [] [a] L
def uS(j:AV)(L:SH)(Q:R)(h:wW j L Q):ac Tryz.prog 74 [j] L Q:=
 fv ez Tryz.func74 h
def mJ:RF:=nv (bO Tryz.prog Tryz.f28 [] [(0,[1])])
abbrev wX(a:AV)(L:SH)(Q:R):Prop:=Pc mJ 20 Q 0 [] [a] L
def uT(j:AV)(L:SH)(Q:R)(h:wX j L Q):ac Tryz.prog 28 [j] L Q:=
 fv mJ Tryz.func28 h
def s5:RF:=nv (bO Tryz.prog Tryz.f112 [] [])
abbrev C3(a b:AV)(L:SH)(Q:R):Prop:=Pc s5 20 Q 0 [] [a,b] L
def AG(j t1:AV)(L:SH)(Q:R)(h:C3 j t1 L Q):ac Tryz.prog 112 [j,t1] L Q:=
 fv s5 Tryz.func112 h
section
theorem fl{K:SH}{l m:List AV}(h:eP K l m:=by repeat' first|exact .nil|refine .cons ?_ ?_|exact .refl _|exact .nils):eP K l m:=h
theorem EU(i n:Int):aq Tryz.prog 112 [.U1 i,.U1 n] (.U1 (ixS i n)):=by
 refine AG _ _ _ _ ?_;refine vw ?_;generalize G:(λ(u:AV) (K:SH)=>u=AV.U1 (ixS i n)/\K=[])=Q;have hq:∀b,ixS i n=b->Q (.U1 b) []:=λb M=>by subst G;exact⟨by rw[M],rfl⟩
 clear G;by_cases h:n<1
 .have O:decide (n<1)=true:=decide_eq_true h
  repeat' (first|refine st ?_|refine sb λB j=>?_|refine s2 (λh=>?_) λh=>?_|fail)
  exact hq _ (by rw[ixS,if_pos h])
 .have O:decide (n<1)=false:=decide_eq_false h;have D:n≠0:=by omega
  by_cases E:i.tmod n<0
  .have N:decide (i.tmod n<0)=true:=decide_eq_true E
   repeat' (first|refine st ?_|refine g9 (Ed D ?_)|refine sb λB j=>?_|refine s2 (λh=>?_) λh=>?_|fail)
   exact hq _ (by rw[ixS,if_neg h,if_pos E])
  .have N:decide (i.tmod n<0)=false:=decide_eq_false E
   repeat' (first|refine st ?_|refine g9 (Ed D ?_)|refine sb λB j=>?_|refine s2 (λh=>?_) λh=>?_|fail)
   exact hq _ (by rw[ixS,if_neg h,if_neg E])
theorem ops(k:Int)(j:1<=k)(h2:k<=28):k=1\/k=2\/k=3\/k=4\/k=5\/k=6\/k=7\/k=8\/k=9\/k=10\/k=11\/k=12\/k=13\/k=14\/k=15\/k=16\/k=17\/k=18\/k=19\/k=20\/k=21\/k=22\/k=23\/k=24\/k=25\/k=26\/k=27\/k=28:=by omega
theorem ji{s:aD}{r:Int}(u:0<=r)(j:r<s.regs.length):(s.regs.map ah)[r.toNat]? =some [.U1 (s.reg r)]:=by
 have:r.toNat<s.regs.length:=by omega
 simp[aD.reg,this,ah]
theorem me{s:aD}{r:Int}(u:0<=r)(j:r<s.taint.length):(s.taint.map bC)[r.toNat]? =some [.lst ((s.tnt r).map ah)]:=by
 have:r.toNat<s.taint.length:=by omega
 simp[aD.tnt,this,bC]
theorem oF:Qd 0=.pptr [gI.map (.U1 ·)] 0 0:=rfl
section
variable {s:aD} {t op ia ib ic m site:Int} (hr:∀r∈aO ⟨op,ia,ib,ic,m,site⟩,0<=r/\r<s.regs.length) (ht:s.taint.length=s.regs.length) (hs:∀r,(s.tnt r).length*8<=140737488355328) {Q:R} (hq:∀v L,(∀K,eP K v (cS ⟨op,ia,ib,ic,m,site⟩ s t).enc)->Q (.agg v) L)
include hr ht hs hq
omit hr ht hs in
theorem Ru(u:1<=op)(h2:op<=28)(D:¬(7<=op/\op<=10)/\op≠26):cT (.agg (aT.enc ⟨op,ia,ib,ic,m,site⟩)) (.agg s.enc) (.U1 t) [] Q:=by
 refine vw ?_;rw[show aT.enc ⟨op,ia,ib,ic,m,site⟩=[.U1 op,.U1 ia,.U1 ib,.U1 ic,.U1 m,.U1 site]from rfl,oF];unfold aD.enc;rcases ops op u h2 with rfl|rfl|rfl|rfl|rfl|rfl|rfl|rfl|rfl|rfl|rfl|rfl|rfl|rfl|rfl|rfl|rfl|rfl|rfl|rfl|rfl|rfl|rfl|rfl|rfl|rfl|rfl|rfl
 all_goals first
  |(exfalso;omega)
  |skip
 all_goals
  clear u h2 D
  repeat' (first|refine st ?_|refine yi U0 U0 ?_|refine sb λB j=>?_|refine s2 (λh=>?_) λh=>?_|fail)
  exact hq _ _ (λK=>by simp[cS,cu.enc,eZ,gI,bu];exact fl)
theorem Rv(h:op=8\/op=26):cT (.agg (aT.enc ⟨op,ia,ib,ic,m,site⟩)) (.agg s.enc) (.U1 t) [] Q:=by
 refine vw ?_;rw[show aT.enc ⟨op,ia,ib,ic,m,site⟩=[.U1 op,.U1 ia,.U1 ib,.U1 ic,.U1 m,.U1 site]from rfl,oF];unfold aD.enc;rcases h with rfl|rfl
 all_goals
  obtain⟨D,G⟩:=hr ib (by simp[aO]);have E:=me (s:=s) D UW;have B:=da (s.tnt ib) (hs ib);clear hr ht hs
  repeat' (first|refine st ?_|(refine pf 113 ?_;refine pm (B) ?_)|refine sb λu j=>?_|refine s2 (λh=>?_) λh=>?_|fail)
  exact hq _ _ (λK=>by simp[cS,cu.enc,eZ,gI,bu];exact fl)
theorem Rw(h:op=10):cT (.agg (aT.enc ⟨op,ia,ib,ic,m,site⟩)) (.agg s.enc) (.U1 t) [] Q:=by
 refine vw ?_;rw[show aT.enc ⟨op,ia,ib,ic,m,site⟩=[.U1 op,.U1 ia,.U1 ib,.U1 ic,.U1 m,.U1 site]from rfl,oF];unfold aD.enc;subst h;obtain⟨D,G⟩:=hr ia (by simp[aO]);have E:=me (s:=s) D UW;have B:=da (s.tnt ia) (hs ia);clear hr ht hs
 repeat' (first|refine st ?_|(refine pf 113 ?_;refine pm (B) ?_)|refine sb λu j=>?_|refine s2 (λh=>?_) λh=>?_|fail)
 exact hq _ _ (λK=>by simp[cS,cu.enc,eZ,gI,bu];exact fl)
theorem Rx(h:op=7):cT (.agg (aT.enc ⟨op,ia,ib,ic,m,site⟩)) (.agg s.enc) (.U1 t) [] Q:=by
 refine vw ?_;rw[show aT.enc ⟨op,ia,ib,ic,m,site⟩=[.U1 op,.U1 ia,.U1 ib,.U1 ic,.U1 m,.U1 site]from rfl,oF];unfold aD.enc;subst h;obtain⟨u,G⟩:=hr ic (by simp[aO]);have N:=me (s:=s) u UW;have M:=ji (s:=s) u G;have E:=da (s.tnt ic) (hs ic);have D:=EU (s.reg ic) m;clear hr ht hs
 repeat' (first|refine st ?_|(refine pf 113 ?_;refine pm (E) ?_)|(refine pf 112 ?_;refine pm (D) ?_)|refine sb λB j=>?_|refine s2 (λh=>?_) λh=>?_|fail)
 exact hq _ _ (λK=>by simp[cS,cu.enc,eZ,gI,bu];exact fl)
theorem Ry(h:op=9):cT (.agg (aT.enc ⟨op,ia,ib,ic,m,site⟩)) (.agg s.enc) (.U1 t) [] Q:=by
 refine vw ?_;rw[show aT.enc ⟨op,ia,ib,ic,m,site⟩=[.U1 op,.U1 ia,.U1 ib,.U1 ic,.U1 m,.U1 site]from rfl,oF];unfold aD.enc;subst h;obtain⟨u,N⟩:=hr ic (by simp[aO]);obtain⟨M,Z⟩:=hr ib (by simp[aO]);have Y:=me (s:=s) u UW;have O:=me (s:=s) M UW;have S:=ji (s:=s) u N;have G:=da (s.tnt ic) (hs ic);have D:=da (s.tnt ib) (hs ib);have E:=EU (s.reg ic) m;clear hr ht hs
 repeat' (first|refine st ?_|(refine pf 113 ?_;refine pm (G) ?_)|(refine pf 113 ?_;refine pm (D) ?_)|(refine pf 112 ?_;refine pm (E) ?_)|refine sb λB j=>?_|refine s2 (λh=>?_) λh=>?_|fail)
 exact hq _ _ (λK=>by simp[cS,cu.enc,eZ,gI,bu];exact fl)
end
theorem KT(i:aT)(s:aD)(t:Int)(u:1<=i.op)(h2:i.op<=28)(hr:∀r∈aO i,0<=r/\r<s.regs.length)(ht:s.taint.length=s.regs.length)(hs:∀r,(s.tnt r).length*8<=140737488355328):aq Tryz.prog 70 [.agg i.enc,.agg s.enc,.U1 t] (.agg (cS i s t).enc):=by
 obtain⟨op,ia,ib,ic,m,site⟩:=i;refine ac.fz (rv _ _ _ _ _ ?_);dsimp only at u h2;by_cases E:op=7
 .exact Rx hr ht hs (λv L h=>⟨_,[],az.all (.aggs (h _)),rfl,rfl⟩) E
 by_cases B:op=9
 .exact Ry hr ht hs (λv L h=>⟨_,[],az.all (.aggs (h _)),rfl,rfl⟩) B
 by_cases j:op=10
 .exact Rw hr ht hs (λv L h=>⟨_,[],az.all (.aggs (h _)),rfl,rfl⟩) j
 by_cases D:op=8\/op=26
 .exact Rv hr ht hs (λv L h=>⟨_,[],az.all (.aggs (h _)),rfl,rfl⟩) D
 exact Ru (λv L h=>⟨_,[],az.all (.aggs (h _)),rfl,rfl⟩) u h2 UW
end
def cu.zero:cu:=⟨0,0,0,0,0,[],[]⟩
def vT(e:Option cu):AV:=match e with
 |some e=>.tup [.agg e.enc,.bool true]
 |none=>.tup [.agg cu.zero.enc,.bool false]
def s6(c:eB):Prop:=∀i∈c.ins,1<=i.op/\i.op<=28/\∀r∈aO i,0<=r/\r<c.regs
def gv{α:Type}{f:α->List AV}{l:List α}{i:Int}{d:α}(h:inB i l.length=true):(l.map f)[i.toNat]? =some (f (l.getD i.toNat d)):=by
 obtain⟨u,j⟩:=av.1 h;have:i.toNat<l.length:=by omega
 simp[this]
def eI{α:Type}{l:List α}{i:Int}{d:α}(h:inB i l.length=true):l.getD i.toNat d∈l:=by
 obtain⟨u,j⟩:=av.1 h;have:i.toNat<l.length:=by omega
 simp[this]
def O0{op:Int}(j:1<=op)(h2:op<=28):(gI.map (AV.U1 ·))[0+op.toNat*1]? =some (AV.U1 (eZ op)):=by rcases ops op j h2 with rfl|rfl|rfl|rfl|rfl|rfl|rfl|rfl|rfl|rfl|rfl|rfl|rfl|rfl|rfl|rfl|rfl|rfl|rfl|rfl|rfl|rfl|rfl|rfl|rfl|rfl|rfl|rfl<;>rfl
def MK(c:aY)(s:cy)(t:Int)(hi:∀x∈c.ts,s6 x)(hs:∀x∈s.threads,∀r,(x.tnt r).length*8<=140737488355328):aq Tryz.prog 38 [.agg c.enc,.agg s.enc,.U1 t] (vT (co c s t)):=by
 refine ac.fz (yW _ _ _ _ _ ?_);refine vw ?_;generalize hQ:(λ(v:AV) (L:SH)=>∃v2 L2,az [v] L [v2] L2/\v2=vT (co c s t)/\L2=[])=Q;have no:gT c s t=false->∀L,Q (.tup [.agg [.U1 0,.U1 0,.U1 0,.U1 0,.U1 0,.nils,.nils],.bool false]) L:=λh L=>by subst hQ;exact⟨_,[],az.all (Fz.tups (.cons (Fz.aggs (m:=cu.zero.enc) (by exact fl)) (.cons (.refl _) .nil))),by rw[co,h];rfl,rfl⟩
 have D:co c s t=none->∀L,Q (.tup [.agg [.U1 0,.U1 0,.U1 0,.U1 0,.U1 0,.nils,.nils],.bool false]) L:=λh L=>by subst hQ;exact⟨_,[],az.all (Fz.tups (.cons (Fz.aggs (m:=cu.zero.enc) (by exact fl)) (.cons (.refl _) .nil))),by rw[h];rfl,rfl⟩
 have j:∀e v,co c s t=some e->(∀K,eP K v e.enc)->∀L,Q (.tup [.agg v,.bool true]) L:=λe v h hv L=>by subst hQ;exact⟨_,[],az.all (Fz.tups (.cons (Fz.aggs (hv _)) (.cons (.refl _) .nil))),by rw[h];rfl,rfl⟩
 clear hQ;by_cases h0:inB t c.ts.length=true/\inB t s.threads.length=true/\inB t s.sync.threads.length=true
 .obtain⟨S,O,i3⟩:=h0;have x1:(c.ts.map eB.enc)[t.toNat]? =some (ao c t).enc:=gv S;have x2:(s.threads.map aD.enc)[t.toNat]? =some (ay s t).enc:=gv O;have x3:(s.sync.threads.map ThrD.enc)[t.toNat]? =some (aR s.sync t).enc:=gv i3;have M:s6 (ao c t):=hi _ (eI S);have E:=hs _ (eI (d:=aD.zero) O);rw[show s.threads.getD t.toNat aD.zero=ay s t from rfl]at E;have hr:gT c s t=(inB (ay s t).pc (ao c t).ins.length&&decide (((ay s t).regs.length:Int)=(ao c t).regs)&&decide (((ay s t).taint.length:Int)=(ao c t).regs)):=by simp only[gT,S,O,i3,Bool.true_and]
  have i1':=av.1 S;have i2':=av.1 O;have i3':=av.1 i3;have d1:decide (t<0)=false:=decide_eq_false UW;have d2:decide (t>=c.ts.length)=false:=decide_eq_false UW;have d3:decide (t>=s.threads.length)=false:=decide_eq_false UW;have d4:decide (t>=s.sync.threads.length)=false:=decide_eq_false UW;clear S O i3;unfold aY.enc cy.enc;by_cases Y:gT c s t=true
  .have G:=Y;rw[hr]at G;simp only[Ty,decide_eq_true_eq]at G;obtain⟨⟨Z,j2⟩,j3⟩:=G;have x4:((ao c t).ins.map aT.enc)[(ay s t).pc.toNat]? =some (bH (ao c t) (ay s t).pc).enc:=bS Z;have j1':=av.1 Z;have d5:decide ((ay s t).pc<0)=false:=decide_eq_false UW;have d6:decide ((ay s t).pc>=(ao c t).ins.length)=false:=decide_eq_false UW;have d7:decide (((ay s t).regs.length:Int)≠(ao c t).regs)=false:=decide_eq_false (by simpa using j2);have d8:decide (((ay s t).taint.length:Int)≠(ao c t).regs)=false:=decide_eq_false (by simpa using j3);obtain⟨o1,o2,o3⟩:=M _ (eI (d:=default) Z);rw[show(ao c t).ins.getD (ay s t).pc.toNat default=bH (ao c t) (ay s t).pc from rfl]at o1 o2 o3;have hp:co c s t=(if(aR s.sync t).status=1 then some ⟨t,1,-1,0,-1,[],[]⟩
    else if(aR s.sync t).status=4 then some ⟨t,17,(aR s.sync t).cond,0,(bH (ao c t) (ay s t).pc).site,[],[]⟩
    else if(aR s.sync t).status=2 then(if eZ (bH (ao c t) (ay s t).pc).op≠0 then some (cS (bH (ao c t) (ay s t).pc) (ay s t) t)else none)
    else none):=by rw[co,if_pos Y]
   rw[hp]at j D;have hin:=KT (bH (ao c t) (ay s t).pc) (ay s t) t o1 o2 (λr hr2=>by have:=o3 r hr2;omega) UW E;clear hp hr Y no hs hi Z j2 j3 M E o3;have kd:=O0 o1 o2;have h29:(bH (ao c t) (ay s t).pc).op.toNat<29:=by omega
   have h00:0<=(bH (ao c t) (ay s t).pc).op:=by omega
   generalize bH (ao c t) (ay s t).pc=i at *;generalize ao c t=ct at *;generalize ay s t=ts at *;generalize aR s.sync t=th at *;obtain⟨op,ia,ib,ic,m,u⟩:=i;rw[show aT.enc ⟨op,ia,ib,ic,m,u⟩=[.U1 op,.U1 ia,.U1 ib,.U1 ic,.U1 m,.U1 u]from rfl]at *;dsimp only at *;unfold eB.enc aD.enc ThrD.enc at *
   repeat' (first|refine st ?_|refine yi h00 h29 ?_|refine Ee rfl kd ?_|(refine pf 70 ?_;refine pm (hin) ?_)|refine sb λN B=>?_|refine s2 (λh=>?_) λh=>?_|fail)
   .exact j _ _ (if_pos (by simpa using ‹decide (th.status=1)=true›)) (λK=>by exact fl) _
   .exact j _ _ (by rw[if_neg (by simpa using ‹decide (th.status=1)=false›),if_pos (by simpa using ‹decide (th.status=4)=true›)]) (λK=>by exact fl) _
   .refine j _ _ (by rw[if_neg (by simpa using ‹decide (th.status=1)=false›),if_neg (by simpa using ‹decide (th.status=4)=false›),if_pos (by simpa using ‹decide (th.status=2)=true›),if_pos (by simp_all)]) (λK=>?_) _;exact fl
   .refine D ?_ _;rw[if_neg (by simpa using ‹decide (th.status=1)=false›),if_neg (by simpa using ‹decide (th.status=4)=false›),if_pos (by simpa using ‹decide (th.status=2)=true›),if_neg (by simp_all)]
   .refine D ?_ _;rw[if_neg (by simpa using ‹decide (th.status=1)=false›),if_neg (by simpa using ‹decide (th.status=4)=false›),if_neg (by simpa using ‹decide (th.status=2)=false›)]
  .have hz:=no (by simpa using Y);rw[hr]at Y;generalize ao c t=ct at *;generalize ay s t=ts at *;generalize aR s.sync t=th at *;unfold eB.enc aD.enc ThrD.enc at *
   repeat' (first|refine st ?_|refine sb λN B=>?_|refine s2 (λh=>?_) λh=>?_|fail)
   all_goals first
    |exact hz _
    |(exfalso;simp_all[inB]<;>omega)
 .have hn:gT c s t=false:=by unfold gT;simp only[Bool.and_eq_false_iff];simp only[not_and,Bool.not_eq_true]at h0;cases h1:inB t c.ts.length<;>cases h2:inB t s.threads.length<;>simp_all
  have hz:=no hn;unfold aY.enc cy.enc
  repeat' (first|refine st ?_|refine sb λN B=>?_|refine s2 (λh=>?_) λh=>?_|fail)
  all_goals first
   |exact hz _
   |(exfalso;simp_all[inB]<;>omega)
def oG{b B i k n by_:Nat}{rows m:List (List AV)}{L D:SH}{KL:AV->SH->Prop}(N:(B,(⟨n,m⟩:Blk))∈L)(u:eO b ⟨n,rows⟩ L D)(E:rows.length=i)(G:k=m.length)(h2:2*(i+m.length)*by_<=2^48)(O:2*(i+m.length)<=2^62)(h4:(m.all λr=>r.all AV.one)=true)
  (h:∀j,j∉L.names->KL (.sl j 0 (i+m.length)) ((j,⟨n,rows++m⟩)::D)):W.append n by_ (.sl b 0 i) (.sl B 0 k) L KL:=by
 subst G;subst E;exact jM (y:=⟨n,rows⟩) (l:=rows) u.mem' rfl UZ UZ (jN N rfl rfl) h2 O h4 u (λj M=>h j M)
def NX(pc ev:Int)(g:AV)(t:List (List Int))(h1:t.length<=2^30)(S:∀l∈t,l.length<=2^30)(x1 x2 x4 x5 x6:AV)(b bt:Nat)(R:SH)(E:W.Kn)
  (G:∀D,uQ E ((D,⟨1,t.map bC⟩)::(b,⟨4,[[.U1 pc,g,.sl D 0 t.length,.U1 ev]]⟩)::R) x2 (.ptr b 0 0) x6 x1 x4 x5) :
  W.loop (uR E) [x1,x2,.ptr b 0 0,x4,x5,x6,.lst (t.map bC),.U1 t.length,.U1 (0:Nat)] ((bt,⟨1,[]⟩)::(b,⟨4,[[.U1 pc,g,.sl bt 0 0,.U1 ev]]⟩)::R):=by
 refine bz t.length (λk (D:Nat)=>([x1,x2,.ptr b 0 0,x4,x5,x6,.lst (t.map bC),.U1 t.length,.U1 k],(D,⟨1,(t.take k).map bC⟩)::(b,⟨4,[[.U1 pc,g,.sl D 0 k,.U1 ev]]⟩)::R)) (λ_ _=>True) bt trivial (.refl _ _) ?_;intro k D Z _;dsimp only;refine vw ?_;rcases Nat.lt_or_ge k t.length with B|B
 .have O:=aS B;have Y:=am (f:=bC) B;have M:(t[k]).length*8<=140737488355328:=by have:=S _ (Tk B);omega
  repeat' (first|refine st ?_|(refine pf 113 ?_;refine pm (da _ M) ?_)|refine oG rp rp (by simp;omega) rfl (by simp;omega) (by simp;omega) rfl (λu j=>?_)|refine sb λu j=>?_|refine s2 (λh=>?_) λh=>?_|fail)
  refine⟨k+1,u,UW,UW,trivial,?_⟩;rw[aw B UW,Th B,Ti];exact az.forget (K:=[(_,_)]) (List.Perm.swap _ _ _)
 .have O:=aX B;have N:k=t.length:=by omega
  subst N;have:=G D;rw[TH (Te _)]
  repeat' (first|exact this|refine st ?_|refine sb λu j=>?_|refine s2 (λh=>?_) λh=>?_|fail)
def AH(q:Nat)(o:Option Nat)(tb:Nat)(j:Nat)(s:aD):List AV:=if j=q then [.U1 s.pc,aK o s.regs.length,.sl tb 0 s.taint.length,.U1 s.ev]else s.enc
def iH(q:Nat)(o:Option Nat)(tb:Nat)(l:List aD):List (List AV):=l.zipIdx.map λp=>AH q o tb p.2 p.1
def dB(q:Nat)(o:Option Nat)(tb:Nat)(l:List aD):(iH q o tb l).length=l.length:=by simp[iH]
def s7(q:Nat)(o:Option Nat)(tb:Nat)(l:List aD)(j:Nat)(u:j<l.length):(iH q o tb l)[j]? =some (AH q o tb j l[j]):=by simp[iH,u]
def yX(q:Nat)(o D:Option Nat)(tb u:Nat)(l:List aD)(k:Nat)(E:k<l.length)(h:k<=q\/(o=D/\tb=u)):(iH q D u l).take (k+1)=(iH q o tb l).take k++[AH q D u k l[k]]:=by
 apply Us;intro j;rcases Nat.lt_trichotomy j k with B|B|B
 .rw[Tq (by simp[dB];omega),TU B,TU UW,s7 _ _ _ _ _ UW,s7 _ _ _ _ _ UW];rcases h with h|⟨rfl,rfl⟩
  .simp[AH,show j≠q by omega]
  .rfl
 .subst B;rw[TU UW,s7 _ _ _ _ _ E,Tm (by simp[dB];omega)];simp[dB,Ud (Nat.le_of_lt E)]
 .rw[Tg (by simp;omega),Tg (by simp[dB];omega)]
def oH(q:Nat)(o:Option Nat)(tb:Nat)(l:List aD)(k:Nat):SH:=if q<k then ab o 1 ((l.getD q aD.zero).regs.map ah)++[(tb,⟨1,(l.getD q aD.zero).taint.map bC⟩)]else []
structure O1(s:cy)(q:Nat)(v:AV)(L:SH):Prop where
 ex:∃(oc of:Option Nat) (bt:Nat) (o:Option Nat) (tb:Nat),v=.agg [.nils,.U1 0,.nils,.nils,aK oc s.cells.length,aK of s.futures.length,.sl bt 0 s.threads.length]/\
  L=(bt,⟨4,iH q o tb s.threads⟩)::(oH q o tb s.threads s.threads.length++(ab oc 1 (s.cells.map ah)++ab of 1 (s.futures.map ah)))/\(oc=none->s.cells=[])/\(of=none->s.futures=[])/\(o=none->q<s.threads.length->(s.threads.getD q aD.zero).regs=[])
def aC:List AV:=[.nils,.U1 0,.nils,.nils,.nils,.nils,.nils]
def ML(l:List aD)(q N b2 bt:Nat)(x y:AV)(hx:x=.lst []\/∃b n,x=.sl b 0 n)(hy:y=.lst []\/∃b n,y=.sl b 0 n)(E L0:SH)(hL0:L0.Perm ((bt,⟨4,[]⟩)::(b2,⟨7,[[.nils,.U1 0,.nils,.nils,x,y,.sl bt 0 0]]⟩)::(N,⟨7,[aC]⟩)::E))(h1:l.length<=2^30)(hr:∀s∈l,s.regs.length<2^40/\s.taint.length<=2^30/\∀r∈s.taint,r.length<=2^30)(Q:R)
  (hend:∀(o:Option Nat) (tb bt:Nat) (z:List AV),(o=none->q<l.length->(l.getD q aD.zero).regs=[])->Q (.agg [.nils,.U1 0,.nils,.nils,x,y,.sl bt 0 l.length]) ((bt,⟨4,iH q o tb l⟩)::(b2,⟨7,[[.nils,.U1 0,.nils,.nils,x,y,.sl bt 0 l.length]]⟩)::(N,⟨7,[z]⟩)::(oH q o tb l l.length++E))) :
  W.loop (lw Q) [.ptr N 0 0,.ptr b2 0 0,.lst (l.map aD.enc),.U1 l.length,.U1 (0:Nat)] L0:=by
 refine bz l.length (λk (p:Nat×Option Nat×Nat)=>([.ptr N 0 0,.ptr b2 0 0,.lst (l.map aD.enc),.U1 l.length,.U1 k],(p.1,⟨4,(iH q p.2.1 p.2.2 l).take k⟩)::(b2,⟨7,[[.nils,.U1 0,.nils,.nils,x,y,.sl p.1 0 k]]⟩)::(N,⟨7,[aC]⟩)::(oH q p.2.1 p.2.2 l k++E))) (λk p=>p.2.1=none->q<k->(l.getD q aD.zero).regs=[]) (bt,none,0) (λ_ h=>by omega) (az.forget (K:=[]) (by simpa[oH]using hL0)) ?_;rintro k ⟨bt,o,tb⟩ hk ho;dsimp only at ho ⊢;refine vw ?_;rcases Nat.lt_or_ge k l.length with G|G
 .have hd:=aS G;have hxx:=am (f:=aD.enc) G;obtain⟨r1,r2,r3⟩:=hr _ (Tk G);generalize hT:oH q o tb l k++E=T;clear hx hy
  repeat' (first|refine st ?_|refine sb λB u=>?_|fail)
  refine yB (pi _ UW) (by simp[rm,rz,W.free,af]) ?_;rintro v K ⟨M,rfl,rfl,ho'⟩
  skip
  have fin:∀(S O nb D:Nat) (xa xb:Blk) (L:SH),uo L ((S,xa)::(O,xb)::(ab M 1 ((l[k]).regs.map ah)++[(D,⟨1,(l[k]).taint.map bC⟩)])) ((nb,⟨4,(iH q o tb l).take k++[[.U1 (l[k]).pc,aK M (l[k]).regs.length,.sl D 0 (l[k]).taint.length,.U1 (l[k]).ev]]⟩)::(b2,⟨7,[[.nils,.U1 0,.nils,.nils,x,y,.sl nb 0 (k+1)]]⟩)::(N,⟨7,[aC]⟩)::T)->
    ∃(j:Nat) (p:Nat×Option Nat×Nat),k<j/\j<=l.length/\(p.2.1=none->q<j->(l.getD q aD.zero).regs=[])/\az [.ptr N 0 0,.ptr b2 0 0,.lst (l.map aD.enc),.U1 l.length,.U1 (IntKind.i64.wrap ((k:Int)+1))] L
     [.ptr N 0 0,.ptr b2 0 0,.lst (l.map aD.enc),.U1 l.length,.U1 j] ((p.1,⟨4,(iH q p.2.1 p.2.2 l).take j⟩)::(b2,⟨7,[[.nils,.U1 0,.nils,.nils,x,y,.sl p.1 0 j]]⟩)::(N,⟨7,[aC]⟩)::(oH q p.2.1 p.2.2 l j++E)):=by
   intro S O nb D xa xb L h;have hp:=h.perm.trans Tt;subst hT;rw[aw G UW];by_cases hkq:k=q
   .subst hkq;refine⟨k+1,(nb,M,D),UW,UW,λe _=>by simpa[List.getD,G]using ho' e,?_⟩;dsimp only;rw[yX k o M tb D l k G (.inl (Nat.le_refl _))];have e1:oH k o tb l k=[]:=by simp[oH]
    have e2:oH k M D l (k+1)=ab M 1 ((l[k]).regs.map ah)++[(D,⟨1,(l[k]).taint.map bC⟩)]:=by simp[oH,List.getD,G]
    have e3:AH k M D k l[k]=[.U1 (l[k]).pc,aK M (l[k]).regs.length,.sl D 0 (l[k]).taint.length,.U1 (l[k]).ev]:=by simp[AH]
    rw[e1]at hp;rw[e2,e3];refine az.forget (K:=[(S,xa),(O,xb)]) (hp.trans ?_);refine List.Perm.append_left [(S,xa),(O,xb)] ?_;exact List.perm_append_comm_assoc _ [_,_,_] E
   .refine⟨k+1,(nb,o,tb),UW,UW,λe hq=>ho e UW,?_⟩;dsimp only;have e1:oH q o tb l (k+1)=oH q o tb l k:=by
     by_cases hq:q<k
     .simp[oH,hq,show q<k+1 by omega]
     .simp[oH,hq,show¬q<k+1 by omega]
    rw[e1,yX q o o tb tb l k G (.inr ⟨rfl,rfl⟩)];refine az.row hp UZ ?_;intro j r r' Y q2;rcases Tf j ((iH q o tb l).take k).length with hj|hj
    .rw[Tq hj]at Y q2;rw[Y]at q2;cases q2;exact eP.refl _ _
    .rw[Tm hj]at Y q2;rcases hm:j-((iH q o tb l).take k).length with _|m
     .rw[hm]at Y q2;cases Y;cases q2;rw[show AH q o tb k l[k]=(l[k]).enc by simp[AH,hkq]];refine .cons (.refl _) (.cons ?_ (.cons ?_ (.cons (.refl _) .nil)))
      .exact fF rfl ho' λb e=>by subst e;simp[ab]
      .exact fF (o:=some D) rfl nofun λb e=>by cases e;simp
     .rw[hm]at Y;simp at Y
  cases M with
  |none=>
   dsimp only[aK,ab,List.nil_append]
   repeat' (first|refine st ?_|refine sb λB u=>?_|fail)
   refine fD (i:=0) (j:=l[k].taint.length) UW UW UW (λZ _=>?_)
   repeat' (first|refine st ?_|refine sb λB u=>?_|fail)
   refine NX l[k].pc l[k].ev _ l[k].taint r2 r3 _ _ _ _ _ _ Z _ _ (λD=>?_);refine vw ?_
   repeat' (first|refine st ?_|refine oG rp rp (by simp[dB];omega) rfl (by simp[dB];omega) (by simp[dB];omega) rfl (λB u=>?_)|refine sb λB u=>?_|fail)
   rename_i S _ _ O _;exact fin S O B D _ _ _ rp
  |some c'=>
   dsimp only[aK,ab,List.cons_append,List.nil_append]
   repeat' (first|refine st ?_|refine sb λB u=>?_|fail)
   refine fD (i:=0) (j:=l[k].taint.length) UW UW UW (λZ _=>?_)
   repeat' (first|refine st ?_|refine sb λB u=>?_|fail)
   refine NX l[k].pc l[k].ev _ l[k].taint r2 r3 _ _ _ _ _ _ Z _ _ (λD=>?_);refine vw ?_
   repeat' (first|refine st ?_|refine oG rp rp (by simp[dB];omega) rfl (by simp[dB];omega) (by simp[dB];omega) rfl (λB u=>?_)|refine sb λB u=>?_|fail)
   rename_i S _ _ O _;exact fin S O B D _ _ _ rp
 .have hd:=aX G;have hk0:k=l.length:=by omega
  subst hk0;have:=λz=>hend o tb bt z ho
  rw[TH (by rw[dB];exact Te _)];unfold aC;rcases hx with rfl|⟨_,_,rfl⟩<;>rcases hy with rfl|⟨_,_,rfl⟩
  all_goals
   repeat' (first|refine st ?_|refine sb λB u=>?_|refine s2 (λh=>?_) λh=>?_|fail)
   exact this _
def s8(o:Option Nat)(n:Nat):aK o n=.lst []\/∃b m,aK o n=.sl b 0 m:=by
 cases o with
 |none=>exact .inl rfl
 |some b=>exact .inr ⟨b,n,rfl⟩
def MM(s:cy)(q:Nat)(h1:s.threads.length<=2^30)(h2:s.cells.length<2^40)(h3:s.futures.length<2^40)(hr:∀e∈s.threads,e.regs.length<2^40/\e.taint.length<=2^30/\∀r∈e.taint,r.length<=2^30):
  ac Tryz.prog 74 [.agg s.enc] [] (O1 s q):=by
 refine ac.fz (uS _ _ _ ?_);refine vw ?_;generalize hQ:(λ(v:AV) (L:SH)=>∃v2 L2,az [v] L [v2] L2/\O1 s q v2 L2)=Q;unfold cy.enc
 repeat' (first|refine st ?_|refine sb λu D=>?_|fail)
 revert u;intro Y _;refine yB (pi s.cells UW) (by simp[rm,rz,W.free,af]) ?_;rintro v K ⟨N,rfl,rfl,Z⟩
 skip
 have O:∀(G:Option Nat) (S M:Nat) (L:SH),(G=none->s.futures=[])->uo L ((M,⟨4,[]⟩)::(S,⟨7,[[.nils,.U1 0,.nils,.nils,aK N s.cells.length,aK G s.futures.length,.sl M 0 0]]⟩)::(Y,⟨7,[aC]⟩)::(ab N 1 (s.cells.map ah)++ab G 1 (s.futures.map ah))) []->
   W.loop (lw Q) [.ptr Y 0 0,.ptr S 0 0,.lst (s.threads.map aD.enc),.U1 s.threads.length,.U1 (0:Nat)] L:=by
  intro G S M L B hL;refine ML s.threads q Y S M _ _ (s8 _ _) (s8 _ _) _ L (by simpa using hL.perm) h1 hr Q ?_;intro o tb M z ho;subst hQ;refine⟨_,_,az.forget (K:=[(S,_),(Y,_)]) (R:=(M,⟨4,iH q o tb s.threads⟩)::(oH q o tb s.threads s.threads.length++(ab N 1 (s.cells.map ah)++ab G 1 (s.futures.map ah)))) ((List.Perm.swap _ _ _).trans ((List.Perm.swap _ _ _).cons _)),⟨N,G,M,o,tb,rfl,rfl,Z,B,ho⟩⟩
 cases N
 all_goals
  dsimp only[aK,ab,List.nil_append,List.cons_append]at O ⊢
  repeat' (first|refine st ?_|refine sb λu D=>?_|fail)
  refine yB (pi s.futures UW) (by simp[rm,rc,rz,W.free,af]) ?_;rintro v K ⟨G,rfl,rfl,B⟩
  skip
  cases G
  all_goals
   dsimp only[aK,ab,List.nil_append,List.cons_append]
   repeat' (first|refine st ?_|refine sb λu D=>?_|fail)
   refine fD (i:=0) (j:=s.threads.length) UW UW UW (λE _=>?_)
   repeat' (first|refine st ?_|refine sb λu D=>?_|fail)
 .exact O none u E _ B rp
 .exact O (some _) u E _ B rp
 .exact O none u E _ B rp
 .exact O (some _) u E _ B rp
section
def cH:List AV:=[.U1 0,.U1 0,.U1 0,.U1 0,.U1 0,.nils,.nils]
theorem dG{α:Type}{l:List α}{n:Nat}(r:α)(h:n<l.length):(l.set n r)[n]? =some r:=by simp[h]
theorem az.rowV{vs u:List AV}{L K R:SH}{b n:Nat}{rows rows':List (List AV)}(S:L.Perm (K++(b,⟨n,rows⟩)::R))(G:eP K vs u)(B:rows.length=rows'.length)(O:∀(j:Nat) (r E:List AV),rows[j]? =some r->rows'[j]? =some E->eP K r E):az vs L u ((b,⟨n,rows'⟩)::R):=by
 refine⟨K,(b,⟨n,rows⟩)::R,S,⟨G.at_.1,G.at_.2⟩,rfl,λi p q h1 D=>?_⟩
 match i with
 |0=>cases h1;cases D;exact⟨rfl,rfl,B,λj s s2 g1 g2=>(O j s s2 g1 g2).at_⟩
 |i+1=>simp only[UA]at h1 D;rw[h1]at D;cases D;exact⟨rfl,rfl,rfl,λj r r2 Z N=>by rw[Z]at N;cases N;exact⟨rfl,λk a a2 Y M=>by rw[Y]at M;cases M;exact .refl _⟩⟩
theorem O2{α:Type}(B K j u:List α)(x:α)(h:u.Perm (K++j)):(B++x::u).Perm (K++x::(B++j)):=
 Up.trans ((((h.append_left B).trans (List.perm_append_comm_assoc _ _ _)).cons x).trans Up.symm)
theorem O3{α:Type}(A B K j u:List α)(x:α)(h:(A++u).Perm (K++j)):(A++(B++x::u)).Perm (K++x::(B++j)):=
 (List.perm_append_comm_assoc A B _).trans ((Up.append_left B).trans (O2 B K j (A++u) x h))
section
variable (c:aY) (l:List aD) (t wake:Int) (h1:inB t l.length=true) (hc:inB t c.ts.length=true) (p pc0 ev0:Int) (rg:List Int) (tn:List (List Int)) (g1 g2:AV) (sy:SyncD) (x y:AV) (hx:x=.lst []\/∃b n,x=.sl b 0 n) (hy:y=.lst []\/∃b n,y=.sl b 0 n)
 (e1 ek eo ev es:Int) (d f:List Int) (b132 b24 b8 b6 bt:Nat) (K RZ RR A:SH) (hA:A=[]\/∃q,A=[q]) (hR:(A++RR).Perm (K++RZ)) (hg:Fz K g1 (.lst (rg.map ah))) (hg2:Fz K g2 (.lst (tn.map bC)))
 (hn1:b24≠b6) (go1:g1.one=true) (go2:g2.one=true) (Q:R)
include h1 hc hn1 hx hy hA hR hg hg2
theorem Rz (zs : List AV) (hzs : zs = aC) (ze : List AV) (hze : ze = cH) (Z : aq Tryz.prog 75 [.agg (ao c t).enc, .agg (aD.mk p rg tn (IntKind.i64.wrap (ev0 + 1))).enc] (l8 (aU (ao c t) ⟨p, rg, tn, IntKind.i64.wrap (ev0 + 1)⟩)))
    (N:(ek=16\/ek=2)->∀L,(bt,⟨4,(l.map aD.enc).set t.toNat [.U1 p,g1,g2,.U1 (IntKind.i64.wrap (ev0+1))]⟩)∈L->(∀q∈RR,q∈L)->Q (.tup [.agg [.lst (sy.locks.map LockD.enc),.U1 sy.tx,.lst (sy.done.map aB),.lst (sy.threads.map ThrD.enc),x,y,.sl bt 0 l.length],.agg [.U1 e1,.U1 ek,.U1 eo,.U1 ev,.U1 es,.lst (d.map ah),.lst (f.map ah)],.bool true]) L)
    (E:(ek≠16/\ek≠2)->∀th,aU (ao c t) ⟨p,rg,tn,IntKind.i64.wrap (ev0+1)⟩=(th,true)->∀L,(bt,⟨4,(l.map aD.enc).set t.toNat th.enc⟩)∈L->(∀q∈RZ,q∈L)->Q (.tup [.agg [.lst (sy.locks.map LockD.enc),.U1 sy.tx,.lst (sy.done.map aB),.lst (sy.threads.map ThrD.enc),x,y,.sl bt 0 l.length],.agg [.U1 e1,.U1 ek,.U1 eo,.U1 ev,.U1 es,.lst (d.map ah),.lst (f.map ah)],.bool true]) L)
    (D:(ek≠16/\ek≠2)->(aU (ao c t) ⟨p,rg,tn,IntKind.i64.wrap (ev0+1)⟩).2=false->∀L,Q (.tup [.agg aC,.agg cH,.bool false]) L) :
    bV Q [.pptr [c.enc] 0 0,.pptr [[.U1 t,.U1 wake]] 0 0,.ptr b6 0 0,.ptr b8 0 0,.ptr b24 0 0,.ptr b132 0 0,.ptr bt t.toNat 0,.U1 p]
      (A++(b132,⟨7,[[.lst (sy.locks.map LockD.enc),.U1 sy.tx,.lst (sy.done.map aB),.lst (sy.threads.map ThrD.enc),x,y,.sl bt 0 l.length]]⟩)::(b24,⟨7,[[.U1 e1,.U1 ek,.U1 eo,.U1 ev,.U1 es,.lst (d.map ah),.lst (f.map ah)]]⟩)::(b8,⟨7,[ze]⟩)::(b6,⟨7,[zs]⟩)::(bt,⟨4,(l.map aD.enc).set t.toNat [.U1 pc0,g1,g2,.U1 ev0]⟩)::RR):=by
  obtain⟨i1,i2⟩:=av.1 h1;have G:t.toNat<(l.map aD.enc).length:=by simp;omega
  have x1:(c.ts.map eB.enc)[t.toNat]? =some (ao c t).enc:=gv hc;have y1:=av.1 hc;have s0:=dG [AV.U1 pc0,g1,g2,.U1 ev0] G;have s1:=dG (l:=(l.map aD.enc).set t.toNat [.U1 pc0,g1,g2,.U1 ev0]) [AV.U1 p,g1,g2,.U1 ev0] (by rw[UE];exact G);have s2:=dG (l:=((l.map aD.enc).set t.toNat [.U1 pc0,g1,g2,.U1 ev0]).set t.toNat [.U1 p,g1,g2,.U1 ev0]) [AV.U1 p,g1,g2,.U1 (IntKind.i64.wrap (ev0+1))] (by rw[UE,UE];exact G);subst hzs;subst hze;unfold aC cH;refine vw ?_;unfold aY.enc;generalize hE:aU (ao c t) ⟨p,rg,tn,IntKind.i64.wrap (ev0+1)⟩=z at *;by_cases hk:ek=16\/ek=2
  · have N:=N hk
    clear E D;have fin:∀(x y:AV) (L:SH),True:=λ_ _ _=>trivial
    rcases hk with rfl|rfl<;>rcases hA with rfl|⟨q,rfl⟩<;>rcases hx with rfl|⟨_,_,rfl⟩<;>rcases hy with rfl|⟨_,_,rfl⟩
    all_goals
      dsimp only[List.nil_append,List.cons_append]
      repeat' (first|refine st ?_|refine sb λM u=>?_|refine s2 (λh=>?_) λh=>?_|fail)
      refine N _ ?_ (λq hq=>by simp[hq]);simp[List.set_set]
  · have d1:decide (ek≠16)=true:=decide_eq_true UW
    have d2:decide (ek≠2)=true:=decide_eq_true UW;have E:=E UW;have D:=D UW;clear N;have hz : ∀ B : SH, az [.agg (ao c t).enc, .agg [.U1 p, g1, g2, .U1 (IntKind.i64.wrap (ev0 + 1))]] (A ++ (B ++ (bt, ⟨4, (((l.map aD.enc).set t.toNat [.U1 pc0, g1, g2, .U1 ev0]).set t.toNat [.U1 p, g1, g2, .U1 ev0]).set t.toNat [.U1 p, g1, g2, .U1 (IntKind.i64.wrap (ev0 + 1))]⟩) :: RR))
        [.agg (ao c t).enc,.agg (aD.mk p rg tn (IntKind.i64.wrap (ev0+1))).enc] ((bt,⟨4,(l.map aD.enc).set t.toNat (aD.mk p rg tn (IntKind.i64.wrap (ev0+1))).enc⟩)::(B++RZ)):=λB=>by
      have O:eP K [.U1 p,g1,g2,.U1 (IntKind.i64.wrap (ev0+1))] (aD.mk p rg tn (IntKind.i64.wrap (ev0+1))).enc:=.cons (.refl _) (.cons hg (.cons hg2 (.cons (.refl _) .nil)));refine az.rowV (O3 A B K RZ RR _ hR) (.cons (.refl _) (.cons (Fz.aggs O) .nil)) UZ ?_;intro j r r' Y S;simp only[List.set_set]at Y;rw[TF]at Y S;by_cases hj:t.toNat=j
      · rw[if_pos hj,if_pos G]at Y S
        cases Y;cases S;exact O
      · rw[if_neg hj]at Y S
        rw[Y]at S;cases S;exact eP.refl _ _
    have s3:=dG (aD.mk p rg tn (IntKind.i64.wrap (ev0+1))).enc G;obtain⟨th,ok⟩:=z;rcases hA with rfl|⟨q,rfl⟩
    · rcases ok with _|_<;>rcases hx with rfl|⟨_,_,rfl⟩<;>rcases hy with rfl|⟨_,_,rfl⟩
      all_goals
        dsimp only[List.nil_append,List.cons_append]
        repeat' (first|refine st ?_|refine sb λM u=>?_|refine s2 (λh=>?_) λh=>?_|fail)
        refine l5 (ac.pre (hz [_,_,_,_]) (Z.call (KL:=λv K'=>v=_/\K'=_) ⟨rfl,rfl⟩)) ?_;rintro _ _ ⟨rfl,rfl⟩;unfold l8;dsimp only[List.nil_append,List.cons_append]
        repeat' (first|refine st ?_|refine sb λM u=>?_|refine s2 (λh=>?_) λh=>?_|fail)
        first
          |exact D rfl _
          | (refine E _ rfl _ ?_ (fun q hq => by simp [hq])
             simp[List.set_set])
    · rcases ok with _|_<;>rcases hx with rfl|⟨_,_,rfl⟩<;>rcases hy with rfl|⟨_,_,rfl⟩
      all_goals
        dsimp only[List.nil_append,List.cons_append]
        repeat' (first|refine st ?_|refine sb λM u=>?_|refine s2 (λh=>?_) λh=>?_|fail)
        refine l5 (ac.pre (hz [_,_,_,_]) (Z.call (KL:=λv K'=>v=_/\K'=_) ⟨rfl,rfl⟩)) ?_;rintro _ _ ⟨rfl,rfl⟩;unfold l8;dsimp only[List.nil_append,List.cons_append]
        repeat' (first|refine st ?_|refine sb λM u=>?_|refine s2 (λh=>?_) λh=>?_|fail)
        first
          |exact D rfl _
          | (refine E _ rfl _ ?_ (fun q hq => by simp [hq])
             simp[List.set_set])
end
end
section
def cy.zero:cy:=⟨EB,[],[],[]⟩
def ry(r:Option (cy×cu)):AV:=match r with
 |some r=>.tup [.agg r.1.enc,.agg r.2.enc,.bool true]
 |none=>.tup [.agg cy.zero.enc,.agg cu.zero.enc,.bool false]
def mf(c:aY)(s:cy)(t:Int)(r1:SyncD)(e:cu)(a:MJ):Option (cy×cu):=
 if e.kind≠16/\e.kind≠2 then
  (if(aU (ao c t) a.thread).2 then some (⟨r1,a.cells,a.futures,s.threads.set t.toNat (aU (ao c t) a.thread).1⟩,{e with value:=a.value})else none)
 else some (⟨r1,a.cells,a.futures,s.threads.set t.toNat a.thread⟩,{e with value:=a.value})
theorem lx(K:SH):Fz K (.tup [.agg aC,.agg cH,.bool false]) (ry none):=
 Fz.tups (.cons (Fz.aggs (by unfold aC cy.zero cy.enc EB;exact fl)) (.cons (Fz.aggs (by unfold cH cu.zero cu.enc;exact fl)) (.cons (.refl _) .nil)))
theorem C4{α:Type}{f:α->List AV}{L:SH}{bt n m:Nat}{l:List α}{k:Nat}{r:List AV}{y:α}(Y:0<n)(G:m=l.length)(hk:k<l.length)(Z:(bt,(⟨n,(l.map f).set k r⟩:Blk))∈L)(S:eP L r (f y)):Fz L (.sl bt 0 m) (.lst ((l.set k y).map f)):=by
 subst G;have E:∀(j:Nat) (x D:List AV),((l.map f).set k r)[0+j]? =some x->((l.set k y).map f)[j]? =some D->eP L x D:=by
  intro j x D B u;rw[Ue]at u;rw[Uc]at B;rw[TF]at B u;by_cases M:k=j
  .rw[if_pos M,if_pos (by simpa using hk)]at B u;cases B;cases u;exact S
  .rw[if_neg M]at B u;rw[B]at u;cases u;exact eP.refl _ _
 exact .sl bt 0 l.length _ _ Z Y UW UZ UZ (λj x D B u=>(E j x D B u).at_.1) (λj x D q a a2 B u O N=>(E j x D B u).at_.2 q a a2 O N)
theorem Gp{L:SH}{bt:Nat}{l:List aD}{k:Nat}{r:List AV}{th:aD}(B:k<l.length)(u:(bt,(⟨4,(l.map aD.enc).set k r⟩:Blk))∈L)(j:eP L r th.enc):Fz L (.sl bt 0 l.length) (.lst ((l.set k th).map aD.enc)):=C4 U0 rfl B u j
theorem EV{L:SH}{o:Option Nat}{l:List Int}{n:Nat}(j:n=l.length)(D:o=none->l=[])(u:∀b,o=some b->∃rows,rows=l.map ah/\(b,(⟨1,rows⟩:Blk))∈L):Fz L (aK o n) (.lst (l.map ah)):=
 fF j D λb B=>by obtain⟨rows,rfl,h⟩:=u b B;exact h
section
variable (c:aY) (s:cy) (t wake:Int) (h1:inB t s.threads.length=true) (hc:inB t c.ts.length=true) (sy:SyncD) (e:cu) (a:MJ) (b132 b24 b8 b6 bt:Nat) (oc of:Option Nat) (K RZ RR A:SH) (hA:A=[]\/∃q,A=[q]) (hA0:e.kind=16\/e.kind=2->A=[]) (hR:(A++RR).Perm (K++RZ))
 (g1 g2:AV) (hg:∀L:SH,(∀q∈K,q∈L)->Fz L g1 (.lst (a.thread.regs.map ah))) (hg2:∀L:SH,(∀q∈K,q∈L)->Fz L g2 (.lst (a.thread.taint.map bC))) (hn1:b24≠b6)
 (hoc:oc=none->a.cells=[]) (hof:of=none->a.futures=[]) (hmc:∀b,oc=some b->∃rows,rows=a.cells.map ah/\(b,(⟨1,rows⟩:Blk))∈RZ) (hmf:∀b,of=some b->∃rows,rows=a.futures.map ah/\(b,(⟨1,rows⟩:Blk))∈RZ)
 (hse:aq Tryz.prog 75 [.agg (ao c t).enc,.agg a.thread.enc] (l8 (aU (ao c t) a.thread))) (pc0 ev0:Int) (hev:a.thread.ev=IntKind.i64.wrap (ev0+1)) (Q:R) (hq:∀v L,Fz L v (ry (mf c s t sy e a))->Q v L)
include h1 hc hA hA0 hR hg hg2 hn1 hoc hof hmc hmf hse hev hq
theorem yY : bV Q [.pptr [c.enc] 0 0, .pptr [[.U1 t, .U1 wake]] 0 0, .ptr b6 0 0, .ptr b8 0 0, .ptr b24 0 0, .ptr b132 0 0, .ptr bt t.toNat 0, .U1 a.thread.pc]
      (A++(b132,⟨7,[[.lst (sy.locks.map LockD.enc),.U1 sy.tx,.lst (sy.done.map aB),.lst (sy.threads.map ThrD.enc),aK oc a.cells.length,aK of a.futures.length,.sl bt 0 s.threads.length]]⟩)::(b24,⟨7,[{e with value:=a.value}.enc]⟩)::(b8,⟨7,[cH]⟩)::(b6,⟨7,[aC]⟩)::(bt,⟨4,(s.threads.map aD.enc).set t.toNat [.U1 pc0,g1,g2,.U1 ev0]⟩)::RR):=by
  obtain⟨i1,i2⟩:=av.1 h1;have hlt:t.toNat<s.threads.length:=by omega
  obtain⟨va,ce,fu,⟨p,rg,tn,ev⟩⟩:=a;obtain⟨e1,ek,eo,v0,es,d,f⟩:=e;dsimp only at *;subst hev;have ends : ∀ (th : aD) (L : SH), mf c s t sy ⟨e1, ek, eo, v0, es, d, f⟩ ⟨va, ce, fu, ⟨p, rg, tn, IntKind.i64.wrap (ev0 + 1)⟩⟩ = some (⟨sy, ce, fu, s.threads.set t.toNat th⟩, ⟨e1, ek, eo, va, es, d, f⟩)→
      Fz L (.sl bt 0 s.threads.length) (.lst ((s.threads.set t.toNat th).map aD.enc))→(∀q∈RZ,q∈L)→
      Q (.tup [.agg [.lst (sy.locks.map LockD.enc),.U1 sy.tx,.lst (sy.done.map aB),.lst (sy.threads.map ThrD.enc),aK oc ce.length,aK of fu.length,.sl bt 0 s.threads.length],.agg [.U1 e1,.U1 ek,.U1 eo,.U1 va,.U1 es,.lst (d.map ah),.lst (f.map ah)],.bool true]) L:=by
    intro th L hf h2 hz;refine hq _ _ ?_;rw[hf];refine Fz.tups (.cons (Fz.aggs ?_) (.cons (.refl _) (.cons (.refl _) .nil)));refine .cons (.refl _) (.cons (.refl _) (.cons (.refl _) (.cons (.refl _) (.cons ?_ (.cons ?_ (.cons h2 .nil))))))
    · exact EV rfl hoc λb hb=>by obtain⟨rows,e,h⟩:=hmc b hb;exact⟨rows,e,hz _ h⟩
    · exact EV rfl hof λb hb=>by obtain⟨rows,e,h⟩:=hmf b hb;exact⟨rows,e,hz _ h⟩
  refine Rz c s.threads t wake h1 hc p pc0 ev0 rg tn g1 g2 sy _ _ (s8 _ _) (s8 _ _) e1 ek eo va es d f b132 b24 b8 b6 bt K RZ RR A hA hR (hg _ λq h=>h) (hg2 _ λq h=>h) hn1 Q _ rfl _ rfl hse ?_ ?_ ?_
  · intro hk L hm hL
    have hA1:=hA0 hk;subst hA1;have hsub:∀q∈K++RZ,q∈L:=λq h=>hL q (by simpa using hR.mem_iff.2 h)
    refine ends ⟨p,rg,tn,IntKind.i64.wrap (ev0+1)⟩ L (by unfold mf;rw[if_neg (by dsimp only;omega)]) (Gp hlt hm ?_) λq h=>hsub q (by simp[h])
    exact .cons (.refl _) (.cons (hg _ λq h=>hsub q (by simp[h])) (.cons (hg2 _ λq h=>hsub q (by simp[h])) (.cons (.refl _) .nil)))
  · intro hk th hth L hm hL
    refine ends th L (by unfold mf;rw[if_pos hk];dsimp only;rw[hth];rfl) (Gp hlt hm (eP.refl _ _)) hL
  · intro hk h2 L
    refine hq _ _ ?_;rw[show mf c s t sy ⟨e1,ek,eo,v0,es,d,f⟩ ⟨va,ce,fu,⟨p,rg,tn,IntKind.i64.wrap (ev0+1)⟩⟩=none by unfold mf;rw[if_pos hk];dsimp only;rw[h2];rfl];exact lx L
end
end
section
theorem cg{B:SH->Prop}{n b i j:Nat}{v:AV}{x:Blk}{r cs:List AV}{L u:SH}(D:xq b x ⟨x.size,x.rows.set i (bu r j cs)⟩ L u)(h1:x.rows[i]? =some r)(h2:v.cells? =some cs)(G:cs.length=n)(h4:cs.all AV.one=true)(E:j+n<=r.length)(h:B u):W.store n (.ptr b i j) v L B:=⟨x,r,cs,u,h1,h2,G,h4,E,D,h⟩
theorem aV{n b m:Nat}{k:IntKind}{i:Int}{y:Blk}{L:SH}{K:AV->Prop}(u:0<=i)(h1:i.toNat<m)(j:(b,y)∈L)(h2:y.size=n)(h:K (.ptr b i.toNat 0)):W.idx n (.sl b 0 m) (.int k i) L K:=Cw u h1 j h2 (by rw[Uc];exact h)
def iz(Q:R)(L168:SH)(x132 x24 x142 x167 x171 x10 x14 x6 x8 x177 x115:AV):Prop:=
 Ii 1 x24 L168 λx269=>wb .eql 3 x269 (.U1 3) λx270=>wk x270 (ES (bV Q) L168 x132 x24 x142 x167 x171 x10 x14 x6 x8 x177) (C2 (bV Q) L168 x269 x132 x24 x142 x167 x171 x10 x14 x6 x8 x177 x115)
section
variable (c:aY) (s:cy) (t wake:Int) (h1:inB t s.threads.length=true) (hc:inB t c.ts.length=true) (th:aD) (hth:ay s t=th) (i:aT) (hi:bH (ao c t) th.pc=i) (hpc:inB th.pc (ao c t).ins.length=true) (sy:SyncD) (sv:Int) (e:cu) (b132 b24 b8 b6 bt tb:Nat) (o oc of:Option Nat) (hn1:b24≠b6) (hn2:b24∉SH.names ((b8,(⟨7,[cH]⟩:Blk))::[]) ) (ho:o=none->th.regs=[]) (hoc:oc=none->s.cells=[]) (hof:of=none->s.futures=[]) (Q:R)
def cU(th:aD)(tb:Nat)(o:Option Nat):List AV:=[.U1 th.pc,aK o th.regs.length,.sl tb 0 th.taint.length,.U1 th.ev]
def ig(s:cy)(th:aD)(tb:Nat)(o oc of:Option Nat):SH:=ab o 1 (th.regs.map ah)++(tb,⟨1,th.taint.map bC⟩)::(ab oc 1 (s.cells.map ah)++ab of 1 (s.futures.map ah))
def jj(s:cy)(t:Int)(th:aD)(e:cu)(b24 b8 b6 bt tb:Nat)(o:Option Nat)(RR:SH):SH:=
 (b24,⟨7,[e.enc]⟩)::(b8,⟨7,[cH]⟩)::(b6,⟨7,[aC]⟩)::(bt,⟨4,(s.threads.map aD.enc).set t.toNat (cU th tb o)⟩)::RR
def gE(s:cy)(sy:SyncD)(bt:Nat)(oc of:Option Nat):List AV:=[.lst (sy.locks.map LockD.enc),.U1 sy.tx,.lst (sy.done.map aB),.lst (sy.threads.map ThrD.enc),aK oc s.cells.length,aK of s.futures.length,.sl bt 0 s.threads.length]
include h1 hc hth hi hpc
theorem O4(G:SH)(h:∀b132,iz Q ((b132,⟨7,[gE s sy bt oc of]⟩)::jj s t th e b24 b8 b6 bt tb o G) (.ptr b132 0 0) (.ptr b24 0 0) (.ptr bt t.toNat 0) (.pptr [i.enc] 0 0) (.U1 th.ev) (.pptr [c.enc] 0 0) (.pptr [[.U1 t,.U1 wake]] 0 0) (.ptr b6 0 0) (.ptr b8 0 0) (.U1 (IntKind.i64.wrap (th.pc+1))) (.U1 sv)):
  vS Q (.pptr [sy.enc] 0 0) (.pptr [[.U1 t,.U1 wake]] 0 0) (.pptr [c.enc] 0 0) (.ptr b24 0 0) (.ptr b6 0 0) (.ptr b8 0 0) (.U1 sv) (.agg [.nils,.U1 0,.nils,.nils,aK oc s.cells.length,aK of s.futures.length,.sl bt 0 s.threads.length]) (jj s t th e b24 b8 b6 bt tb o G):=by
 obtain⟨S,i2⟩:=av.1 h1;have u:t.toNat<(s.threads.map aD.enc).length:=by simp;omega
 have M:(c.ts.map eB.enc)[t.toNat]? =some (ao c t).enc:=gv hc;have Z:=av.1 hc;have x4:((ao c t).ins.map aT.enc)[th.pc.toNat]? =some i.enc:=by rw[<-hi];exact bS hpc
 have Y:=av.1 hpc;have N:=dG (cU th tb o) u;unfold cU at N;unfold SyncD.enc;refine vw ?_;unfold jj cU gE at *;unfold iz at h;have D:c.enc=[.lst (c.w.cells.map aF.enc),.lst (c.w.locks.map bn.enc),.lst (c.w.conds.map bP.enc),.lst (c.w.futures.map au),.lst (c.w.threads.map au),.lst (c.w.sites.map bQ.enc),.lst (c.ts.map eB.enc)]:=rfl;rw[D]at *;have B:(ao c t).enc=[.U1 (ao c t).regs,.lst ((ao c t).ins.map aT.enc)]:=rfl;rw[B]at M;cases oc
 all_goals cases of
 all_goals
  dsimp only[aK]at *;have j:t.toNat<s.threads.length:=by omega
  repeat' (first|exact h _|refine aV S j rp rfl ?_|refine st ?_|refine cg rp UY UY UY UY UZ ?_|refine sb λO E=>?_|refine s2 (λh=>?_) λh=>?_|fail)
end
end
section
section
variable (c:aY) (s:cy) (t wake:Int) (h1:inB t s.threads.length=true) (hc:inB t c.ts.length=true) (th:aD) (i:aT) (sy:SyncD) (sv:Int) (e:cu) (b132 b24 b8 b6 bt tb:Nat) (o oc of:Option Nat) (hn1:b24≠b6) (ho:o=none->th.regs=[]) (hoc:oc=none->s.cells=[]) (hof:of=none->s.futures=[])
 (htn:th.taint.length=th.regs.length) (hse:aq Tryz.prog 75 [.agg (ao c t).enc,.agg (bY i e s th sv).thread.enc] (l8 (aU (ao c t) (bY i e s th sv).thread))) (Q:R) (hq:∀v L,Fz L v (ry (mf c s t sy e (bY i e s th sv)))->Q v L)
def jl(c:aY)(s:cy)(t wake:Int)(th:aD)(i:aT)(sy:SyncD)(sv:Int)(e:cu)(b132 b24 b8 b6 bt tb:Nat)(o oc of:Option Nat)(Q:R):Prop:=
 iz Q ((b132,⟨7,[gE s sy bt oc of]⟩)::jj s t th e b24 b8 b6 bt tb o (ig s th tb o oc of)) (.ptr b132 0 0) (.ptr b24 0 0) (.ptr bt t.toNat 0) (.pptr [i.enc] 0 0) (.U1 th.ev) (.pptr [c.enc] 0 0) (.pptr [[.U1 t,.U1 wake]] 0 0) (.ptr b6 0 0) (.ptr b8 0 0) (.U1 (IntKind.i64.wrap (th.pc+1))) (.U1 sv)
include h1 hc hn1 ho hoc hof htn hse hq
theorem SW(hk:e.kind=3)(E:0<=i.a/\i.a<th.regs.length)(M:inB e.obj s.cells.length=true):jl c s t wake th i sy sv e b132 b24 b8 b6 bt tb o oc of Q:=by
 have N:bY i e s th sv=⟨iR s.cells e.obj,s.cells,s.futures,⟨IntKind.i64.wrap (th.pc+1),th.regs.set i.a.toNat (iR s.cells e.obj),th.taint.set i.a.toNat [th.ev],IntKind.i64.wrap (th.ev+1)⟩⟩:=by simp[bY,hk]
 rw[N]at hse hq;obtain⟨e1,ek,D,v0,es,d,f⟩:=e;obtain⟨op,B,ib,ic,m,site⟩:=i;dsimp only at *;subst hk;have j:=av.1 M;have hi1:=av.1 h1;cases o with
 |none=>rw[ho rfl]at E;simp at E;omega
 |some S=>
  cases oc with
  |none=>rw[hoc rfl]at j;simp at j;omega
  |some G=>
   unfold jl iz jj ig gE cU;obtain⟨J,hJ⟩:∃J,J=bV Q:=⟨_,rfl⟩;rw[<-hJ];have s0:=dG (cU th tb (some S)) (l:=s.threads.map aD.enc) (n:=t.toNat) (by simp;omega);unfold cU at s0;dsimp only[aK,ab,List.cons_append,List.nil_append]at *;have y1:=ji (s:=th) E.1 E.2;have y2:=me (s:=th) E.1 UW;have y3:(s.cells.map ah)[D.toNat]? =some [.U1 (iR s.cells D)]:=gv M;have z1:B.toNat<th.regs.length:=by omega
   have Z:B.toNat<th.taint.length:=by omega
   have z3:D.toNat<s.cells.length:=by omega
   repeat' (first|refine aV E.1 z1 rp rfl ?_|refine aV E.1 Z rp rfl ?_|refine aV j.1 z3 rp rfl ?_|refine BA (aV j.1 z3 rp rfl ?_)|refine st ?_|refine sb λu hnb_=>?_|refine s2 (λh=>?_) λh=>?_|fail)
   rw[hJ];refine yY c s t wake h1 hc sy ⟨e1,3,D,v0,es,d,f⟩ ⟨iR s.cells D,s.cells,s.futures,⟨IntKind.i64.wrap (th.pc+1),th.regs.set B.toNat (iR s.cells D),th.taint.set B.toNat [th.ev],IntKind.i64.wrap (th.ev+1)⟩⟩ b132 b24 b8 b6 bt (some G) of [(u,⟨1,[[.U1 th.ev]]⟩),(S,⟨1,(th.regs.map ah).set B.toNat [.U1 (iR s.cells D)]⟩),(tb,⟨1,(th.taint.map bC).set B.toNat [.sl u 0 1]⟩)]
    ((G,⟨1,s.cells.map ah⟩)::ab of 1 (s.futures.map ah)) ((S,⟨1,(th.regs.map ah).set B.toNat [.U1 (iR s.cells D)]⟩)::(tb,⟨1,(th.taint.map bC).set B.toNat [.sl u 0 1]⟩)::(G,⟨1,s.cells.map ah⟩)::ab of 1 (s.futures.map ah)) [(u,⟨1,[[.U1 th.ev]]⟩)] (.inr ⟨_,rfl⟩) (by dsimp only;omega) (.refl _) (.sl S 0 th.regs.length) (.sl tb 0 th.taint.length) ?_ ?_ hn1 nofun hof ?_ ?_ hse th.pc th.ev rfl Q hq
   .exact λL O=>Fz.sls (O _ (.tail _ (.head _))) (by simp[Ue,ah]) U0 UZ
   .exact λL O=>C4 U0 rfl Z (O _ (.tail _ (.tail _ (.head _)))) (.cons (Fz.sls (l:=[th.ev]) (f:=ah) (O _ (.head _)) rfl U0 rfl) .nil)
   .exact λb Y=>by cases Y;exact⟨_,rfl,.head _⟩
   .exact λb Y=>by subst Y;exact⟨_,rfl,.tail _ (.head _)⟩
theorem RA(hk:e.kind=23)(G:0<=i.a/\i.a<th.regs.length)(N:inB e.obj s.futures.length=true):jl c s t wake th i sy sv e b132 b24 b8 b6 bt tb o oc of Q:=by
 have O:bY i e s th sv=⟨iR s.futures e.obj,s.cells,s.futures,⟨IntKind.i64.wrap (th.pc+1),th.regs.set i.a.toNat (iR s.futures e.obj),th.taint.set i.a.toNat [th.ev],IntKind.i64.wrap (th.ev+1)⟩⟩:=by simp[bY,hk]
 rw[O]at hse hq;obtain⟨e1,ek,B,v0,es,d,f⟩:=e;obtain⟨op,E,ib,ic,m,site⟩:=i;dsimp only at *;subst hk;have u:=av.1 N;have hi1:=av.1 h1;cases o with
 |none=>rw[ho rfl]at G;simp at G;omega
 |some M=>
  cases of with
  |none=>rw[hof rfl]at u;simp at u;omega
  |some D=>
   unfold jl iz jj ig gE cU;obtain⟨J,hJ⟩:∃J,J=bV Q:=⟨_,rfl⟩;rw[<-hJ];have s0:=dG (cU th tb (some M)) (l:=s.threads.map aD.enc) (n:=t.toNat) (by simp;omega);unfold cU at s0;have y1:=ji (s:=th) G.1 G.2;have y2:=me (s:=th) G.1 UW;have y3:(s.futures.map ah)[B.toNat]? =some [.U1 (iR s.futures B)]:=gv N;have z1:E.toNat<th.regs.length:=by omega
   have z2:E.toNat<th.taint.length:=by omega
   have z3:B.toNat<s.futures.length:=by omega
   have S:∀(j:Nat) (A:SH),A=[(D,⟨1,s.futures.map ah⟩)]->J [.pptr [c.enc] 0 0,.pptr [[.U1 t,.U1 wake]] 0 0,.ptr b6 0 0,.ptr b8 0 0,.ptr b24 0 0,.ptr b132 0 0,.ptr bt t.toNat 0,.U1 (IntKind.i64.wrap (th.pc+1))]
     ((j,⟨1,[[.U1 th.ev]]⟩)::(b132,⟨7,[gE s sy bt oc (some D)]⟩)::(b24,⟨7,[(cu.mk e1 23 B (iR s.futures B) es d f).enc]⟩)::(b8,⟨7,[cH]⟩)::(b6,⟨7,[aC]⟩)::(bt,⟨4,(s.threads.map aD.enc).set t.toNat (cU th tb (some M))⟩)::(M,⟨1,(th.regs.map ah).set E.toNat [.U1 (iR s.futures B)]⟩)::(tb,⟨1,(th.taint.map bC).set E.toNat [.sl j 0 1]⟩)::(ab oc 1 (s.cells.map ah)++A)):=by
    rintro j A rfl;rw[hJ];refine yY c s t wake h1 hc sy ⟨e1,23,B,v0,es,d,f⟩ ⟨iR s.futures B,s.cells,s.futures,⟨IntKind.i64.wrap (th.pc+1),th.regs.set E.toNat (iR s.futures B),th.taint.set E.toNat [th.ev],IntKind.i64.wrap (th.ev+1)⟩⟩ b132 b24 b8 b6 bt oc (some D) [(j,⟨1,[[.U1 th.ev]]⟩),(M,⟨1,(th.regs.map ah).set E.toNat [.U1 (iR s.futures B)]⟩),(tb,⟨1,(th.taint.map bC).set E.toNat [.sl j 0 1]⟩)]
     (ab oc 1 (s.cells.map ah)++[(D,⟨1,s.futures.map ah⟩)]) ((M,⟨1,(th.regs.map ah).set E.toNat [.U1 (iR s.futures B)]⟩)::(tb,⟨1,(th.taint.map bC).set E.toNat [.sl j 0 1]⟩)::(ab oc 1 (s.cells.map ah)++[(D,⟨1,s.futures.map ah⟩)])) [(j,⟨1,[[.U1 th.ev]]⟩)] (.inr ⟨_,rfl⟩) (by dsimp only;omega) (.refl _) (.sl M 0 th.regs.length) (.sl tb 0 th.taint.length) ?_ ?_ hn1 hoc nofun ?_ ?_ hse th.pc th.ev rfl Q hq
    .exact λL Y=>Fz.sls (Y _ (.tail _ (.head _))) (by simp[Ue,ah]) U0 UZ
    .exact λL Y=>C4 U0 rfl z2 (Y _ (.tail _ (.tail _ (.head _)))) (.cons (Fz.sls (l:=[th.ev]) (f:=ah) (Y _ (.head _)) rfl U0 rfl) .nil)
    .exact λb Z=>by subst Z;exact⟨_,rfl,.head _⟩
    .exact λb Z=>by cases Z;exact⟨_,rfl,UZ⟩
   cases oc
   all_goals
    dsimp only[aK,ab,List.cons_append,List.nil_append]at *
    repeat' (first|refine aV G.1 z1 rp rfl ?_|refine aV G.1 z2 rp rfl ?_|refine aV u.1 z3 rp rfl ?_|refine BA (aV u.1 z3 rp rfl ?_)|refine st ?_|refine sb λj hnb_=>?_|refine s2 (λh=>?_) λh=>?_|fail)
    exact S j _ rfl
end
end
section
section
variable (c:aY) (s:cy) (t wake:Int) (h1:inB t s.threads.length=true) (hc:inB t c.ts.length=true) (th:aD) (i:aT) (sy:SyncD) (sv:Int) (e:cu) (b132 b24 b8 b6 bt tb:Nat) (o oc of:Option Nat) (hn1:b24≠b6) (ho:o=none->th.regs=[]) (hoc:oc=none->s.cells=[]) (hof:of=none->s.futures=[])
 (htn:th.taint.length=th.regs.length) (hse:aq Tryz.prog 75 [.agg (ao c t).enc,.agg (bY i e s th sv).thread.enc] (l8 (aU (ao c t) (bY i e s th sv).thread))) (Q:R) (hq:∀v L,Fz L v (ry (mf c s t sy e (bY i e s th sv)))->Q v L)
include h1 hc hn1 ho hoc hof htn hse hq
theorem SX(hk:e.kind=4)(G:0<=i.b/\i.b<th.regs.length)(M:inB e.obj s.cells.length=true):jl c s t wake th i sy sv e b132 b24 b8 b6 bt tb o oc of Q:=by
 have N:bY i e s th sv=⟨th.reg i.b,s.cells.set e.obj.toNat (th.reg i.b),s.futures,⟨IntKind.i64.wrap (th.pc+1),th.regs,th.taint,IntKind.i64.wrap (th.ev+1)⟩⟩:=by simp[bY,hk]
 rw[N]at hse hq;obtain⟨e1,ek,B,v0,es,d,f⟩:=e;obtain⟨op,ia,D,ic,m,Z⟩:=i;dsimp only at *;subst hk;have j:=av.1 M;have hi1:=av.1 h1;cases o with
 |none=>rw[ho rfl]at G;simp at G;omega
 |some E=>
  cases oc with
  |none=>rw[hoc rfl]at j;simp at j;omega
  |some u=>
   unfold jl iz jj ig gE cU;obtain⟨J,hJ⟩:∃J,J=bV Q:=⟨_,rfl⟩;rw[<-hJ];have s0:=dG (cU th tb (some E)) (l:=s.threads.map aD.enc) (n:=t.toNat) (by simp;omega);unfold cU at s0;have y1:=ji (s:=th) G.1 G.2;have y3:(s.cells.map ah)[B.toNat]? =some [.U1 (iR s.cells B)]:=gv M;have z1:D.toNat<th.regs.length:=by omega
   have z3:B.toNat<s.cells.length:=by omega
   have O:∀(A:SH),A=[]->J [.pptr [c.enc] 0 0,.pptr [[.U1 t,.U1 wake]] 0 0,.ptr b6 0 0,.ptr b8 0 0,.ptr b24 0 0,.ptr b132 0 0,.ptr bt t.toNat 0,.U1 (IntKind.i64.wrap (th.pc+1))]
     ((b132,⟨7,[gE s sy bt (some u) of]⟩)::(b24,⟨7,[(cu.mk e1 4 B (th.reg D) es d f).enc]⟩)::(b8,⟨7,[cH]⟩)::(b6,⟨7,[aC]⟩)::(bt,⟨4,(s.threads.map aD.enc).set t.toNat (cU th tb (some E))⟩)::(E,⟨1,th.regs.map ah⟩)::(tb,⟨1,th.taint.map bC⟩)::((u,⟨1,(s.cells.map ah).set B.toNat [.U1 (th.reg D)]⟩)::(ab of 1 (s.futures.map ah)++A))):=by
    rintro A rfl;rw[hJ];have:=yY c s t wake h1 hc sy ⟨e1,4,B,v0,es,d,f⟩ ⟨th.reg D,s.cells.set B.toNat (th.reg D),s.futures,⟨IntKind.i64.wrap (th.pc+1),th.regs,th.taint,IntKind.i64.wrap (th.ev+1)⟩⟩ b132 b24 b8 b6 bt (some u) of [(E,⟨1,th.regs.map ah⟩),(tb,⟨1,th.taint.map bC⟩)]
     ((u,⟨1,(s.cells.map ah).set B.toNat [.U1 (th.reg D)]⟩)::(ab of 1 (s.futures.map ah)++[])) ((E,⟨1,th.regs.map ah⟩)::(tb,⟨1,th.taint.map bC⟩)::((u,⟨1,(s.cells.map ah).set B.toNat [.U1 (th.reg D)]⟩)::(ab of 1 (s.futures.map ah)++[]))) [] (.inl rfl) (λ_=>rfl) (.refl _) (.sl E 0 th.regs.length) (.sl tb 0 th.taint.length) ?_ ?_ hn1 nofun hof ?_ ?_ hse th.pc th.ev rfl Q hq
    .simp only[UE]at this;exact this
    .exact λL Y=>Fz.sls (Y _ (.head _)) rfl U0 rfl
    .exact λL Y=>Fz.sls (Y _ (.tail _ (.head _))) rfl U0 rfl
    .exact λb S=>by cases S;exact⟨_,by simp[Ue,ah],.head _⟩
    .exact λb S=>by subst S;exact⟨_,rfl,.tail _ (.head _)⟩
   cases of
   all_goals
    dsimp only[aK,ab,List.cons_append,List.nil_append]at *
    repeat' (first|refine aV G.1 z1 rp rfl ?_|refine aV j.1 z3 rp rfl ?_|refine BA (aV j.1 z3 rp rfl ?_)|refine st ?_|refine sb λnb_ hnb_=>?_|refine s2 (λh=>?_) λh=>?_|fail)
    exact O _ rfl
theorem RB(hk:e.kind=22)(G:0<=i.b/\i.b<th.regs.length)(M:inB e.obj s.futures.length=true):jl c s t wake th i sy sv e b132 b24 b8 b6 bt tb o oc of Q:=by
 have N:bY i e s th sv=⟨th.reg i.b,s.cells,s.futures.set e.obj.toNat (th.reg i.b),⟨IntKind.i64.wrap (th.pc+1),th.regs,th.taint,IntKind.i64.wrap (th.ev+1)⟩⟩:=by simp[bY,hk]
 rw[N]at hse hq;obtain⟨e1,ek,B,v0,es,d,f⟩:=e;obtain⟨op,ia,D,ic,m,Z⟩:=i;dsimp only at *;subst hk;have j:=av.1 M;have hi1:=av.1 h1;cases o with
 |none=>rw[ho rfl]at G;simp at G;omega
 |some E=>
  cases of with
  |none=>rw[hof rfl]at j;simp at j;omega
  |some u=>
   unfold jl iz jj ig gE cU;obtain⟨J,hJ⟩:∃J,J=bV Q:=⟨_,rfl⟩;rw[<-hJ];have s0:=dG (cU th tb (some E)) (l:=s.threads.map aD.enc) (n:=t.toNat) (by simp;omega);unfold cU at s0;have y1:=ji (s:=th) G.1 G.2;have y3:(s.futures.map ah)[B.toNat]? =some [.U1 (iR s.futures B)]:=gv M;have z1:D.toNat<th.regs.length:=by omega
   have z3:B.toNat<s.futures.length:=by omega
   have O:∀(A:SH),A=[(u,⟨1,(s.futures.map ah).set B.toNat [.U1 (th.reg D)]⟩)]->J [.pptr [c.enc] 0 0,.pptr [[.U1 t,.U1 wake]] 0 0,.ptr b6 0 0,.ptr b8 0 0,.ptr b24 0 0,.ptr b132 0 0,.ptr bt t.toNat 0,.U1 (IntKind.i64.wrap (th.pc+1))]
     ((b132,⟨7,[gE s sy bt oc (some u)]⟩)::(b24,⟨7,[(cu.mk e1 22 B (th.reg D) es d f).enc]⟩)::(b8,⟨7,[cH]⟩)::(b6,⟨7,[aC]⟩)::(bt,⟨4,(s.threads.map aD.enc).set t.toNat (cU th tb (some E))⟩)::(E,⟨1,th.regs.map ah⟩)::(tb,⟨1,th.taint.map bC⟩)::(ab oc 1 (s.cells.map ah)++A)):=by
    rintro A rfl;rw[hJ];have:=yY c s t wake h1 hc sy ⟨e1,22,B,v0,es,d,f⟩ ⟨th.reg D,s.cells,s.futures.set B.toNat (th.reg D),⟨IntKind.i64.wrap (th.pc+1),th.regs,th.taint,IntKind.i64.wrap (th.ev+1)⟩⟩ b132 b24 b8 b6 bt oc (some u) [(E,⟨1,th.regs.map ah⟩),(tb,⟨1,th.taint.map bC⟩)]
     (ab oc 1 (s.cells.map ah)++[(u,⟨1,(s.futures.map ah).set B.toNat [.U1 (th.reg D)]⟩)]) ((E,⟨1,th.regs.map ah⟩)::(tb,⟨1,th.taint.map bC⟩)::(ab oc 1 (s.cells.map ah)++[(u,⟨1,(s.futures.map ah).set B.toNat [.U1 (th.reg D)]⟩)])) [] (.inl rfl) (λ_=>rfl) (.refl _) (.sl E 0 th.regs.length) (.sl tb 0 th.taint.length) ?_ ?_ hn1 hoc nofun ?_ ?_ hse th.pc th.ev rfl Q hq
    .simp only[UE]at this;exact this
    .exact λL Y=>Fz.sls (Y _ (.head _)) rfl U0 rfl
    .exact λL Y=>Fz.sls (Y _ (.tail _ (.head _))) rfl U0 rfl
    .exact λb S=>by subst S;exact⟨_,rfl,.head _⟩
    .exact λb S=>by cases S;exact⟨(s.futures.map ah).set B.toNat [.U1 (th.reg D)],by simp[Ue,ah],UZ⟩
   cases oc
   all_goals
    dsimp only[aK,ab,List.cons_append,List.nil_append]at *
    repeat' (first|refine aV G.1 z1 rp rfl ?_|refine aV j.1 z3 rp rfl ?_|refine BA (aV j.1 z3 rp rfl ?_)|refine st ?_|refine sb λnb_ hnb_=>?_|refine s2 (λh=>?_) λh=>?_|fail)
    exact O _ rfl
end
end
section
section
variable (c:aY) (s:cy) (t wake:Int) (h1:inB t s.threads.length=true) (hc:inB t c.ts.length=true) (th:aD) (i:aT) (sy:SyncD) (sv:Int) (e:cu) (b132 b24 b8 b6 bt tb:Nat) (o oc of:Option Nat) (hn1:b24≠b6) (ho:o=none->th.regs=[]) (hoc:oc=none->s.cells=[]) (hof:of=none->s.futures=[])
 (htn:th.taint.length=th.regs.length) (hse:aq Tryz.prog 75 [.agg (ao c t).enc,.agg (bY i e s th sv).thread.enc] (l8 (aU (ao c t) (bY i e s th sv).thread))) (Q:R) (hq:∀v L,Fz L v (ry (mf c s t sy e (bY i e s th sv)))->Q v L)
include h1 hc hn1 ho hoc hof htn hse hq
theorem HJ(v p:Int)(E:bY i e s th sv=⟨v,s.cells,s.futures,⟨p,th.regs,th.taint,IntKind.i64.wrap (th.ev+1)⟩⟩)(u:cu)(B:u={e with value:=v}):
  bV Q [.pptr [c.enc] 0 0,.pptr [[.U1 t,.U1 wake]] 0 0,.ptr b6 0 0,.ptr b8 0 0,.ptr b24 0 0,.ptr b132 0 0,.ptr bt t.toNat 0,.U1 p]
   ((b132,⟨7,[gE s sy bt oc of]⟩)::(b24,⟨7,[u.enc]⟩)::(b8,⟨7,[cH]⟩)::(b6,⟨7,[aC]⟩)::(bt,⟨4,(s.threads.map aD.enc).set t.toNat (cU th tb o)⟩)::ig s th tb o oc of):=by
 subst B;rw[E]at hse hq;refine yY c s t wake h1 hc sy e ⟨v,s.cells,s.futures,⟨p,th.regs,th.taint,IntKind.i64.wrap (th.ev+1)⟩⟩ b132 b24 b8 b6 bt oc of (ab o 1 (th.regs.map ah)++[(tb,⟨1,th.taint.map bC⟩)]) (ab oc 1 (s.cells.map ah)++ab of 1 (s.futures.map ah)) (ig s th tb o oc of) [] (.inl rfl) (λ_=>rfl) (by unfold ig;simp) (aK o th.regs.length) (.sl tb 0 th.taint.length) ?_ ?_ hn1 hoc hof ?_ ?_ hse th.pc th.ev rfl Q hq
 .exact λL D=>fF rfl ho λb j=>D _ (by subst j;simp[ab])
 .exact λL D=>Fz.sls (D _ (TA _ (.head _))) rfl U0 rfl
 .exact λb j=>by subst j;exact⟨_,rfl,by simp[ab]⟩
 .exact λb j=>by subst j;exact⟨_,rfl,by simp[ab]⟩
theorem SY(E:e.kind=5)(j:0<=i.a/\i.a<th.regs.length):jl c s t wake th i sy sv e b132 b24 b8 b6 bt tb o oc of Q:=by
 have u:=HJ c s t wake h1 hc th i sy sv e b132 b24 b8 b6 bt tb o oc of hn1 ho hoc hof htn hse Q hq;by_cases G:th.reg i.a≠0
 .replace u:=u 1 (IntKind.i64.wrap (th.pc+1)) (by simp[bY,E,G]) _ rfl;have d1:decide (th.reg i.a≠0)=true:=decide_eq_true G;clear hse hq;obtain⟨e1,ek,eo,v0,es,d,f⟩:=e;obtain⟨op,S,ib,ic,m,B⟩:=i;dsimp only at *;subst E;have Y:=av.1 h1;cases o with
  |none=>rw[ho rfl]at j;simp at j;omega
  |some bo=>
   unfold jl iz jj ig gE cU;unfold ig gE cU at u;obtain⟨J,Z⟩:∃J,J=bV Q:=⟨_,rfl⟩;rw[<-Z]at u ⊢;have N:=dG (cU th tb (some bo)) (l:=s.threads.map aD.enc) (n:=t.toNat) (by simp;omega);unfold cU at N;have y1:=ji (s:=th) j.1 j.2;have M:S.toNat<th.regs.length:=by omega
   generalize ab oc 1 (s.cells.map ah)++ab of 1 (s.futures.map ah)=T at *;dsimp only[aK,ab,List.cons_append,List.nil_append]at *
   repeat' (first|refine aV j.1 M rp rfl ?_|refine st ?_|refine sb λO D=>?_|refine s2 (λh=>?_) λh=>?_|fail)
   exact u
 .replace u:=u e.value i.b (by simp[bY,E,G]) _ rfl;have d1:decide (th.reg i.a≠0)=false:=decide_eq_false G;clear hse hq;obtain⟨e1,ek,eo,v0,es,d,f⟩:=e;obtain⟨op,S,ib,ic,m,B⟩:=i;dsimp only at *;subst E;have Y:=av.1 h1;cases o with
  |none=>rw[ho rfl]at j;simp at j;omega
  |some bo=>
   unfold jl iz jj ig gE cU;unfold ig gE cU at u;obtain⟨J,Z⟩:∃J,J=bV Q:=⟨_,rfl⟩;rw[<-Z]at u ⊢;have N:=dG (cU th tb (some bo)) (l:=s.threads.map aD.enc) (n:=t.toNat) (by simp;omega);unfold cU at N;have y1:=ji (s:=th) j.1 j.2;have M:S.toNat<th.regs.length:=by omega
   generalize ab oc 1 (s.cells.map ah)++ab of 1 (s.futures.map ah)=T at *;dsimp only[aK,ab,List.cons_append,List.nil_append]at *
   repeat' (first|refine aV j.1 M rp rfl ?_|refine st ?_|refine sb λO D=>?_|refine s2 (λh=>?_) λh=>?_|fail)
   exact u
theorem SZ(hk:e.kind≠3/\e.kind≠23/\e.kind≠4/\e.kind≠22/\e.kind≠5):jl c s t wake th i sy sv e b132 b24 b8 b6 bt tb o oc of Q:=by
 obtain⟨Y,B,S,D,O⟩:=hk;have j:=HJ c s t wake h1 hc th i sy sv e b132 b24 b8 b6 bt tb o oc of hn1 ho hoc hof htn hse Q hq;have d3:decide (e.kind=3)=false:=decide_eq_false Y;have d23:decide (e.kind=23)=false:=decide_eq_false B;have d4:decide (e.kind=4)=false:=decide_eq_false S;have d22:decide (e.kind=22)=false:=decide_eq_false D;have d5:decide (e.kind=5)=false:=decide_eq_false O;have hi1:=av.1 h1;have s0:=dG (cU th tb o) (l:=s.threads.map aD.enc) (n:=t.toNat) (by simp;omega);have Z:e.enc=[.U1 e.thread,.U1 e.kind,.U1 e.obj,.U1 e.value,.U1 e.site,.lst (e.deps.map ah),.lst (e.frm.map ah)]:=rfl;by_cases E:e.kind=18\/e.kind=19
 .replace j:=j sv (IntKind.i64.wrap (th.pc+1)) (by unfold bY;rw[if_neg Y,if_neg B,if_neg S,if_neg D,if_neg O,if_pos E]) _ rfl;unfold jl iz jj;unfold gE cU at *;obtain⟨J,M⟩:∃J,J=bV Q:=⟨_,rfl⟩;rw[<-M]at j ⊢;generalize ig s th tb o oc of=T at *;rw[Z];rcases E with E|E
  .have N:decide (e.kind=18)=true:=decide_eq_true E
   repeat' (first|refine st ?_|refine sb λG u=>?_|refine s2 (λh=>?_) λh=>?_|fail)
   exact j
  .have N:decide (e.kind=18)=false:=decide_eq_false UW;have d19:decide (e.kind=19)=true:=decide_eq_true E
   repeat' (first|refine st ?_|refine sb λG u=>?_|refine s2 (λh=>?_) λh=>?_|fail)
   exact j
 .have N:decide (e.kind=18)=false:=decide_eq_false UW;have d19:decide (e.kind=19)=false:=decide_eq_false UW;by_cases p2:e.kind=1\/e.kind=16\/e.kind=2
  .replace j:=j e.value th.pc (by unfold bY;rw[if_neg Y,if_neg B,if_neg S,if_neg D,if_neg O,if_neg E,if_pos p2]) _ rfl;unfold jl iz jj;unfold gE cU at *;obtain⟨J,M⟩:∃J,J=bV Q:=⟨_,rfl⟩;rw[<-M]at j ⊢;generalize ig s th tb o oc of=T at *;rw[Z]
   repeat' (first|refine st ?_|refine sb λG u=>?_|refine s2 (λh=>?_) λh=>?_|fail)
   all_goals first
    |exact j
    |(exfalso;simp_all<;>omega)
  .replace j:=j e.value (IntKind.i64.wrap (th.pc+1)) (by unfold bY;rw[if_neg Y,if_neg B,if_neg S,if_neg D,if_neg O,if_neg E,if_neg p2]) _ rfl;unfold jl iz jj;unfold gE cU at *;obtain⟨J,M⟩:∃J,J=bV Q:=⟨_,rfl⟩;rw[<-M]at j ⊢;generalize ig s th tb o oc of=T at *;rw[Z]
   repeat' (first|refine st ?_|refine sb λG u=>?_|refine s2 (λh=>?_) λh=>?_|fail)
   all_goals first
    |exact j
    |(exfalso;simp_all<;>omega)
end
end
def KU(q:Nat)(o:Option Nat)(tb:Nat)(l:List aD)(B:q<l.length):iH q o tb l=(l.map aD.enc).set q (cU (l.getD q aD.zero) tb o):=by
 apply Us;intro j;rw[TF];rcases Tf j l.length with u|u
 .rw[s7 _ _ _ _ _ u];by_cases e:q=j
  .subst e;rw[if_pos rfl,if_pos (by simpa using u)];simp[AH,cU,u]
  .rw[if_neg e];simp[AH,show¬j=q from λh=>e h.symm,u]
 .rw[Tg (by rw[dB];exact u),if_neg UW,Tg (by simpa using u)]
def BV(i:aT)(s:aD)(t:Int):(cS i s t).kind=eZ i.op:=by
 unfold cS;dsimp only
 repeat' split
 all_goals rfl
def KV{i:aT}{n:Int}(u:1<=i.op)(h2:i.op<=28)(G:∀r∈aO i,0<=r/\r<n):((eZ i.op=3\/eZ i.op=23\/eZ i.op=5)->0<=i.a/\i.a<n)/\((eZ i.op=4\/eZ i.op=22)->0<=i.b/\i.b<n):=by obtain⟨op,E,D,B,m,j⟩:=i;dsimp only at *;rcases ops op u h2 with rfl|rfl|rfl|rfl|rfl|rfl|rfl|rfl|rfl|rfl|rfl|rfl|rfl|rfl|rfl|rfl|rfl|rfl|rfl|rfl|rfl|rfl|rfl|rfl|rfl|rfl|rfl|rfl<;>simp_all[eZ,gI,aO]
structure RC(c:aY)(s:cy)(t:Int)(e:cu):Prop where
 ready:gT c s t=true
 ra:(e.kind=3\/e.kind=23\/e.kind=5)->0<=(bH (ao c t) (ay s t).pc).a/\(bH (ao c t) (ay s t).pc).a<(ay s t).regs.length
 rb:(e.kind=4\/e.kind=22)->0<=(bH (ao c t) (ay s t).pc).b/\(bH (ao c t) (ay s t).pc).b<(ay s t).regs.length
def d9{c:aY}{s:cy}{t:Int}(h:gT c s t=true):inB t c.ts.length=true/\inB t s.threads.length=true/\inB t s.sync.threads.length=true/\inB (ay s t).pc (ao c t).ins.length=true/\((ay s t).regs.length:Int)=(ao c t).regs/\((ay s t).taint.length:Int)=(ao c t).regs:=by unfold gT at h;simp only[Ty,decide_eq_true_eq]at h;obtain⟨⟨⟨⟨⟨a,b⟩,c⟩,d⟩,e⟩,f⟩:=h;exact⟨a,b,c,d,e,f⟩
def rB{c:aY}{s:cy}{t:Int}{e:cu}(N:∀x∈c.ts,s6 x)(h:co c s t=some e):RC c s t e:=by
 unfold co at h;by_cases j:gT c s t=true
 .rw[if_pos j]at h;obtain⟨S,a2,a3,O,Z,Y⟩:=d9 j;obtain⟨G,E,D⟩:=N _ (eI (d:=⟨0,[]⟩) S) _ (eI (d:=default) O);rw[show(c.ts.getD t.toNat ⟨0,[]⟩).ins.getD (ay s t).pc.toNat default=bH (ao c t) (ay s t).pc from rfl]at G E D;have M:=KV (n:=(ay s t).regs.length) G E (λr j=>by have:=D r j;rw[show(c.ts.getD t.toNat ⟨0,[]⟩).regs=(ao c t).regs from rfl]at this;omega);have u:e.kind=1\/e.kind=17\/e.kind=eZ (bH (ao c t) (ay s t).pc).op:=by
   dsimp only at h;split at h
   .cases h;exact .inl rfl
   .split at h
    .cases h;exact .inr (.inl rfl)
    .split at h
     .split at h
      .cases h;exact .inr (.inr (BV _ _ _))
      .cases h
     .cases h
  refine⟨j,λB=>M.1 ?_,λB=>M.2 ?_⟩
  .rcases u with k|k|k
   .omega
   .omega
   .rw[<-k];exact B
  .rcases u with k|k|k
   .omega
   .omega
   .rw[<-k];exact B
 .rw[if_neg j]at h;cases h
def po(c:aY)(s:cy)(t wake:Int):iG c s t wake=match co c s t with
  |none=>none
  | some e=>if s.cells.length=c.w.cells.length/\s.futures.length=c.w.futures.length then
    (if(eg c.w s.sync t e.kind e.obj wake).2.2 then mf c s t (eg c.w s.sync t e.kind e.obj wake).1 e (bY (bH (ao c t) (ay s t).pc) e s (ay s t) (eg c.w s.sync t e.kind e.obj wake).2.1)else none)else none:=by
 unfold iG mf;rfl
def vU{w:aG}{s:SyncD}{t k o wake:Int}(h:(eg w s t k o wake).2.2=true):allowedS w k o=true:=by
 unfold eg at h;split at h
 .rename_i j;unfold aJ at j;simp only[Ty]at j;exact j.1.2
 .cases h
structure NY(U:List Int)(c:aY)(s:cy):Prop where
 ins:∀x∈c.ts,s6 x
 len:∀x∈c.ts,x.ins.length<2^40
 u30:U.length<=2^30
 thr:∀x∈s.threads,hM U x/\x.ev∈U/\x.regs.length<=2^30
 sm:ED c.w s.sync
 nt:s.threads.length<=2^30
 nc:s.cells.length<2^40
 nf:s.futures.length<2^40
def yZ{U:List Int}{i:aT}{e:cu}{s:cy}{th:aD}{sv:Int}(h:hM U th)(E:th.ev∈U):hM U (bY i e s th sv).thread:=by
 obtain⟨B,u,M,G⟩:=h;have j:hM U ⟨th.pc,th.regs,th.taint.set i.a.toNat [th.ev],th.ev⟩:=by
  refine⟨by simpa using B,u,λl D=>?_,λl D x N=>?_⟩
  .rcases UG D with h|rfl
   .exact M l h
   .simp
  .rcases UG D with h|rfl
   .exact G l h x N
   .rw[Tl.1 N];exact E
 unfold bY;dsimp only
 repeat' split
 all_goals first
  |exact⟨B,u,M,G⟩
  |exact⟨by simpa using B,by simpa using u,j.short,j.sub⟩
def MN(U:List Int)(c:aY)(s:cy)(t wake:Int)(H:NY U c s):aq Tryz.prog 42 [.agg c.enc,.agg s.enc,.agg [.U1 t,.U1 wake]] (ry (iG c s t wake)):=by
 obtain⟨hi,hl,hu,O,hsm,hnt,hnc,hnf⟩:=H;have hp:=MK c s t hi (λx hx r=>by
  have:=(O x hx).1.short;unfold aD.tnt;rcases Tf r.toNat x.taint.length with h|h
  .have:=this _ (Tk h);simp[h];omega
  .simp[List.getD,Tg h])
 rw[po];refine ac.fz (ET _ _ _ _ _ ?_);refine vw ?_;generalize hQ:(λ(v:AV) (L:SH)=>∃v2 L2,az [v] L [v2] L2/\v2=_/\L2=[])=Q;have E:∀v L,Fz L v (ry (match co c s t with
  |none=>none
  | some e=>if s.cells.length=c.w.cells.length/\s.futures.length=c.w.futures.length then
    (if(eg c.w s.sync t e.kind e.obj wake).2.2 then mf c s t (eg c.w s.sync t e.kind e.obj wake).1 e (bY (bH (ao c t) (ay s t).pc) e s (ay s t) (eg c.w s.sync t e.kind e.obj wake).2.1)else none)else none))->Q v L:=λv L h=>by subst hQ;exact⟨_,[],az.all h,rfl,rfl⟩
 clear hQ;have hce:c.enc=[.lst (c.w.cells.map aF.enc),.lst (c.w.locks.map bn.enc),.lst (c.w.conds.map bP.enc),.lst (c.w.futures.map au),.lst (c.w.threads.map au),.lst (c.w.sites.map bQ.enc),.lst (c.ts.map eB.enc)]:=rfl;have hse:s.enc=[.lst (s.sync.locks.map LockD.enc),.U1 s.sync.tx,.lst (s.sync.done.map aB),.lst (s.sync.threads.map ThrD.enc),.lst (s.cells.map ah),.lst (s.futures.map ah),.lst (s.threads.map aD.enc)]:=rfl;cases hpe:co c s t with
 |none=>
  rw[hpe]at hp E;unfold vT at hp;have hz:=λv L (h:v=_)=>E v L (by rw[h];exact lx L)
  unfold aC cH cu.zero cu.enc at *;dsimp only[List.map]at hp;rw[hce,hse]at *
  repeat' (first|refine st ?_|(refine pf 38 ?_;refine pm (hp) ?_)|refine sb λnb_ G=>?_|refine s2 (λh=>?_) λh=>?_|fail)
  exact hz _ _ rfl
 |some e=>
  rw[hpe]at hp E;unfold vT at hp;dsimp only at hp E;have M:=rB hi hpe;have ha:=Kt c.w s.sync t e.kind e.obj wake hsm;have hcp:=MM s t.toNat hnt hnc hnf (λx hx=>⟨(O x hx).1.small,by have:=(O x hx).1.len;have:=(O x hx).2.2;omega,(O x hx).1.short⟩);have een:e.enc=[.U1 e.thread,.U1 e.kind,.U1 e.obj,.U1 e.value,.U1 e.site,.lst (e.deps.map ah),.lst (e.frm.map ah)]:=rfl;generalize hres:eg c.w s.sync t e.kind e.obj wake=r at *;obtain⟨sy,sv,ok⟩:=r;unfold Ko at ha;dsimp only at ha E;by_cases hln:s.cells.length=c.w.cells.length/\s.futures.length=c.w.futures.length
  .rw[if_pos hln]at E;have d1:decide ((s.cells.length:Int)≠c.w.cells.length)=false:=decide_eq_false UW;have d2:decide ((s.futures.length:Int)≠c.w.futures.length)=false:=decide_eq_false UW;cases ok with
   |false=>
    have hz:=λv L (h:v=_)=>E v L (by rw[h];exact lx L)
    unfold aC cH at hz;rw[hce,hse,een]at *
    repeat' (first|refine st ?_|(refine pf 38 ?_;refine pm (hp) ?_)|(refine pf 73 ?_;refine pm (ha) ?_)|refine sb λnb_ G=>?_|refine s2 (λh=>?_) λh=>?_|fail)
    exact hz _ _ rfl
   |true=>
    rw[if_pos rfl]at E;obtain⟨a1,a2,a3,a4,a5,a6⟩:=d9 M.ready;have al:=vU (w:=c.w) (s:=s.sync) (t:=t) (k:=e.kind) (o:=e.obj) (wake:=wake) (by rw[hres]);have hmem:ay s t∈s.threads:=eI (d:=aD.zero) a2;have hT:=O _ hmem;have hobc:e.kind=3\/e.kind=4->inB e.obj s.cells.length=true:=λhk=>by unfold allowedS at al;rw[if_neg UW,if_pos hk]at al;rw[hln.1];exact al
    have hobf:e.kind=22\/e.kind=23->inB e.obj s.futures.length=true:=λhk=>by unfold allowedS at al;rw[if_neg UW,if_neg UW,if_neg UW,if_neg UW,if_neg UW,if_neg UW,if_pos hk]at al;rw[hln.2];exact al
    have B:=yZ (i:=bH (ao c t) (ay s t).pc) (e:=e) (s:=s) (sv:=sv) hT.1 hT.2.1;have u:=Is (ao c t) _ U hu B.small (by rw[B.len];exact B.small) B.short B.sub (hl _ (show ao c t∈c.ts from eI a1));have fin:∀(v:AV) (K:SH) (j b8 b6:Nat),j≠b6->O1 s t.toNat v K->vS Q (.pptr [sy.enc] 0 0) (.pptr [[.U1 t,.U1 wake]] 0 0) (.pptr [c.enc] 0 0) (.ptr j 0 0) (.ptr b6 0 0) (.ptr b8 0 0) (.U1 sv) v ((j,⟨7,[e.enc]⟩)::(b8,⟨7,[cH]⟩)::(b6,⟨7,[aC]⟩)::K):=by
     rintro v K j b8 b6 hn ⟨oc,of,bt,o,tb,rfl,rfl,Y,S,ho⟩;have hlt:t.toNat<s.threads.length:=by have:=av.1 a2;omega
     have e1:(j,(⟨7,[e.enc]⟩:Blk))::(b8,⟨7,[cH]⟩)::(b6,⟨7,[aC]⟩)::((bt,⟨4,iH t.toNat o tb s.threads⟩)::(oH t.toNat o tb s.threads s.threads.length++(ab oc 1 (s.cells.map ah)++ab of 1 (s.futures.map ah))))=jj s t (ay s t) e j b8 b6 bt tb o (ig s (ay s t) tb o oc of):=by rw[KU _ _ _ _ hlt,oH,if_pos hlt];unfold jj ig;rw[TS];rfl
     rw[e1];refine O4 c s t wake a2 a1 _ rfl _ rfl a4 sy sv e j b8 b6 bt tb o oc of Q _ λD=>?_
     have Z:o=none->(ay s t).regs=[]:=λh=>ho h hlt
     have N:(ay s t).taint.length=(ay s t).regs.length:=by omega
     by_cases k3:e.kind=3
     .exact SW c s t wake a2 a1 _ _ sy sv e D j b8 b6 bt tb o oc of hn Z Y S N u Q E k3 (M.ra UW) (hobc UW)
     by_cases k23:e.kind=23
     .exact RA c s t wake a2 a1 _ _ sy sv e D j b8 b6 bt tb o oc of hn Z Y S N u Q E k23 (M.ra UW) (hobf UW)
     by_cases k4:e.kind=4
     .exact SX c s t wake a2 a1 _ _ sy sv e D j b8 b6 bt tb o oc of hn Z Y S N u Q E k4 (M.rb UW) (hobc UW)
     by_cases k22:e.kind=22
     .exact RB c s t wake a2 a1 _ _ sy sv e D j b8 b6 bt tb o oc of hn Z Y S N u Q E k22 (M.rb UW) (hobf UW)
     by_cases k5:e.kind=5
     .exact SY c s t wake a2 a1 _ _ sy sv e D j b8 b6 bt tb o oc of hn Z Y S N u Q E k5 (M.ra UW)
     exact SZ c s t wake a2 a1 _ _ sy sv e D j b8 b6 bt tb o oc of hn Z Y S N u Q E ⟨k3,k23,k4,k22,k5⟩
    unfold aC cH at fin;clear E u B hobc hobf al M hT hmem;rw[hce,hse,een]at *
    repeat' (first|refine st ?_|(refine pf 38 ?_;refine pm (hp) ?_)|(refine pf 73 ?_;refine pm (ha) ?_)|((with_reducible refine bb 74 ?_);(refine nO hcp ?_;intro v K hK;exact fin _ _ _ _ _ (λh_=>by subst h_;simp[SH.names]at G) hK))|refine sb λnb_ G=>?_|refine s2 (λh=>?_) λh=>?_|fail)
  .rw[if_neg hln]at E;have hz:=λv L (h:v=_)=>E v L (by rw[h];exact lx L)
   unfold aC cH at hz;rw[hce,hse,een]at *;by_cases hl1:s.cells.length=c.w.cells.length
   .have d1:decide ((s.cells.length:Int)≠c.w.cells.length)=false:=decide_eq_false UW;have d2:decide ((s.futures.length:Int)≠c.w.futures.length)=true:=decide_eq_true UW
    repeat' (first|refine st ?_|(refine pf 38 ?_;refine pm (hp) ?_)|refine sb λnb_ G=>?_|refine s2 (λh=>?_) λh=>?_|fail)
    exact hz _ _ rfl
   .have d1:decide ((s.cells.length:Int)≠c.w.cells.length)=true:=decide_eq_true UW
    repeat' (first|refine st ?_|(refine pf 38 ?_;refine pm (hp) ?_)|refine sb λnb_ G=>?_|refine s2 (λh=>?_) λh=>?_|fail)
    exact hz _ _ rfl
def oI(t:eB):aD:=⟨0,List.replicate t.regs.toNat 0,List.replicate t.regs.toNat [],0⟩
def O5(l:List eB)(h1:l.length<=1000)(hr:∀t∈l,0<=t.regs/\t.regs<=1000)(u:SyncD)(x y:AV)(hx:∃b n,x=.sl b 0 n)(Y:∃b n,y=.sl b 0 n)(b2 D bt:Nat)(S L0:SH)(Q:R)(hL0:L0.Perm ((bt,⟨4,[]⟩)::(D,⟨7,[[.lst (u.locks.map LockD.enc),.U1 u.tx,.lst (u.done.map aB),.lst (u.threads.map ThrD.enc),x,y,.sl bt 0 0]]⟩)::(b2,⟨7,[aC]⟩)::S))
  (hq:∀(bt:Nat) (L:SH),(bt,(⟨4,(l.map oI).map aD.enc⟩:Blk))∈L->(∀q∈S,q∈L)->Q (.agg [.lst (u.locks.map LockD.enc),.U1 u.tx,.lst (u.done.map aB),.lst (u.threads.map ThrD.enc),x,y,.sl bt 0 l.length]) L) :
  W.loop (sY Q) [.ptr b2 0 0,.ptr D 0 0,.lst (l.map eB.enc),.U1 l.length,.U1 (0:Nat)] L0:=by
 refine bz l.length (λk (O:Nat)=>([.ptr b2 0 0,.ptr D 0 0,.lst (l.map eB.enc),.U1 l.length,.U1 k],(O,⟨4,((l.take k).map oI).map aD.enc⟩)::(D,⟨7,[[.lst (u.locks.map LockD.enc),.U1 u.tx,.lst (u.done.map aB),.lst (u.threads.map ThrD.enc),x,y,.sl O 0 k]]⟩)::(b2,⟨7,[aC]⟩)::S)) (λ_ _=>True) bt trivial (az.forget (K:=[]) hL0) ?_;intro k O hk _;dsimp only;refine vw ?_;obtain⟨bx,nx,rfl⟩:=hx;obtain⟨by_,ny,rfl⟩:=Y;rcases Nat.lt_or_ge k l.length with N|N
 .have hd:=aS N;have Z:=am (f:=eB.enc) N;obtain⟨r1,r2⟩:=hr _ (Tk N);have htk:l.take (k+1)=l.take k++[l[k]]:=Th N;generalize hT:l[k]=tk at *;obtain⟨m,hm⟩:∃m:Nat,tk.regs=(m:Int):=⟨tk.regs.toNat,UW⟩;have hke:tk.enc=[.U1 (m:Int),.lst (tk.ins.map aT.enc)]:=by rw[<-hm];rfl
  rw[hke]at Z
  repeat' (first|refine st ?_|refine fD (i:=m) (j:=m) UW UW UW (λG B=>?_)|refine oG rp rp (by simp;omega) rfl (by simp;omega) (by simp;omega) rfl (λG B=>?_)|refine sb λG B=>?_|fail)
  rename_i kr _ kt _ ka _;refine⟨k+1,G,UW,UW,trivial,?_⟩;rw[aw N UW,htk,Ti,Ti];have e:oI tk=⟨0,List.replicate m 0,List.replicate m [],0⟩:=by unfold oI;rw[hm];rfl
  refine az.row (K:=[(ka,_),(kt,_),(kr,_)]) (R:=(D,_)::(b2,_)::S) (Up (l₁:=[_,_,_])).symm UZ ?_;intro j r r' E M;rcases Tf j (((l.take k).map oI).map aD.enc).length with hj|hj
  .rw[Tq hj]at E M;rw[E]at M;cases M;exact eP.refl _ _
  .rw[Tm hj]at E M;rcases hmm:j-(((l.take k).map oI).map aD.enc).length with _|mm
   .rw[hmm]at E M;cases E;cases M;rw[e];refine .cons (.refl _) (.cons ?_ (.cons ?_ (.cons (.refl _) .nil)))
    .exact Fz.sls (l:=List.replicate m 0) (f:=ah) (.tail _ (.tail _ (.head _))) (by simp[ah]) U0 UZ
    .refine Fz.slm (l:=List.replicate m []) (f:=λ_=>[.nils]) (g:=bC) (.tail _ (.head _)) UZ U0 UZ (λy _=>rfl) (λy Y q a a2 E M=>?_);obtain rfl:=(List.mem_replicate.1 Y).2
     match q with
     |0=>cases E;cases M;exact .nils
   .rw[hmm]at E;simp at E
 .have hd:=aX N;have hk0:k=l.length:=by omega
  subst hk0;rw[TH (Te _)];unfold aC
  repeat' (first|refine st ?_|refine sb λG B=>?_|refine s2 (λh=>?_) λh=>?_|fail)
  exact hq O _ (.head _) (λq h=>by simp[h])
def O6(c:aY)(h1:c.w.cells.length<=1000)(S O N M y z:AV)(b2 j E:Nat)(RR L0:SH)(Q:R)(hL0:L0.Perm ((E,⟨1,[]⟩)::(j,⟨7,[[S,O,N,M,.sl E 0 0,y,z]]⟩)::RR))
  (hq:∀E:Nat,W.loop (sY Q) [.ptr b2 0 0,.ptr j 0 0,.lst (c.ts.map eB.enc),.U1 c.ts.length,.U1 (0:Nat)] ((E,⟨1,(c.w.cells.map aF.init).map ah⟩)::(j,⟨7,[[S,O,N,M,.sl E 0 c.w.cells.length,y,z]]⟩)::RR)) :
  W.loop (sZ Q) [.pptr [c.enc] 0 0,.ptr b2 0 0,.ptr j 0 0,.lst (c.w.cells.map aF.enc),.U1 c.w.cells.length,.U1 (0:Nat)] L0:=by
 refine bz c.w.cells.length (λk (G:Nat)=>([.pptr [c.enc] 0 0,.ptr b2 0 0,.ptr j 0 0,.lst (c.w.cells.map aF.enc),.U1 c.w.cells.length,.U1 k],(G,⟨1,((c.w.cells.take k).map aF.init).map ah⟩)::(j,⟨7,[[S,O,N,M,.sl G 0 k,y,z]]⟩)::RR)) (λ_ _=>True) E trivial (az.forget (K:=[]) hL0) ?_;intro k G hk _;dsimp only;refine vw ?_;rcases Nat.lt_or_ge k c.w.cells.length with D|D
 .have hd:=aS D;have Y:=am (f:=aF.enc) D;have Z:c.w.cells.take (k+1)=c.w.cells.take k++[c.w.cells[k]]:=Th D;generalize hT:c.w.cells[k]=ck at *;have hce:ck.enc=[.str ck.name,.U1 ck.index,.U1 ck.size,.bool ck.vol,.U1 ck.init]:=rfl;rw[hce]at Y
  repeat' (first|refine st ?_|refine oG rp rp (by simp;omega) rfl (by simp;omega) (by simp;omega) rfl (λB u=>?_)|refine sb λB u=>?_|fail)
  refine⟨k+1,B,UW,UW,trivial,?_⟩;rw[aw D UW,Z,Ti,Ti];exact az.forget (K:=[(_,_)]) (List.Perm.swap _ _ _)
 .have hk0:k=c.w.cells.length:=by omega
  subst hk0;rw[TH (Te _)];have:=hq G;have hd:=aX D;rw[show c.enc=[.lst (c.w.cells.map aF.enc),.lst (c.w.locks.map bn.enc),.lst (c.w.conds.map bP.enc),.lst (c.w.futures.map au),.lst (c.w.threads.map au),.lst (c.w.sites.map bQ.enc),.lst (c.ts.map eB.enc)]from rfl]
  repeat' (first|exact this|refine st ?_|refine sb λB u=>?_|refine s2 (λh=>?_) λh=>?_|fail)
def IB(c:aY)(h1:c.w.cells.length<=100)(h2:c.w.locks.length<=100)(h3:c.w.futures.length<=100)(h4:c.w.threads.length<=100)(h5:c.ts.length<=1000)(hr:∀t∈c.ts,0<=t.regs/\t.regs<=1000):aq Tryz.prog 36 [.agg c.enc] (.agg (bL c).enc):=by
 have N:=Kz c.w h2 h3 h4;refine ac.fz (C0 _ _ _ ?_);refine vw ?_;generalize hQ:(λ(v:AV) (L:SH)=>∃v2 L2,az [v] L [v2] L2/\v2=AV.agg (bL c).enc/\L2=[])=Q;have hq:∀v L,Fz L v (.agg (bL c).enc)->Q v L:=λv L h=>by subst hQ;exact⟨_,[],az.all h,rfl,rfl⟩
 clear hQ;have Y:c.w.enc=[.lst (c.w.cells.map aF.enc),.lst (c.w.locks.map bn.enc),.lst (c.w.conds.map bP.enc),.lst (c.w.futures.map au),.lst (c.w.threads.map au),.lst (c.w.sites.map bQ.enc)]:=rfl;have hce:c.enc=[.lst (c.w.cells.map aF.enc),.lst (c.w.locks.map bn.enc),.lst (c.w.conds.map bP.enc),.lst (c.w.futures.map au),.lst (c.w.threads.map au),.lst (c.w.sites.map bQ.enc),.lst (c.ts.map eB.enc)]:=rfl;rw[Y]at N;have Z:(a7 c.w).enc=[.lst ((a7 c.w).locks.map LockD.enc),.U1 (a7 c.w).tx,.lst ((a7 c.w).done.map aB),.lst ((a7 c.w).threads.map ThrD.enc)]:=rfl;rw[Z]at N;rw[hce];generalize hsg:a7 c.w=u at *;have lp:∀(S D G E O:Nat) (L:SH),L=(D,⟨7,[[.lst (u.locks.map LockD.enc),.U1 u.tx,.lst (u.done.map aB),.lst (u.threads.map ThrD.enc),.sl G 0 0,.sl E 0 c.w.futures.length,.sl O 0 0]]⟩)::(O,⟨4,[]⟩)::(E,⟨1,List.replicate c.w.futures.length [.U1 0]⟩)::(G,⟨1,[]⟩)::[(S,⟨7,[aC]⟩)]->
   W.loop (sZ Q) [.pptr [c.enc] 0 0,.ptr S 0 0,.ptr D 0 0,.lst (c.w.cells.map aF.enc),.U1 c.w.cells.length,.U1 (0:Nat)] L:=by
  rintro S D G E O L rfl;refine O6 c UW (.lst (u.locks.map LockD.enc)) (.U1 u.tx) (.lst (u.done.map aB)) (.lst (u.threads.map ThrD.enc)) (.sl E 0 c.w.futures.length) (.sl O 0 0) S D G ((O,⟨4,[]⟩)::(E,⟨1,List.replicate c.w.futures.length [.U1 0]⟩)::[(S,⟨7,[aC]⟩)]) _ Q ?_ λG=>?_
  .exact Up (l₁:=[_,_,_]) (l₂:=[_])
  refine O5 c.ts h5 hr u (.sl G 0 c.w.cells.length) (.sl E 0 c.w.futures.length) ⟨G,_,rfl⟩ ⟨E,_,rfl⟩ S D O [(G,⟨1,(c.w.cells.map aF.init).map ah⟩),(E,⟨1,List.replicate c.w.futures.length [.U1 0]⟩)] _ Q ?_ λO L hm hL=>?_
  .exact(Up (l₁:=[_,_])).trans (((List.Perm.swap _ _ _).trans ((Up (l₁:=[_,_])).cons _)).cons _)
  refine hq _ _ ?_;have he:(bL c).enc=[.lst (u.locks.map LockD.enc),.U1 u.tx,.lst (u.done.map aB),.lst (u.threads.map ThrD.enc),.lst ((c.w.cells.map aF.init).map ah),.lst ((List.replicate c.w.futures.length (0:Int)).map ah),.lst ((c.ts.map oI).map aD.enc)]:=by unfold bL cy.enc;rw[hsg];rfl
  rw[he];refine Fz.aggs (.cons (.refl _) (.cons (.refl _) (.cons (.refl _) (.cons (.refl _) (.cons ?_ (.cons ?_ (.cons ?_ .nil)))))))
  .exact Fz.sls (hL _ (.head _)) rfl U0 UZ
  .exact Fz.sls (hL _ (.tail _ (.head _))) (by simp[ah]) U0 UZ
  .exact Fz.sls hm rfl U0 UZ
 repeat' (first|exact lp _ _ _ _ _ _ rfl|refine st ?_|(refine pf 69 ?_;refine pm (N) ?_)|refine fD (i:=0) (j:=c.w.cells.length) UW UW UW (λM B=>?_)|refine fD (i:=c.w.futures.length) (j:=c.w.futures.length) UW UW UW (λM B=>?_)|refine fD (i:=0) (j:=c.ts.length) UW UW UW (λM B=>?_)|refine sb λM B=>?_|refine s2 (λh=>?_) λh=>?_|fail)
def U9:List Int:=(List.range 401).map λk:Nat=>(k:Int)
def KW{n:Int}(u:0<=n)(j:n<=400):n∈U9:=TR.2 ⟨n.toNat,Uk.2 UW,UW⟩
def KX:U9.length<=2^30:=by simp[U9]
structure kB(c:aY)(n:Nat)(s:cy):Prop where
 thr:∀x∈s.threads,hM U9 x/\0<=x.ev/\x.ev<=n/\x.regs.length<=1000
 nt:s.threads.length<=1000
 lk:s.sync.locks.length<=1000
 rd:∀l∈s.sync.locks,l.readers.length<=n
 dn:s.sync.done.length<=1000
 th:s.sync.threads.length<=1000
 nc:s.cells.length<=1000
 nf:s.futures.length<=1000
structure O7(s s':SyncD)(n:Nat):Prop where
 lk:s'.locks.length=s.locks.length
 dn:s'.done.length=s.done.length
 th:s'.threads.length=s.threads.length
 rd:∀l∈s'.locks,l.readers.length<=n+1
def IC(l:List Int)(t:Int):(sJ l t).length<=l.length+1:=by unfold sJ;have:=nP (uq (l++[t]));rw[pg]at this;simpa using this
def ID{s:SyncD}{n:Nat}(h:∀l∈s.locks,l.readers.length<=n)(o:Int):(aH s o).readers.length<=n:=by
 unfold aH;rcases Tf o.toNat s.locks.length with j|j
 .simpa[List.getD,j]using h _ (Tk j)
 .simp[List.getD,Tg j];exact TG _
def IE{w:aG}{s:SyncD}{t k o wake:Int}{n:Nat}(h:∀l∈s.locks,l.readers.length<=n):O7 s (bG w s t k o wake).1 n:=by
  have j:∀l∈s.locks,l.readers.length<=n+1:=λl u=>Uw (h l u)
  have lk:∀(i:Int) (f:LockD->LockD),(∀x,x.readers.length<=n->(f x).readers.length<=n+1)->∀l∈cf s i f,l.readers.length<=n+1:=λi f D l u=>by
    unfold cf at u;rcases UG u with E|rfl
    · exact j l E
    · exact D _ (ID h i)
  have own:∀(i v:Int),∀l∈cf s i (λx=>{x with owner:=v}),l.readers.length<=n+1:=λi v=>lk i _ λx B=>Uw B
  have G:∀(i:Int) (f:LockD->LockD),(cf s i f).length=s.locks.length:=λi f=>by simp[cf]
  have tl:∀(i:Int) (f:ThrD->ThrD),(c9 s i f).length=s.threads.length:=λi f=>by simp[c9]
  unfold bG
  repeat' refine iteInduction (motive:=λx:SyncD×Int=>O7 s x.1 n) (λ_=>?_) (λ_=>?_)
  all_goals refine⟨by simp[cf],UZ,by simp[c9,uy,cB,BL],?_⟩
  all_goals first
    |exact j
    | (intro l u; dsimp only at u
       refine lk _ _ (λx B=>?_) l u;dsimp only
       first
         |exact Uw B
         |exact Tx (IC _ _) (Nat.succ_le_succ B)
         |exact Tx (Ux _ _) (Uw B))
def mg{i:aT}{e:cu}{s:cy}{th:aD}{sv:Int}:(bY i e s th sv).thread.ev=IntKind.i64.wrap (th.ev+1)/\(bY i e s th sv).thread.regs.length=th.regs.length/\(bY i e s th sv).cells.length=s.cells.length/\(bY i e s th sv).futures.length=s.futures.length:=by
 unfold bY;dsimp only
 repeat' split
 all_goals exact⟨rfl,UZ,UZ,UZ⟩
def MO{i:aT}{s s2:aD}(h:aM i s=some s2):s2.ev=s.ev:=by
 unfold aM at h
 repeat' split at h
 all_goals first
  |(cases h;rfl)
  |cases h
def O8{j:List aT}:∀(k:Nat) {s y:aD},dT j k s=(y,true)->y.ev=s.ev/\y.regs.length=s.regs.length:=by
 intro k
 induction k with
 |zero=>
  intro s y h;unfold dT at h
  repeat' split at h
  all_goals first
   |(cases h;exact⟨rfl,rfl⟩)
   |cases h
 |succ k B=>
  intro s y h;unfold dT at h;split at h
  .split at h
   .cases h;exact⟨rfl,rfl⟩
   .split at h
    .cases h
    .rename_i s2 u;obtain⟨a,b⟩:=B h;rw[a,b,MO u,(uD u).1];exact⟨rfl,rfl⟩
  .cases h
def BW{c:eB}{s y:aD}(h:aU c s=(y,true)):y.ev=s.ev/\y.regs.length=s.regs.length:=by
 unfold aU at h;split at h
 .exact O8 _ h
 .cases h
structure RD(c:aY)(s:cy)(t wake:Int)(s':cy)(e':cu):Prop where
 ex:∃(e:cu) (th':aD),co c s t=some e/\(eg c.w s.sync t e.kind e.obj wake).2.2=true/\s.cells.length=c.w.cells.length/\s.futures.length=c.w.futures.length/\
  (th'=(bY (bH (ao c t) (ay s t).pc) e s (ay s t) (eg c.w s.sync t e.kind e.obj wake).2.1).thread\/aU (ao c t) (bY (bH (ao c t) (ay s t).pc) e s (ay s t) (eg c.w s.sync t e.kind e.obj wake).2.1).thread=(th',true))/\
  s'=⟨(eg c.w s.sync t e.kind e.obj wake).1,(bY (bH (ao c t) (ay s t).pc) e s (ay s t) (eg c.w s.sync t e.kind e.obj wake).2.1).cells,(bY (bH (ao c t) (ay s t).pc) e s (ay s t) (eg c.w s.sync t e.kind e.obj wake).2.1).futures,s.threads.set t.toNat th'⟩/\
  e'={e with value:=(bY (bH (ao c t) (ay s t).pc) e s (ay s t) (eg c.w s.sync t e.kind e.obj wake).2.1).value}
def y5{c:aY}{s u:cy}{t wake:Int}{D:cu}(h:iG c s t wake=some (u,D)):RD c s t wake u D:=by
 rw[po]at h;cases hp:co c s t with
 |none=>rw[hp]at h;cases h
 |some e=>
  rw[hp]at h;dsimp only at h;split at h
  .rename_i j;split at h
   .rename_i B;unfold mf at h;split at h
    .split at h
     .rename_i E;cases h;exact⟨e,_,hp,B,j.1,j.2,.inr (Prod.ext rfl E),rfl,rfl⟩
     .cases h
    .cases h;exact⟨e,_,hp,B,j.1,j.2,.inl rfl,rfl,rfl⟩
   .cases h
  .cases h
def KY{c:aY}{s M:cy}{t wake:Int}{e':cu}{n:Nat}(hn:n<400)(H:kB c n s)(hi:∀x∈c.ts,s6 x)(h:iG c s t wake=some (M,e')):kB c (n+1) M:=by
 obtain⟨e,j,hp,G,hl1,hl2,E,rfl,rfl⟩:=y5 h;have a2:=(d9 (rB hi hp).ready).2.1;have u:ay s t∈s.threads:=eI (d:=aD.zero) a2;obtain⟨t1,t2,t3,t4⟩:=H.thr _ u;have at_:=yZ (U:=U9) (i:=bH (ao c t) (ay s t).pc) (e:=e) (s:=s) (sv:=(eg c.w s.sync t e.kind e.obj wake).2.1) t1 (KW t2 UW);obtain⟨N,Z,Y,S⟩:=mg (i:=bH (ao c t) (ay s t).pc) (e:=e) (s:=s) (th:=ay s t) (sv:=(eg c.w s.sync t e.kind e.obj wake).2.1);rw[TY _ UW]at N;have B:O7 s.sync (eg c.w s.sync t e.kind e.obj wake).1 n:=by
  unfold eg at G ⊢;split
  .exact IE H.rd
  .rename_i he;rw[if_neg he]at G;cases G
 have D:hM U9 j/\j.ev=(ay s t).ev+1/\j.regs.length=(ay s t).regs.length:=by
  rcases E with rfl|O
  .exact⟨at_,N,Z⟩
  .have:=EL (c:=ao c t) KX at_;rw[O]at this;obtain⟨a,b⟩:=BW O;exact⟨this,UW,UW⟩
 refine⟨λx hx=>?_,by simpa using H.nt,by rw[B.lk];exact H.lk,B.rd,by rw[B.dn];exact H.dn,by rw[B.th];exact H.th,by rw[Y];exact H.nc,by rw[S];exact H.nf⟩;rcases UG hx with h1|rfl
 .obtain⟨b1,b2,b3,b4⟩:=H.thr x h1;exact⟨b1,b2,UW,b4⟩
 .exact⟨D.1,UW,UW,UW⟩
def EW{c:aY}{s:cy}{n:Nat}(M:n<=400)(H:kB c n s)(B:∀x∈c.ts,s6 x)(u:∀x∈c.ts,x.ins.length<2^40)(D:c.w.conds.length<2^40):NY U9 c s where
 ins:=B
 len:=u
 u30:=KX
 thr:=λx j=>by obtain⟨G,E,O,N⟩:=H.thr x j;exact⟨G,KW E UW,UW⟩
 sm:=⟨D,by have:=H.lk;omega,by have:=H.dn;omega,by have:=H.th;omega,λl h=>by have:=H.rd l h;omega⟩
 nt:=by have:=H.nt;omega
 nc:=by have:=H.nc;omega
 nf:=by have:=H.nf;omega
def cX(c:aY)(l:List cK)(p:List cu×cy):List cu×cy:=l.foldl (BT c) p
def uU(c:aY):∀(l:List cK) (p:List cu×cy),400<=p.1.length->cX c l p=p
 |[],p,_=>rfl
 | ch::l,p,h=>by
  show cX c l (BT c p ch)=p;have e:BT c p ch=p:=by unfold BT;rw[if_pos h]
  rw[e];exact uU c l p h
def BX(c:aY)(l:List cK)(k:Nat)(p:List cu×cy):cX c l p=cX c (l.drop k) (cX c (l.take k) p):=by unfold cX;rw[<-List.foldl_append,List.take_append_drop]
def BY(c:aY)(l:List cK)(k:Nat)(j:k<l.length)(p:List cu×cy):cX c (l.take (k+1)) p=BT c (cX c (l.take k) p) l[k]:=by unfold cX;rw[Th j,List.foldl_append];rfl
structure BZ(c:aY):Prop where
 ins:∀x∈c.ts,s6 x
 len:∀x∈c.ts,x.ins.length<2^40
 con:c.w.conds.length<2^40
def C5{c:aY}(D:BZ c){p:List cu×cy}{ch:cK}(h:kB c p.1.length p.2)(j:p.1.length<=400):kB c (BT c p ch).1.length (BT c p ch).2/\(BT c p ch).1.length<=400:=by
 unfold BT;split
 .exact⟨h,j⟩
 .rename_i B;split
  .exact⟨h,j⟩
  .rename_i n e u;have:=KY UW h D.ins u;exact⟨by simpa using this,by simp;omega⟩
def xy{c:aY}(B:BZ c)(l:List cK){p:List cu×cy}(h:kB c p.1.length p.2)(j:p.1.length<=400):kB c (cX c l p).1.length (cX c l p).2/\(cX c l p).1.length<=400:=by
 induction l generalizing p with
 |nil=>exact⟨h,j⟩
 |cons ch l u=>obtain⟨a,b⟩:=C5 (ch:=ch) B h j;exact u a b
def AI(p:List cu×cy):AV:=.tup [.lst (p.1.map cu.enc),.agg p.2.enc]
def KZ(c:aY)(hc:BZ c)(l:List cK)(hl:l.length<2^62)(D:cy)(h0:kB c 0 D)(b2 O:Nat)(Q:R)(hq:∀v L,Fz L v (AI (cX c l ([],D)))->Q v L):
  W.loop (AD (kz Q)) [.pptr [c.enc] 0 0,.ptr b2 0 0,.ptr O 0 0,.nils,.lst (l.map cK.enc),.U1 l.length,.U1 (0:Nat)] [(O,⟨7,[D.enc]⟩),(b2,⟨7,[aC]⟩)]:=by
 refine bz l.length (λk (o:Option Nat)=>([.pptr [c.enc] 0 0,.ptr b2 0 0,.ptr O 0 0,aj o (cX c (l.take k) ([],D)).1.length,.lst (l.map cK.enc),.U1 l.length,.U1 k],(O,⟨7,[(cX c (l.take k) ([],D)).2.enc]⟩)::(b2,⟨7,[aC]⟩)::ab o 7 ((cX c (l.take k) ([],D)).1.map cu.enc))) (λk o=>o=none->(cX c (l.take k) ([],D)).1=[]) none (λ_=>rfl) (az.drop (K:=[]) (.refl _) rfl (eP.at_ (.cons (.refl _) (.cons (.refl _) (.cons (.refl _) (.cons .nile (.cons (.refl _) (.cons (.refl _) (.cons (.refl _) .nil)))))))).2) ?_;intro k o hk ho;dsimp only;have hiv:=xy hc (l.take k) (p:=([],D)) h0 (Nat.zero_le _);have B:=BX c l k ([],D);have u:=λ(h:k<l.length)=>BY c l k h ([],D);generalize hp:cX c (l.take k) ([],D)=p at *;obtain⟨ev,Y⟩:=p;dsimp only at *;have fin:cX c l ([],D)=(ev,Y)->∀L,(∀q∈ab o 7 (ev.map cu.enc),q∈L)->Q (.tup [aj o ev.length,.agg Y.enc]) L:=λhe L hm=>by
  refine hq _ _ ?_;rw[he];refine Fz.tups (.cons ?_ (.cons (.refl _) .nil));cases o with
  |none=>rw[ho rfl];exact .emp
  |some b=>exact Fz.sls (hm _ (.head _)) rfl U0 rfl
 refine vw ?_;obtain⟨J,hJ⟩:∃J,J=kz Q:=⟨_,rfl⟩;have jn:cX c l ([],D)=(ev,Y)->J [.ptr b2 0 0,.ptr O 0 0,aj o ev.length] ((O,⟨7,[Y.enc]⟩)::(b2,⟨7,[aC]⟩)::ab o 7 (ev.map cu.enc)):=λhe=>by
  have fin:=fin he;rw[hJ];unfold kz aC cy.enc at *;cases o
  all_goals
   dsimp only[aj,ab]at *
   repeat' (first|refine st ?_|refine sb λS M=>?_|refine s2 (λh=>?_) λh=>?_|fail)
   exact fin _ UZ
 rw[<-hJ];clear fin hJ;rcases Tf k l.length with g1|g1
 .have hd:=aS g1;have hx:=am (f:=cK.enc) g1;have u:=u g1;generalize hch:l[k]=ch at *;obtain⟨ct,cw⟩:=ch;unfold cK.enc at hx;dsimp only at hx;by_cases E:400<=ev.length
  .have jn:=jn (by rw[B];exact uU c _ _ E);have d4:decide ((ev.length:Int)>=400)=true:=decide_eq_true UW;clear hq B u hp;cases o with
   |none=>rw[ho rfl]at E;simp at E
   |some bo=>
    dsimp only[aj,ab]at *
    repeat' (first|exact jn|refine st ?_|refine sb λS M=>?_|refine s2 (λh=>?_) λh=>?_|fail)
  .have d4:decide ((ev.length:Int)>=400)=false:=decide_eq_false UW;have G:=MN U9 c Y ct cw (EW hiv.2 hiv.1 hc.ins hc.len hc.con);have N:BT c (ev,Y) ⟨ct,cw⟩=match iG c Y ct cw with
    |none=>(ev,Y)
    |some (n,e)=>(ev++[e],n):=by unfold BT;rw[if_neg E];rfl
   clear hq B jn;cases hs:iG c Y ct cw with
   |none=>
    rw[hs]at G N;dsimp only at N;unfold ry at G;have hz:cy.zero.enc=[.lst [],.U1 0,.lst [],.lst [],.lst [],.lst [],.lst []]:=rfl;rw[hz,show cu.zero.enc=[.U1 0,.U1 0,.U1 0,.U1 0,.U1 0,.lst [],.lst []]from rfl]at G;have fin2:∀L,L=(O,(⟨7,[Y.enc]⟩:Blk))::(b2,⟨7,[aC]⟩)::ab o 7 (ev.map cu.enc)->∃(j:Nat) (Z:Option Nat),k<j/\j<=l.length/\(Z=none->(cX c (l.take j) ([],D)).1=[])/\az [.pptr [c.enc] 0 0,.ptr b2 0 0,.ptr O 0 0,aj o ev.length,.lst (l.map cK.enc),.U1 l.length,.U1 (IntKind.i64.wrap ((k:Int)+1))] L
      [.pptr [c.enc] 0 0,.ptr b2 0 0,.ptr O 0 0,aj Z (cX c (l.take j) ([],D)).1.length,.lst (l.map cK.enc),.U1 l.length,.U1 j] ((O,⟨7,[(cX c (l.take j) ([],D)).2.enc]⟩)::(b2,⟨7,[aC]⟩)::ab Z 7 ((cX c (l.take j) ([],D)).1.map cu.enc)):=by
     rintro L rfl;refine⟨k+1,o,UW,UW,?_,?_⟩
     .rw[u,N];exact ho
     .rw[u,N,aw g1 hl];exact .refl _ _
    cases o
    all_goals
     dsimp only[aj,ab]at *
     repeat' (first|refine st ?_|(refine pf 42 ?_;refine pm (G) ?_)|refine sb λS M=>?_|refine s2 (λh=>?_) λh=>?_|fail)
     exact fin2 _ rfl
   |some r=>
    obtain⟨n,e⟩:=r;rw[hs]at G N;dsimp only at N;unfold ry at G;have hn:n.enc=[.lst (n.sync.locks.map LockD.enc),.U1 n.sync.tx,.lst (n.sync.done.map aB),.lst (n.sync.threads.map ThrD.enc),.lst (n.cells.map ah),.lst (n.futures.map ah),.lst (n.threads.map aD.enc)]:=rfl;have he:e.enc=[.U1 e.thread,.U1 e.kind,.U1 e.obj,.U1 e.value,.U1 e.site,.lst (e.deps.map ah),.lst (e.frm.map ah)]:=rfl;dsimp only at G;have fin3:∀(nb:Nat) (L:SH),fE L ((O,(⟨7,[n.enc]⟩:Blk))::(b2,⟨7,[aC]⟩)::ab (some nb) 7 (ev.map cu.enc++[e.enc]))->∃(j:Nat) (Z:Option Nat),k<j/\j<=l.length/\(Z=none->(cX c (l.take j) ([],D)).1=[])/\az [.pptr [c.enc] 0 0,.ptr b2 0 0,.ptr O 0 0,.sl nb 0 (ev.length+1),.lst (l.map cK.enc),.U1 l.length,.U1 (IntKind.i64.wrap ((k:Int)+1))] L
      [.pptr [c.enc] 0 0,.ptr b2 0 0,.ptr O 0 0,aj Z (cX c (l.take j) ([],D)).1.length,.lst (l.map cK.enc),.U1 l.length,.U1 j] ((O,⟨7,[(cX c (l.take j) ([],D)).2.enc]⟩)::(b2,⟨7,[aC]⟩)::ab Z 7 ((cX c (l.take j) ([],D)).1.map cu.enc)):=by
     intro nb L hL;refine⟨k+1,some nb,UW,UW,nofun,?_⟩;rw[u,N,aw g1 hl];exact az.pickE hL (by simp[aj]) UZ
    rw[hn,he]at *;have hev400:ev.length<2^30:=by omega
    repeat' (first|refine st ?_|(refine pf 42 ?_;refine pm (G) ?_)|refine bA rp rp UZ (λe=>by first|simp[ho e]) UY UZ (by simp;omega) (by simp;omega) UY (λS M=>?_)|refine CZ ?_ (λe=>by rw[ho e];rfl)|refine sb λS M=>?_|refine s2 (λh=>?_) λh=>?_|fail)
    exact fin3 _ _ rp
 .have hd:=aX g1;have hk0:k=l.length:=by omega
  subst hk0;have jn:=jn (by rw[B,List.drop_of_length_le (Te _)];rfl);clear hq B u hp
  repeat' (first|exact jn|refine st ?_|refine sb λS M=>?_|refine s2 (λh=>?_) λh=>?_|fail)
section
open Go.RowKit
def Gq(xs:List aF)(G:xs.length<=1000):aq Tryz.prog 62 [.lst (xs.map aF.enc)] (.lst (xs.map aF.enc)):=by
 refine ac.fz ((fV (λA n c xs w B E u D=>cloneWc_any A n c xs w B E u D) ⟨_,_,Tryz.func62,rfl⟩ (xs.map aF.enc) (by rw[Tv];intro r j;obtain⟨x,_,rfl⟩:=TR.1 j;rfl) (λr j=>by obtain⟨x,_,rfl⟩:=TR.1 j;rfl) (by simp;omega)).mono ?_);rintro v L ⟨o,rfl,rfl,h⟩;refine⟨_,[],az.all ?_,rfl,rfl⟩;cases o with
 |none=>rw[h rfl];exact .refl _
 |some b=>exact Fz.sls (.head _) rfl U0 UZ
def Gr(xs:List bn)(G:xs.length<=1000):aq Tryz.prog 63 [.lst (xs.map bn.enc)] (.lst (xs.map bn.enc)):=by
 refine ac.fz ((fV (λA n c xs w B E u D=>cloneWl_any A n c xs w B E u D) ⟨_,_,Tryz.func63,rfl⟩ (xs.map bn.enc) (by rw[Tv];intro r j;obtain⟨x,_,rfl⟩:=TR.1 j;rfl) (λr j=>by obtain⟨x,_,rfl⟩:=TR.1 j;rfl) (by simp;omega)).mono ?_);rintro v L ⟨o,rfl,rfl,h⟩;refine⟨_,[],az.all ?_,rfl,rfl⟩;cases o with
 |none=>rw[h rfl];exact .refl _
 |some b=>exact Fz.sls (.head _) rfl U0 UZ
def Gs(xs:List bP)(G:xs.length<=1000):aq Tryz.prog 64 [.lst (xs.map bP.enc)] (.lst (xs.map bP.enc)):=by
 refine ac.fz ((fV (λA n c xs w B E u D=>cloneWd_any A n c xs w B E u D) ⟨_,_,Tryz.func64,rfl⟩ (xs.map bP.enc) (by rw[Tv];intro r j;obtain⟨x,_,rfl⟩:=TR.1 j;rfl) (λr j=>by obtain⟨x,_,rfl⟩:=TR.1 j;rfl) (by simp;omega)).mono ?_);rintro v L ⟨o,rfl,rfl,h⟩;refine⟨_,[],az.all ?_,rfl,rfl⟩;cases o with
 |none=>rw[h rfl];exact .refl _
 |some b=>exact Fz.sls (.head _) rfl U0 UZ
def Gt(xs:List bQ)(G:xs.length<=1000):aq Tryz.prog 66 [.lst (xs.map bQ.enc)] (.lst (xs.map bQ.enc)):=by
 refine ac.fz ((fV (λA n c xs w B E u D=>cloneWs_any A n c xs w B E u D) ⟨_,_,Tryz.func66,rfl⟩ (xs.map bQ.enc) (by rw[Tv];intro r j;obtain⟨x,_,rfl⟩:=TR.1 j;rfl) (λr j=>by obtain⟨x,_,rfl⟩:=TR.1 j;rfl) (by simp;omega)).mono ?_);rintro v L ⟨o,rfl,rfl,h⟩;refine⟨_,[],az.all ?_,rfl,rfl⟩;cases o with
 |none=>rw[h rfl];exact .refl _
 |some b=>exact Fz.sls (.head _) rfl U0 UZ
def y6(xs:List bv)(G:xs.length<=1000):aq Tryz.prog 65 [.lst (xs.map au)] (.lst (xs.map au)):=by
 refine ac.fz ((fV (λA n c xs w B E u D=>cloneWt_any A n c xs w B E u D) ⟨_,_,Tryz.func65,rfl⟩ (xs.map au) (by rw[Tv];intro r j;obtain⟨x,_,rfl⟩:=TR.1 j;rfl) (λr j=>by obtain⟨x,_,rfl⟩:=TR.1 j;rfl) (by simp;omega)).mono ?_);rintro v L ⟨o,rfl,rfl,h⟩;refine⟨_,[],az.all ?_,rfl,rfl⟩;cases o with
 |none=>rw[h rfl];exact .refl _
 |some b=>exact Fz.sls (.head _) rfl U0 UZ
end
end Go.Proofs.YtbofdbhnbodbiaaGreatDoor.Am
