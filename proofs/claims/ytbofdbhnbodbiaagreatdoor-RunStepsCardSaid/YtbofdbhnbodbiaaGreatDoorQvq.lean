/- A part of the proof; the statement is proved in the last part. -/
import Derived.Test.YtbofdbhnbodbiaaGreatDoorQvp
set_option linter.all false
set_option maxRecDepth 100000
set_option maxHeartbeats 20000000
namespace Go.Proofs.YtbofdbhnbodbiaaGreatDoor.Am
def vt:RF:=nv (bO Tryz.prog Tryz.f14 [] [(0,[1])])
abbrev Ej(a:AV)(L:SH)(Q:R):Prop:=Pc vt 20 Q 0 [] [a] L
def Cx(j:AV)(L:SH)(Q:R)(h:Ej j L Q):ac Tryz.prog 14 [j] L Q:=
 fv vt Tryz.func14 h
def qf:RF:=nv (bO Tryz.prog Tryz.f16 [] [(0,[3,4])])
abbrev Al(a b c:AV)(L:SH)(Q:R):Prop:=Pc qf 20 Q 0 [] [a,b,c] L
def yE(j t1 t2:AV)(L:SH)(Q:R)(h:Al j t1 t2 L Q):ac Tryz.prog 16 [j,t1,t2] L Q:=
 fv qf Tryz.func16 h
def qg:RF:=nv (bO Tryz.prog Tryz.f21 [] [(0,[3,4]),(1,[7])])
abbrev An(a b c:AV)(L:SH)(Q:R):Prop:=Pc qg 20 Q 0 [] [a,b,c] L
def yF(j t1 t2:AV)(L:SH)(Q:R)(h:An j t1 t2 L Q):ac Tryz.prog 21 [j,t1,t2] L Q:=
 fv qg Tryz.func21 h
def yG:RF:=nv (bO Tryz.prog Tryz.f18 [] [(0,[3,4,5])])
abbrev FV(a b c:AV)(L:SH)(Q:R):Prop:=Pc yG 20 Q 0 [] [a,b,c] L
def vu(j t1 t2:AV)(L:SH)(Q:R)(h:FV j t1 t2 L Q):ac Tryz.prog 18 [j,t1,t2] L Q:=
 fv yG Tryz.func18 h
def jO:RF:=nv (bO Tryz.prog Tryz.f36 [(24,⟨[2,3,43,44,45],[],true,[]⟩),(9,⟨[1,2,3,28,29,30],[],true,[]⟩)] [(0,[1]),(4,[5]),(9,[7])])
abbrev sJ(Q:R):Vs->SH->Kn->Prop:=Lp jO 18 Q 24 []
abbrev sK(Q:R):Vs->SH->Kn->Prop:=Lp jO 19 Q 9 []
abbrev Ek(a:AV)(L:SH)(Q:R):Prop:=Pc jO 20 Q 0 [] [a] L
def Cy(j:AV)(L:SH)(Q:R)(h:Ek j L Q):ac Tryz.prog 36 [j] L Q:=
 fv jO Tryz.func36 h
def qh:RF:=nv (bO Tryz.prog Tryz.f38 [] [(0,[3,4]),(3,[8,9,10]),(6,[11])])
abbrev Ao(a b c:AV)(L:SH)(Q:R):Prop:=Pc qh 20 Q 0 [] [a,b,c] L
def yH(j t1 t2:AV)(L:SH)(Q:R)(h:Ao j t1 t2 L Q):ac Tryz.prog 38 [j,t1,t2] L Q:=
 fv qh Tryz.func38 h
def jP:RF:=nv (bO Tryz.prog Tryz.f70 [(36031,⟨[3,4,6,7,19,49],[],true,[]⟩),(18013,⟨[3,4,6,7,19,20],[],true,[]⟩)] [(0,[3,4])])
abbrev cR(a b c:AV)(L:SH)(Q:R):Prop:=Pc jP 20 Q 0 [] [a,b,c] L
def re(j t1 t2:AV)(L:SH)(Q:R)(h:cR j t1 t2 L Q):ac Tryz.prog 70 [j,t1,t2] L Q:=
 fv jP Tryz.func70 h
def gO:RF:=nv (bO Tryz.prog Tryz.f42 [(132127,⟨[6,7,9,13],[],true,[]⟩),(111106,⟨[3,5,6,7,9,13,14,17],[],true,[]⟩),(4202,⟨[3,5,6,7,9,13,14,15,16,17],[111106],false,[]⟩),(108103,⟨[3,5,6,7,9,13,14,17,215],[111106],false,[]⟩),(96091,⟨[3,5,6,7,9,12,13,14,17,105,210],[111106],false,[]⟩),(4802,⟨[3,5,6,7,9,12,13,14,15,16,17,105],[111106],false,[]⟩),(2108,⟨[3,5,6,7,9,11,12,74],[],true,[]⟩)] [(0,[3,4,5]),(4,[11]),(10,[15]),(39,[18])])
abbrev bV(Q:R):Vs->SH->Prop:=Jp gO 18 Q 111106 []
abbrev El(a:Kn)(b:SH)(c d e f g h i j k l:AV):Prop:=Pc gO 18 q0 4202 [a] [h,i,j,k,d,c,e,f,g,l] b
abbrev Cz(a:Kn)(b:SH)(c d e f g h i j k l m n:AV):Prop:=Pc gO 18 q0 4802 [a] [i,j,k,l,e,n,d,f,g,h,m,c] b
abbrev vx(Q:R)(a b c d e f g h:AV)(i:SH):Prop:=Pc gO 19 Q 2108 [] [c,b,e,f,d,a,g,h] i
abbrev FW(a b c:AV)(L:SH)(Q:R):Prop:=Pc gO 20 Q 0 [] [a,b,c] L
def Em(j t1 t2:AV)(L:SH)(Q:R)(h:FW j t1 t2 L Q):ac Tryz.prog 42 [j,t1,t2] L Q:=
 fv gO Tryz.func42 h
def ep:RF:=nv (bO Tryz.prog Tryz.f74 [(3602,⟨[2,3,6,21,22,23],[9],false,[]⟩),(24,⟨[2,3,6,21,22,23,41,42,43],[9],false,[]⟩),(9,⟨[2,3,21,22,23],[],true,[]⟩)] [(0,[1]),(4,[5])])
abbrev uA(a:Kn)(b:SH)(c d e f g h:AV):Prop:=Pc ep 17 q0 3602 [a] [f,c,d,g,h,e] b
abbrev uB(a:Kn):Vs->SH->Kn->Prop:=Lp ep 18 q0 24 [a]
abbrev ld(Q:R):Vs->SH->Kn->Prop:=Lp ep 19 Q 9 []
abbrev wE(a:AV)(L:SH)(Q:R):Prop:=Pc ep 20 Q 0 [] [a] L
def uC(j:AV)(L:SH)(Q:R)(h:wE j L Q):ac Tryz.prog 74 [j] L Q:=
 fv ep Tryz.func74 h
def sL:RF:=nv (bO Tryz.prog Tryz.f112 [] [])
abbrev CA(a b:AV)(L:SH)(Q:R):Prop:=Pc sL 20 Q 0 [] [a,b] L
def Ap(j t1:AV)(L:SH)(Q:R)(h:CA j t1 L Q):ac Tryz.prog 112 [j,t1] L Q:=
 fv sL Tryz.func112 h
section
theorem fl{K:SH}{l m:List AV}(h:fU K l m:=by repeat' first|exact .nil|refine .cons ?_ ?_|exact .refl _|exact .nils):fU K l m:=h
theorem En(i n:Int):aq Tryz.prog 112 [.Uf i,.Uf n] (.Uf (ixS i n)):=by
 refine Ap _ _ _ _ ?_;refine vw ?_;generalize G:(λ(u:AV) (K:SH)=>u=AV.Uf (ixS i n)/\K=[])=Q;have hq:∀b,ixS i n=b->Q (.Uf b) []:=λb M=>by subst G;exact⟨by rw[M],rfl⟩
 clear G;by_cases h:n<1
 .have O:decide (n<1)=true:=decide_eq_true h
  repeat' (first|refine st ?_|refine sb λB j=>?_|refine s2 (λh=>?_) λh=>?_|fail)
  exact hq _ (by rw[ixS,if_pos h])
 .have O:decide (n<1)=false:=decide_eq_false h;have D:n≠0:=by omega
  by_cases E:i.tmod n<0
  .have N:decide (i.tmod n<0)=true:=decide_eq_true E
   repeat' (first|refine st ?_|refine jt (DH D ?_)|refine sb λB j=>?_|refine s2 (λh=>?_) λh=>?_|fail)
   exact hq _ (by rw[ixS,if_neg h,if_pos E])
  .have N:decide (i.tmod n<0)=false:=decide_eq_false E
   repeat' (first|refine st ?_|refine jt (DH D ?_)|refine sb λB j=>?_|refine s2 (λh=>?_) λh=>?_|fail)
   exact hq _ (by rw[ixS,if_neg h,if_neg E])
theorem ops(k:Int)(j:1<=k)(h2:k<=28):k=1\/k=2\/k=3\/k=4\/k=5\/k=6\/k=7\/k=8\/k=9\/k=10\/k=11\/k=12\/k=13\/k=14\/k=15\/k=16\/k=17\/k=18\/k=19\/k=20\/k=21\/k=22\/k=23\/k=24\/k=25\/k=26\/k=27\/k=28:=by omega
theorem i9{s:aC}{r:Int}(u:0<=r)(j:r<s.regs.length):(s.regs.map ah)[r.toNat]? =some [.Uf (s.reg r)]:=by
 have:r.toNat<s.regs.length:=by omega
 simp[aC.reg,this,ah]
theorem l5{s:aC}{r:Int}(u:0<=r)(j:r<s.taint.length):(s.taint.map bz)[r.toNat]? =some [.lst ((s.tnt r).map ah)]:=by
 have:r.toNat<s.taint.length:=by omega
 simp[aC.tnt,this,bz]
theorem og:Pu 0=.pptr [gD.map (.Uf ·)] 0 0:=rfl
section
variable {s:aC} {t op ia ib ic m site:Int} (hr:∀r∈aN ⟨op,ia,ib,ic,m,site⟩,0<=r/\r<s.regs.length) (ht:s.taint.length=s.regs.length) (hs:∀r,(s.tnt r).length*8<=140737488355328) {Q:R} (hq:∀v L,(∀K,fU K v (cQ ⟨op,ia,ib,ic,m,site⟩ s t).enc)->Q (.agg v) L)
include hr ht hs hq
omit hr ht hs in
theorem QL(u:1<=op)(h2:op<=28)(D:¬(7<=op/\op<=10)/\op≠26):cR (.agg (aS.enc ⟨op,ia,ib,ic,m,site⟩)) (.agg s.enc) (.Uf t) [] Q:=by
 refine vw ?_;rw[show aS.enc ⟨op,ia,ib,ic,m,site⟩=[.Uf op,.Uf ia,.Uf ib,.Uf ic,.Uf m,.Uf site]from rfl,og];unfold aC.enc;rcases ops op u h2 with rfl|rfl|rfl|rfl|rfl|rfl|rfl|rfl|rfl|rfl|rfl|rfl|rfl|rfl|rfl|rfl|rfl|rfl|rfl|rfl|rfl|rfl|rfl|rfl|rfl|rfl|rfl|rfl
 all_goals first
  |(exfalso;omega)
  |skip
 all_goals
  clear u h2 D
  repeat' (first|refine st ?_|refine xP Ue Ue ?_|refine sb λB j=>?_|refine s2 (λh=>?_) λh=>?_|fail)
  exact hq _ _ (λK=>by simp[cQ,da.enc,eU,gD,bq];exact fl)
theorem QM(h:op=8\/op=26):cR (.agg (aS.enc ⟨op,ia,ib,ic,m,site⟩)) (.agg s.enc) (.Uf t) [] Q:=by
 refine vw ?_;rw[show aS.enc ⟨op,ia,ib,ic,m,site⟩=[.Uf op,.Uf ia,.Uf ib,.Uf ic,.Uf m,.Uf site]from rfl,og];unfold aC.enc;rcases h with rfl|rfl
 all_goals
  obtain⟨D,G⟩:=hr ib (by simp[aN]);have E:=l5 (s:=s) D Ua;have B:=cZ (s.tnt ib) (hs ib);clear hr ht hs
  repeat' (first|refine st ?_|(refine pf 113 ?_;refine pm (B) ?_)|refine sb λu j=>?_|refine s2 (λh=>?_) λh=>?_|fail)
  exact hq _ _ (λK=>by simp[cQ,da.enc,eU,gD,bq];exact fl)
theorem QN(h:op=10):cR (.agg (aS.enc ⟨op,ia,ib,ic,m,site⟩)) (.agg s.enc) (.Uf t) [] Q:=by
 refine vw ?_;rw[show aS.enc ⟨op,ia,ib,ic,m,site⟩=[.Uf op,.Uf ia,.Uf ib,.Uf ic,.Uf m,.Uf site]from rfl,og];unfold aC.enc;subst h;obtain⟨D,G⟩:=hr ia (by simp[aN]);have E:=l5 (s:=s) D Ua;have B:=cZ (s.tnt ia) (hs ia);clear hr ht hs
 repeat' (first|refine st ?_|(refine pf 113 ?_;refine pm (B) ?_)|refine sb λu j=>?_|refine s2 (λh=>?_) λh=>?_|fail)
 exact hq _ _ (λK=>by simp[cQ,da.enc,eU,gD,bq];exact fl)
theorem QO(h:op=7):cR (.agg (aS.enc ⟨op,ia,ib,ic,m,site⟩)) (.agg s.enc) (.Uf t) [] Q:=by
 refine vw ?_;rw[show aS.enc ⟨op,ia,ib,ic,m,site⟩=[.Uf op,.Uf ia,.Uf ib,.Uf ic,.Uf m,.Uf site]from rfl,og];unfold aC.enc;subst h;obtain⟨u,G⟩:=hr ic (by simp[aN]);have N:=l5 (s:=s) u Ua;have M:=i9 (s:=s) u G;have E:=cZ (s.tnt ic) (hs ic);have D:=En (s.reg ic) m;clear hr ht hs
 repeat' (first|refine st ?_|(refine pf 113 ?_;refine pm (E) ?_)|(refine pf 112 ?_;refine pm (D) ?_)|refine sb λB j=>?_|refine s2 (λh=>?_) λh=>?_|fail)
 exact hq _ _ (λK=>by simp[cQ,da.enc,eU,gD,bq];exact fl)
theorem QP(h:op=9):cR (.agg (aS.enc ⟨op,ia,ib,ic,m,site⟩)) (.agg s.enc) (.Uf t) [] Q:=by
 refine vw ?_;rw[show aS.enc ⟨op,ia,ib,ic,m,site⟩=[.Uf op,.Uf ia,.Uf ib,.Uf ic,.Uf m,.Uf site]from rfl,og];unfold aC.enc;subst h;obtain⟨u,N⟩:=hr ic (by simp[aN]);obtain⟨M,Z⟩:=hr ib (by simp[aN]);have Y:=l5 (s:=s) u Ua;have O:=l5 (s:=s) M Ua;have S:=i9 (s:=s) u N;have G:=cZ (s.tnt ic) (hs ic);have D:=cZ (s.tnt ib) (hs ib);have E:=En (s.reg ic) m;clear hr ht hs
 repeat' (first|refine st ?_|(refine pf 113 ?_;refine pm (G) ?_)|(refine pf 113 ?_;refine pm (D) ?_)|(refine pf 112 ?_;refine pm (E) ?_)|refine sb λB j=>?_|refine s2 (λh=>?_) λh=>?_|fail)
 exact hq _ _ (λK=>by simp[cQ,da.enc,eU,gD,bq];exact fl)
end
theorem Kg(i:aS)(s:aC)(t:Int)(u:1<=i.op)(h2:i.op<=28)(hr:∀r∈aN i,0<=r/\r<s.regs.length)(ht:s.taint.length=s.regs.length)(hs:∀r,(s.tnt r).length*8<=140737488355328):aq Tryz.prog 70 [.agg i.enc,.agg s.enc,.Uf t] (.agg (cQ i s t).enc):=by
 obtain⟨op,ia,ib,ic,m,site⟩:=i;refine ac.fz (re _ _ _ _ _ ?_);dsimp only at u h2;by_cases E:op=7
 .exact QO hr ht hs (λv L h=>⟨_,[],az.all (.aggs (h _)),rfl,rfl⟩) E
 by_cases B:op=9
 .exact QP hr ht hs (λv L h=>⟨_,[],az.all (.aggs (h _)),rfl,rfl⟩) B
 by_cases j:op=10
 .exact QN hr ht hs (λv L h=>⟨_,[],az.all (.aggs (h _)),rfl,rfl⟩) j
 by_cases D:op=8\/op=26
 .exact QM hr ht hs (λv L h=>⟨_,[],az.all (.aggs (h _)),rfl,rfl⟩) D
 exact QL (λv L h=>⟨_,[],az.all (.aggs (h _)),rfl,rfl⟩) u h2 Ua
end
def da.zero:da:=⟨0,0,0,0,0,[],[]⟩
def eD(e:Option da):AV:=match e with
 |some e=>.tup [.agg e.enc,.bool true]
 |none=>.tup [.agg da.zero.enc,.bool false]
def sM(c:eb):Prop:=∀i∈c.ins,1<=i.op/\i.op<=28/\∀r∈aN i,0<=r/\r<c.regs
def gk{α:Type}{f:α->List AV}{l:List α}{i:Int}{d:α}(h:inB i l.length=true):(l.map f)[i.toNat]? =some (f (l.getD i.toNat d)):=by
 obtain⟨u,j⟩:=av.1 h;have:i.toNat<l.length:=by omega
 simp[this]
def eE{α:Type}{l:List α}{i:Int}{d:α}(h:inB i l.length=true):l.getD i.toNat d∈l:=by
 obtain⟨u,j⟩:=av.1 h;have:i.toNat<l.length:=by omega
 simp[this]
def On{op:Int}(j:1<=op)(h2:op<=28):(gD.map (AV.Uf ·))[0+op.toNat*1]? =some (AV.Uf (eU op)):=by rcases ops op j h2 with rfl|rfl|rfl|rfl|rfl|rfl|rfl|rfl|rfl|rfl|rfl|rfl|rfl|rfl|rfl|rfl|rfl|rfl|rfl|rfl|rfl|rfl|rfl|rfl|rfl|rfl|rfl|rfl<;>rfl
def G9(c:aZ)(s:cm)(t:Int)(hi:∀x∈c.ts,sM x)(hs:∀x∈s.threads,∀r,(x.tnt r).length*8<=140737488355328):aq Tryz.prog 38 [.agg c.enc,.agg s.enc,.Uf t] (eD (bL c s t)):=by
 refine ac.fz (yH _ _ _ _ _ ?_);refine vw ?_;generalize hQ:(λ(v:AV) (L:SH)=>∃v2 L2,az [v] L [v2] L2/\v2=eD (bL c s t)/\L2=[])=Q;have no:gN c s t=false->∀L,Q (.tup [.agg [.Uf 0,.Uf 0,.Uf 0,.Uf 0,.Uf 0,.nils,.nils],.bool false]) L:=λh L=>by subst hQ;exact⟨_,[],az.all (Fz.tups (.cons (Fz.aggs (m:=da.zero.enc) (by exact fl)) (.cons (.refl _) .nil))),by rw[bL,h];rfl,rfl⟩
 have D:bL c s t=none->∀L,Q (.tup [.agg [.Uf 0,.Uf 0,.Uf 0,.Uf 0,.Uf 0,.nils,.nils],.bool false]) L:=λh L=>by subst hQ;exact⟨_,[],az.all (Fz.tups (.cons (Fz.aggs (m:=da.zero.enc) (by exact fl)) (.cons (.refl _) .nil))),by rw[h];rfl,rfl⟩
 have j:∀e v,bL c s t=some e->(∀K,fU K v e.enc)->∀L,Q (.tup [.agg v,.bool true]) L:=λe v h hv L=>by subst hQ;exact⟨_,[],az.all (Fz.tups (.cons (Fz.aggs (hv _)) (.cons (.refl _) .nil))),by rw[h];rfl,rfl⟩
 clear hQ;by_cases h0:inB t c.ts.length=true/\inB t s.threads.length=true/\inB t s.sync.threads.length=true
 .obtain⟨S,O,i3⟩:=h0;have x1:(c.ts.map eb.enc)[t.toNat]? =some (am c t).enc:=gk S;have x2:(s.threads.map aC.enc)[t.toNat]? =some (ay s t).enc:=gk O;have x3:(s.sync.threads.map ThrD.enc)[t.toNat]? =some (aR s.sync t).enc:=gk i3;have M:sM (am c t):=hi _ (eE S);have E:=hs _ (eE (d:=aC.zero) O);rw[show s.threads.getD t.toNat aC.zero=ay s t from rfl]at E;have hr:gN c s t=(inB (ay s t).pc (am c t).ins.length&&decide (((ay s t).regs.length:Int)=(am c t).regs)&&decide (((ay s t).taint.length:Int)=(am c t).regs)):=by simp only[gN,S,O,i3,Bool.true_and]
  have i1':=av.1 S;have i2':=av.1 O;have i3':=av.1 i3;have d1:decide (t<0)=false:=decide_eq_false Ua;have d2:decide (t>=c.ts.length)=false:=decide_eq_false Ua;have d3:decide (t>=s.threads.length)=false:=decide_eq_false Ua;have d4:decide (t>=s.sync.threads.length)=false:=decide_eq_false Ua;clear S O i3;unfold aZ.enc cm.enc;by_cases Y:gN c s t=true
  .have G:=Y;rw[hr]at G;simp only[SN,decide_eq_true_eq]at G;obtain⟨⟨Z,j2⟩,j3⟩:=G;have x4:((am c t).ins.map aS.enc)[(ay s t).pc.toNat]? =some (bH (am c t) (ay s t).pc).enc:=bQ Z;have j1':=av.1 Z;have d5:decide ((ay s t).pc<0)=false:=decide_eq_false Ua;have d6:decide ((ay s t).pc>=(am c t).ins.length)=false:=decide_eq_false Ua;have d7:decide (((ay s t).regs.length:Int)≠(am c t).regs)=false:=decide_eq_false (by simpa using j2);have d8:decide (((ay s t).taint.length:Int)≠(am c t).regs)=false:=decide_eq_false (by simpa using j3);obtain⟨o1,o2,o3⟩:=M _ (eE (d:=default) Z);rw[show(am c t).ins.getD (ay s t).pc.toNat default=bH (am c t) (ay s t).pc from rfl]at o1 o2 o3;have hp:bL c s t=(if(aR s.sync t).status=1 then some ⟨t,1,-1,0,-1,[],[]⟩
    else if(aR s.sync t).status=4 then some ⟨t,17,(aR s.sync t).cond,0,(bH (am c t) (ay s t).pc).site,[],[]⟩
    else if(aR s.sync t).status=2 then(if eU (bH (am c t) (ay s t).pc).op≠0 then some (cQ (bH (am c t) (ay s t).pc) (ay s t) t)else none)
    else none):=by rw[bL,if_pos Y]
   rw[hp]at j D;have hin:=Kg (bH (am c t) (ay s t).pc) (ay s t) t o1 o2 (λr hr2=>by have:=o3 r hr2;omega) Ua E;clear hp hr Y no hs hi Z j2 j3 M E o3;have kd:=On o1 o2;have h29:(bH (am c t) (ay s t).pc).op.toNat<29:=by omega
   have h00:0<=(bH (am c t) (ay s t).pc).op:=by omega
   generalize bH (am c t) (ay s t).pc=i at *;generalize am c t=ct at *;generalize ay s t=ts at *;generalize aR s.sync t=th at *;obtain⟨op,ia,ib,ic,m,u⟩:=i;rw[show aS.enc ⟨op,ia,ib,ic,m,u⟩=[.Uf op,.Uf ia,.Uf ib,.Uf ic,.Uf m,.Uf u]from rfl]at *;dsimp only at *;unfold eb.enc aC.enc ThrD.enc at *
   repeat' (first|refine st ?_|refine xP h00 h29 ?_|refine DI rfl kd ?_|(refine pf 70 ?_;refine pm (hin) ?_)|refine sb λN B=>?_|refine s2 (λh=>?_) λh=>?_|fail)
   .exact j _ _ (if_pos (by simpa using ‹decide (th.status=1)=true›)) (λK=>by exact fl) _
   .exact j _ _ (by rw[if_neg (by simpa using ‹decide (th.status=1)=false›),if_pos (by simpa using ‹decide (th.status=4)=true›)]) (λK=>by exact fl) _
   .refine j _ _ (by rw[if_neg (by simpa using ‹decide (th.status=1)=false›),if_neg (by simpa using ‹decide (th.status=4)=false›),if_pos (by simpa using ‹decide (th.status=2)=true›),if_pos (by simp_all)]) (λK=>?_) _;exact fl
   .refine D ?_ _;rw[if_neg (by simpa using ‹decide (th.status=1)=false›),if_neg (by simpa using ‹decide (th.status=4)=false›),if_pos (by simpa using ‹decide (th.status=2)=true›),if_neg (by simp_all)]
   .refine D ?_ _;rw[if_neg (by simpa using ‹decide (th.status=1)=false›),if_neg (by simpa using ‹decide (th.status=4)=false›),if_neg (by simpa using ‹decide (th.status=2)=false›)]
  .have hz:=no (by simpa using Y);rw[hr]at Y;generalize am c t=ct at *;generalize ay s t=ts at *;generalize aR s.sync t=th at *;unfold eb.enc aC.enc ThrD.enc at *
   repeat' (first|refine st ?_|refine sb λN B=>?_|refine s2 (λh=>?_) λh=>?_|fail)
   all_goals first
    |exact hz _
    |(exfalso;simp_all[inB]<;>omega)
 .have hn:gN c s t=false:=by unfold gN;simp only[Bool.and_eq_false_iff];simp only[not_and,Bool.not_eq_true]at h0;cases h1:inB t c.ts.length<;>cases h2:inB t s.threads.length<;>simp_all
  have hz:=no hn;unfold aZ.enc cm.enc
  repeat' (first|refine st ?_|refine sb λN B=>?_|refine s2 (λh=>?_) λh=>?_|fail)
  all_goals first
   |exact hz _
   |(exfalso;simp_all[inB]<;>omega)
def oh{b B i k n by_:Nat}{rows m:List (List AV)}{L D:SH}{KL:AV->SH->Prop}(N:(B,(⟨n,m⟩:Blk))∈L)(u:eJ b ⟨n,rows⟩ L D)(E:rows.length=i)(G:k=m.length)(h2:2*(i+m.length)*by_<=2^48)(O:2*(i+m.length)<=2^62)(h4:(m.all λr=>r.all AV.one)=true)
  (h:∀j,j∉L.names->KL (.sl j 0 (i+m.length)) ((j,⟨n,rows++m⟩)::D)):W.append n by_ (.sl b 0 i) (.sl B 0 k) L KL:=by
 subst G;subst E;exact jF (y:=⟨n,rows⟩) (l:=rows) u.mem' rfl Ud Ud (jG N rfl rfl) h2 O h4 u (λj M=>h j M)
def Nm(pc ev:Int)(g:AV)(t:List (List Int))(h1:t.length<=2^30)(S:∀l∈t,l.length<=2^30)(x1 x2 x4 x5 x6:AV)(b bt:Nat)(R:SH)(E:W.Kn)
  (G:∀D,uA E ((D,⟨1,t.map bz⟩)::(b,⟨4,[[.Uf pc,g,.sl D 0 t.length,.Uf ev]]⟩)::R) x2 (.ptr b 0 0) x6 x1 x4 x5) :
  W.loop (uB E) [x1,x2,.ptr b 0 0,x4,x5,x6,.lst (t.map bz),.Uf t.length,.Uf (0:Nat)] ((bt,⟨1,[]⟩)::(b,⟨4,[[.Uf pc,g,.sl bt 0 0,.Uf ev]]⟩)::R):=by
 refine bD t.length (λk (D:Nat)=>([x1,x2,.ptr b 0 0,x4,x5,x6,.lst (t.map bz),.Uf t.length,.Uf k],(D,⟨1,(t.take k).map bz⟩)::(b,⟨4,[[.Uf pc,g,.sl D 0 k,.Uf ev]]⟩)::R)) (λ_ _=>True) bt trivial (.refl _ _) ?_;intro k D Z _;dsimp only;refine vw ?_;rcases Nat.lt_or_ge k t.length with B|B
 .have O:=aW B;have Y:=ao (f:=bz) B;have M:(t[k]).length*8<=140737488355328:=by have:=S _ (Sy B);omega
  repeat' (first|refine st ?_|(refine pf 113 ?_;refine pm (cZ _ M) ?_)|refine oh rp rp (by simp;omega) rfl (by simp;omega) (by simp;omega) rfl (λu j=>?_)|refine sb λu j=>?_|refine s2 (λh=>?_) λh=>?_|fail)
  refine⟨k+1,u,Ua,Ua,trivial,?_⟩;rw[ax B Ua,Sw B,LT];exact az.forget (K:=[(_,_)]) (List.Perm.swap _ _ _)
 .have O:=aX B;have N:k=t.length:=by omega
  subst N;have:=G D;rw[SX (Fd _)]
  repeat' (first|exact this|refine st ?_|refine sb λu j=>?_|refine s2 (λh=>?_) λh=>?_|fail)
def Aq(q:Nat)(o:Option Nat)(tb:Nat)(j:Nat)(s:aC):List AV:=if j=q then [.Uf s.pc,aJ o s.regs.length,.sl tb 0 s.taint.length,.Uf s.ev]else s.enc
def iz(q:Nat)(o:Option Nat)(tb:Nat)(l:List aC):List (List AV):=l.zipIdx.map λp=>Aq q o tb p.2 p.1
def dt(q:Nat)(o:Option Nat)(tb:Nat)(l:List aC):(iz q o tb l).length=l.length:=by simp[iz]
def sN(q:Nat)(o:Option Nat)(tb:Nat)(l:List aC)(j:Nat)(u:j<l.length):(iz q o tb l)[j]? =some (Aq q o tb j l[j]):=by simp[iz,u]
def yI(q:Nat)(o D:Option Nat)(tb u:Nat)(l:List aC)(k:Nat)(E:k<l.length)(h:k<=q\/(o=D/\tb=u)):(iz q D u l).take (k+1)=(iz q o tb l).take k++[Aq q D u k l[k]]:=by
 apply TH;intro j;rcases Nat.lt_trichotomy j k with B|B|B
 .rw[SE (by simp[dt];omega),S5 B,S5 Ua,sN _ _ _ _ _ Ua,sN _ _ _ _ _ Ua];rcases h with h|⟨rfl,rfl⟩
  .simp[Aq,show j≠q by omega]
  .rfl
 .subst B;rw[S5 Ua,sN _ _ _ _ _ E,SA (by simp[dt];omega)];simp[dt,Tn (Nat.le_of_lt E)]
 .rw[LE (by simp;omega),LE (by simp[dt];omega)]
def oo(q:Nat)(o:Option Nat)(tb:Nat)(l:List aC)(k:Nat):SH:=if q<k then ab o 1 ((l.getD q aC.zero).regs.map ah)++[(tb,⟨1,(l.getD q aC.zero).taint.map bz⟩)]else []
structure Oo(s:cm)(q:Nat)(v:AV)(L:SH):Prop where
 ex:∃(oc of:Option Nat) (bt:Nat) (o:Option Nat) (tb:Nat),v=.agg [.nils,.Uf 0,.nils,.nils,aJ oc s.cells.length,aJ of s.futures.length,.sl bt 0 s.threads.length]/\
  L=(bt,⟨4,iz q o tb s.threads⟩)::(oo q o tb s.threads s.threads.length++(ab oc 1 (s.cells.map ah)++ab of 1 (s.futures.map ah)))/\(oc=none->s.cells=[])/\(of=none->s.futures=[])/\(o=none->q<s.threads.length->(s.threads.getD q aC.zero).regs=[])
def aO:List AV:=[.nils,.Uf 0,.nils,.nils,.nils,.nils,.nils]
def Md(l:List aC)(q N b2 bt:Nat)(x y:AV)(hx:x=.lst []\/∃b n,x=.sl b 0 n)(hy:y=.lst []\/∃b n,y=.sl b 0 n)(E L0:SH)(hL0:L0.Perm ((bt,⟨4,[]⟩)::(b2,⟨7,[[.nils,.Uf 0,.nils,.nils,x,y,.sl bt 0 0]]⟩)::(N,⟨7,[aO]⟩)::E))(h1:l.length<=2^30)(hr:∀s∈l,s.regs.length<2^40/\s.taint.length<=2^30/\∀r∈s.taint,r.length<=2^30)(Q:R)
  (hend:∀(o:Option Nat) (tb bt:Nat) (z:List AV),(o=none->q<l.length->(l.getD q aC.zero).regs=[])->Q (.agg [.nils,.Uf 0,.nils,.nils,x,y,.sl bt 0 l.length]) ((bt,⟨4,iz q o tb l⟩)::(b2,⟨7,[[.nils,.Uf 0,.nils,.nils,x,y,.sl bt 0 l.length]]⟩)::(N,⟨7,[z]⟩)::(oo q o tb l l.length++E))) :
  W.loop (ld Q) [.ptr N 0 0,.ptr b2 0 0,.lst (l.map aC.enc),.Uf l.length,.Uf (0:Nat)] L0:=by
 refine bD l.length (λk (p:Nat×Option Nat×Nat)=>([.ptr N 0 0,.ptr b2 0 0,.lst (l.map aC.enc),.Uf l.length,.Uf k],(p.1,⟨4,(iz q p.2.1 p.2.2 l).take k⟩)::(b2,⟨7,[[.nils,.Uf 0,.nils,.nils,x,y,.sl p.1 0 k]]⟩)::(N,⟨7,[aO]⟩)::(oo q p.2.1 p.2.2 l k++E))) (λk p=>p.2.1=none->q<k->(l.getD q aC.zero).regs=[]) (bt,none,0) (λ_ h=>by omega) (az.forget (K:=[]) (by simpa[oo]using hL0)) ?_;rintro k ⟨bt,o,tb⟩ hk ho;dsimp only at ho ⊢;refine vw ?_;rcases Nat.lt_or_ge k l.length with G|G
 .have hd:=aW G;have hxx:=ao (f:=aC.enc) G;obtain⟨r1,r2,r3⟩:=hr _ (Sy G);generalize hT:oo q o tb l k++E=T;clear hx hy
  repeat' (first|refine st ?_|refine sb λB u=>?_|fail)
  refine yf (oX _ Ua) (by simp[rm,rz,W.free,af]) ?_;rintro v K ⟨M,rfl,rfl,ho'⟩
  skip
  have fin:∀(S O nb D:Nat) (xa xb:Blk) (L:SH),tW L ((S,xa)::(O,xb)::(ab M 1 ((l[k]).regs.map ah)++[(D,⟨1,(l[k]).taint.map bz⟩)])) ((nb,⟨4,(iz q o tb l).take k++[[.Uf (l[k]).pc,aJ M (l[k]).regs.length,.sl D 0 (l[k]).taint.length,.Uf (l[k]).ev]]⟩)::(b2,⟨7,[[.nils,.Uf 0,.nils,.nils,x,y,.sl nb 0 (k+1)]]⟩)::(N,⟨7,[aO]⟩)::T)->
    ∃(j:Nat) (p:Nat×Option Nat×Nat),k<j/\j<=l.length/\(p.2.1=none->q<j->(l.getD q aC.zero).regs=[])/\az [.ptr N 0 0,.ptr b2 0 0,.lst (l.map aC.enc),.Uf l.length,.Uf (IntKind.i64.wrap ((k:Int)+1))] L
     [.ptr N 0 0,.ptr b2 0 0,.lst (l.map aC.enc),.Uf l.length,.Uf j] ((p.1,⟨4,(iz q p.2.1 p.2.2 l).take j⟩)::(b2,⟨7,[[.nils,.Uf 0,.nils,.nils,x,y,.sl p.1 0 j]]⟩)::(N,⟨7,[aO]⟩)::(oo q p.2.1 p.2.2 l j++E)):=by
   intro S O nb D xa xb L h;have hp:=h.perm.trans SG;subst hT;rw[ax G Ua];by_cases hkq:k=q
   .subst hkq;refine⟨k+1,(nb,M,D),Ua,Ua,λe _=>by simpa[List.getD,G]using ho' e,?_⟩;dsimp only;rw[yI k o M tb D l k G (.inl (Nat.le_refl _))];have e1:oo k o tb l k=[]:=by simp[oo]
    have e2:oo k M D l (k+1)=ab M 1 ((l[k]).regs.map ah)++[(D,⟨1,(l[k]).taint.map bz⟩)]:=by simp[oo,List.getD,G]
    have e3:Aq k M D k l[k]=[.Uf (l[k]).pc,aJ M (l[k]).regs.length,.sl D 0 (l[k]).taint.length,.Uf (l[k]).ev]:=by simp[Aq]
    rw[e1]at hp;rw[e2,e3];refine az.forget (K:=[(S,xa),(O,xb)]) (hp.trans ?_);refine List.Perm.append_left [(S,xa),(O,xb)] ?_;exact List.perm_append_comm_assoc _ [_,_,_] E
   .refine⟨k+1,(nb,o,tb),Ua,Ua,λe hq=>ho e Ua,?_⟩;dsimp only;have e1:oo q o tb l (k+1)=oo q o tb l k:=by
     by_cases hq:q<k
     .simp[oo,hq,show q<k+1 by omega]
     .simp[oo,hq,show¬q<k+1 by omega]
    rw[e1,yI q o o tb tb l k G (.inr ⟨rfl,rfl⟩)];refine az.row hp Ud ?_;intro j r r' Y q2;rcases Fn j ((iz q o tb l).take k).length with hj|hj
    .rw[SE hj]at Y q2;rw[Y]at q2;cases q2;exact fU.refl _ _
    .rw[SA hj]at Y q2;rcases hm:j-((iz q o tb l).take k).length with _|m
     .rw[hm]at Y q2;cases Y;cases q2;rw[show Aq q o tb k l[k]=(l[k]).enc by simp[Aq,hkq]];refine .cons (.refl _) (.cons ?_ (.cons ?_ (.cons (.refl _) .nil)))
      .exact fw rfl ho' λb e=>by subst e;simp[ab]
      .exact fw (o:=some D) rfl nofun λb e=>by cases e;simp
     .rw[hm]at Y;simp at Y
  cases M with
  |none=>
   dsimp only[aJ,ab,List.nil_append]
   repeat' (first|refine st ?_|refine sb λB u=>?_|fail)
   refine ft (i:=0) (j:=l[k].taint.length) Ua Ua Ua (λZ _=>?_)
   repeat' (first|refine st ?_|refine sb λB u=>?_|fail)
   refine Nm l[k].pc l[k].ev _ l[k].taint r2 r3 _ _ _ _ _ _ Z _ _ (λD=>?_);refine vw ?_
   repeat' (first|refine st ?_|refine oh rp rp (by simp[dt];omega) rfl (by simp[dt];omega) (by simp[dt];omega) rfl (λB u=>?_)|refine sb λB u=>?_|fail)
   rename_i S _ _ O _;exact fin S O B D _ _ _ rp
  |some c'=>
   dsimp only[aJ,ab,List.cons_append,List.nil_append]
   repeat' (first|refine st ?_|refine sb λB u=>?_|fail)
   refine ft (i:=0) (j:=l[k].taint.length) Ua Ua Ua (λZ _=>?_)
   repeat' (first|refine st ?_|refine sb λB u=>?_|fail)
   refine Nm l[k].pc l[k].ev _ l[k].taint r2 r3 _ _ _ _ _ _ Z _ _ (λD=>?_);refine vw ?_
   repeat' (first|refine st ?_|refine oh rp rp (by simp[dt];omega) rfl (by simp[dt];omega) (by simp[dt];omega) rfl (λB u=>?_)|refine sb λB u=>?_|fail)
   rename_i S _ _ O _;exact fin S O B D _ _ _ rp
 .have hd:=aX G;have hk0:k=l.length:=by omega
  subst hk0;have:=λz=>hend o tb bt z ho
  rw[SX (by rw[dt];exact Fd _)];unfold aO;rcases hx with rfl|⟨_,_,rfl⟩<;>rcases hy with rfl|⟨_,_,rfl⟩
  all_goals
   repeat' (first|refine st ?_|refine sb λB u=>?_|refine s2 (λh=>?_) λh=>?_|fail)
   exact this _
def sO(o:Option Nat)(n:Nat):aJ o n=.lst []\/∃b m,aJ o n=.sl b 0 m:=by
 cases o with
 |none=>exact .inl rfl
 |some b=>exact .inr ⟨b,n,rfl⟩
def Me(s:cm)(q:Nat)(h1:s.threads.length<=2^30)(h2:s.cells.length<2^40)(h3:s.futures.length<2^40)(hr:∀e∈s.threads,e.regs.length<2^40/\e.taint.length<=2^30/\∀r∈e.taint,r.length<=2^30):
  ac Tryz.prog 74 [.agg s.enc] [] (Oo s q):=by
 refine ac.fz (uC _ _ _ ?_);refine vw ?_;generalize hQ:(λ(v:AV) (L:SH)=>∃v2 L2,az [v] L [v2] L2/\Oo s q v2 L2)=Q;unfold cm.enc
 repeat' (first|refine st ?_|refine sb λu D=>?_|fail)
 revert u;intro Y _;refine yf (oX s.cells Ua) (by simp[rm,rz,W.free,af]) ?_;rintro v K ⟨N,rfl,rfl,Z⟩
 skip
 have O:∀(G:Option Nat) (S M:Nat) (L:SH),(G=none->s.futures=[])->tW L ((M,⟨4,[]⟩)::(S,⟨7,[[.nils,.Uf 0,.nils,.nils,aJ N s.cells.length,aJ G s.futures.length,.sl M 0 0]]⟩)::(Y,⟨7,[aO]⟩)::(ab N 1 (s.cells.map ah)++ab G 1 (s.futures.map ah))) []->
   W.loop (ld Q) [.ptr Y 0 0,.ptr S 0 0,.lst (s.threads.map aC.enc),.Uf s.threads.length,.Uf (0:Nat)] L:=by
  intro G S M L B hL;refine Md s.threads q Y S M _ _ (sO _ _) (sO _ _) _ L (by simpa using hL.perm) h1 hr Q ?_;intro o tb M z ho;subst hQ;refine⟨_,_,az.forget (K:=[(S,_),(Y,_)]) (R:=(M,⟨4,iz q o tb s.threads⟩)::(oo q o tb s.threads s.threads.length++(ab N 1 (s.cells.map ah)++ab G 1 (s.futures.map ah)))) ((List.Perm.swap _ _ _).trans ((List.Perm.swap _ _ _).cons _)),⟨N,G,M,o,tb,rfl,rfl,Z,B,ho⟩⟩
 cases N
 all_goals
  dsimp only[aJ,ab,List.nil_append,List.cons_append]at O ⊢
  repeat' (first|refine st ?_|refine sb λu D=>?_|fail)
  refine yf (oX s.futures Ua) (by simp[rm,rc,rz,W.free,af]) ?_;rintro v K ⟨G,rfl,rfl,B⟩
  skip
  cases G
  all_goals
   dsimp only[aJ,ab,List.nil_append,List.cons_append]
   repeat' (first|refine st ?_|refine sb λu D=>?_|fail)
   refine ft (i:=0) (j:=s.threads.length) Ua Ua Ua (λE _=>?_)
   repeat' (first|refine st ?_|refine sb λu D=>?_|fail)
 .exact O none u E _ B rp
 .exact O (some _) u E _ B rp
 .exact O none u E _ B rp
 .exact O (some _) u E _ B rp
section
def co:List AV:=[.Uf 0,.Uf 0,.Uf 0,.Uf 0,.Uf 0,.nils,.nils]
theorem dC{α:Type}{l:List α}{n:Nat}(r:α)(h:n<l.length):(l.set n r)[n]? =some r:=by simp[h]
theorem az.rowV{vs u:List AV}{L K R:SH}{b n:Nat}{rows rows':List (List AV)}(S:L.Perm (K++(b,⟨n,rows⟩)::R))(G:fU K vs u)(B:rows.length=rows'.length)(O:∀(j:Nat) (r E:List AV),rows[j]? =some r->rows'[j]? =some E->fU K r E):az vs L u ((b,⟨n,rows'⟩)::R):=by
 refine⟨K,(b,⟨n,rows⟩)::R,S,⟨G.at_.1,G.at_.2⟩,rfl,λi p q h1 D=>?_⟩
 match i with
 |0=>cases h1;cases D;exact⟨rfl,rfl,B,λj s s2 g1 g2=>(O j s s2 g1 g2).at_⟩
 |i+1=>simp only[TJ]at h1 D;rw[h1]at D;cases D;exact⟨rfl,rfl,rfl,λj r r2 Z N=>by rw[Z]at N;cases N;exact⟨rfl,λk a a2 Y M=>by rw[Y]at M;cases M;exact .refl _⟩⟩
theorem Oq{α:Type}(B K j u:List α)(x:α)(h:u.Perm (K++j)):(B++x::u).Perm (K++x::(B++j)):=
 TD.trans ((((h.append_left B).trans (List.perm_append_comm_assoc _ _ _)).cons x).trans TD.symm)
theorem Ot{α:Type}(A B K j u:List α)(x:α)(h:(A++u).Perm (K++j)):(A++(B++x::u)).Perm (K++x::(B++j)):=
 (List.perm_append_comm_assoc A B _).trans ((TD.append_left B).trans (Oq B K j (A++u) x h))
section
variable (c:aZ) (l:List aC) (t wake:Int) (h1:inB t l.length=true) (hc:inB t c.ts.length=true) (p pc0 ev0:Int) (rg:List Int) (tn:List (List Int)) (g1 g2:AV) (sy:SyncD) (x y:AV) (hx:x=.lst []\/∃b n,x=.sl b 0 n) (hy:y=.lst []\/∃b n,y=.sl b 0 n)
 (e1 ek eo ev es:Int) (d f:List Int) (b132 b24 b8 b6 bt:Nat) (K RZ RR A:SH) (hA:A=[]\/∃q,A=[q]) (hR:(A++RR).Perm (K++RZ)) (hg:Fz K g1 (.lst (rg.map ah))) (hg2:Fz K g2 (.lst (tn.map bz)))
 (hn1:b24≠b6) (go1:g1.one=true) (go2:g2.one=true) (Q:R)
include h1 hc hn1 hx hy hA hR hg hg2
theorem QQ (zs : List AV) (hzs : zs = aO) (ze : List AV) (hze : ze = co) (Z : aq Tryz.prog 75 [.agg (am c t).enc, .agg (aC.mk p rg tn (IntKind.i64.wrap (ev0 + 1))).enc] (lT (aT (am c t) ⟨p, rg, tn, IntKind.i64.wrap (ev0 + 1)⟩)))
    (N:(ek=16\/ek=2)->∀L,(bt,⟨4,(l.map aC.enc).set t.toNat [.Uf p,g1,g2,.Uf (IntKind.i64.wrap (ev0+1))]⟩)∈L->(∀q∈RR,q∈L)->Q (.tup [.agg [.lst (sy.locks.map LockD.enc),.Uf sy.tx,.lst (sy.done.map aB),.lst (sy.threads.map ThrD.enc),x,y,.sl bt 0 l.length],.agg [.Uf e1,.Uf ek,.Uf eo,.Uf ev,.Uf es,.lst (d.map ah),.lst (f.map ah)],.bool true]) L)
    (E:(ek≠16/\ek≠2)->∀th,aT (am c t) ⟨p,rg,tn,IntKind.i64.wrap (ev0+1)⟩=(th,true)->∀L,(bt,⟨4,(l.map aC.enc).set t.toNat th.enc⟩)∈L->(∀q∈RZ,q∈L)->Q (.tup [.agg [.lst (sy.locks.map LockD.enc),.Uf sy.tx,.lst (sy.done.map aB),.lst (sy.threads.map ThrD.enc),x,y,.sl bt 0 l.length],.agg [.Uf e1,.Uf ek,.Uf eo,.Uf ev,.Uf es,.lst (d.map ah),.lst (f.map ah)],.bool true]) L)
    (D:(ek≠16/\ek≠2)->(aT (am c t) ⟨p,rg,tn,IntKind.i64.wrap (ev0+1)⟩).2=false->∀L,Q (.tup [.agg aO,.agg co,.bool false]) L) :
    bV Q [.pptr [c.enc] 0 0,.pptr [[.Uf t,.Uf wake]] 0 0,.ptr b6 0 0,.ptr b8 0 0,.ptr b24 0 0,.ptr b132 0 0,.ptr bt t.toNat 0,.Uf p]
      (A++(b132,⟨7,[[.lst (sy.locks.map LockD.enc),.Uf sy.tx,.lst (sy.done.map aB),.lst (sy.threads.map ThrD.enc),x,y,.sl bt 0 l.length]]⟩)::(b24,⟨7,[[.Uf e1,.Uf ek,.Uf eo,.Uf ev,.Uf es,.lst (d.map ah),.lst (f.map ah)]]⟩)::(b8,⟨7,[ze]⟩)::(b6,⟨7,[zs]⟩)::(bt,⟨4,(l.map aC.enc).set t.toNat [.Uf pc0,g1,g2,.Uf ev0]⟩)::RR):=by
  obtain⟨i1,i2⟩:=av.1 h1;have G:t.toNat<(l.map aC.enc).length:=by simp;omega
  have x1:(c.ts.map eb.enc)[t.toNat]? =some (am c t).enc:=gk hc;have y1:=av.1 hc;have s0:=dC [AV.Uf pc0,g1,g2,.Uf ev0] G;have s1:=dC (l:=(l.map aC.enc).set t.toNat [.Uf pc0,g1,g2,.Uf ev0]) [AV.Uf p,g1,g2,.Uf ev0] (by rw[TS];exact G);have s2:=dC (l:=((l.map aC.enc).set t.toNat [.Uf pc0,g1,g2,.Uf ev0]).set t.toNat [.Uf p,g1,g2,.Uf ev0]) [AV.Uf p,g1,g2,.Uf (IntKind.i64.wrap (ev0+1))] (by rw[TS,TS];exact G);subst hzs;subst hze;unfold aO co;refine vw ?_;unfold aZ.enc;generalize hE:aT (am c t) ⟨p,rg,tn,IntKind.i64.wrap (ev0+1)⟩=z at *;by_cases hk:ek=16\/ek=2
  · have N:=N hk
    clear E D;have fin:∀(x y:AV) (L:SH),True:=λ_ _ _=>trivial
    rcases hk with rfl|rfl<;>rcases hA with rfl|⟨q,rfl⟩<;>rcases hx with rfl|⟨_,_,rfl⟩<;>rcases hy with rfl|⟨_,_,rfl⟩
    all_goals
      dsimp only[List.nil_append,List.cons_append]
      repeat' (first|refine st ?_|refine sb λM u=>?_|refine s2 (λh=>?_) λh=>?_|fail)
      refine N _ ?_ (λq hq=>by simp[hq]);simp[List.set_set]
  · have d1:decide (ek≠16)=true:=decide_eq_true Ua
    have d2:decide (ek≠2)=true:=decide_eq_true Ua;have E:=E Ua;have D:=D Ua;clear N;have hz : ∀ B : SH, az [.agg (am c t).enc, .agg [.Uf p, g1, g2, .Uf (IntKind.i64.wrap (ev0 + 1))]] (A ++ (B ++ (bt, ⟨4, (((l.map aC.enc).set t.toNat [.Uf pc0, g1, g2, .Uf ev0]).set t.toNat [.Uf p, g1, g2, .Uf ev0]).set t.toNat [.Uf p, g1, g2, .Uf (IntKind.i64.wrap (ev0 + 1))]⟩) :: RR))
        [.agg (am c t).enc,.agg (aC.mk p rg tn (IntKind.i64.wrap (ev0+1))).enc] ((bt,⟨4,(l.map aC.enc).set t.toNat (aC.mk p rg tn (IntKind.i64.wrap (ev0+1))).enc⟩)::(B++RZ)):=λB=>by
      have O:fU K [.Uf p,g1,g2,.Uf (IntKind.i64.wrap (ev0+1))] (aC.mk p rg tn (IntKind.i64.wrap (ev0+1))).enc:=.cons (.refl _) (.cons hg (.cons hg2 (.cons (.refl _) .nil)));refine az.rowV (Ot A B K RZ RR _ hR) (.cons (.refl _) (.cons (Fz.aggs O) .nil)) Ud ?_;intro j r r' Y S;simp only[List.set_set]at Y;rw[SS]at Y S;by_cases hj:t.toNat=j
      · rw[if_pos hj,if_pos G]at Y S
        cases Y;cases S;exact O
      · rw[if_neg hj]at Y S
        rw[Y]at S;cases S;exact fU.refl _ _
    have s3:=dC (aC.mk p rg tn (IntKind.i64.wrap (ev0+1))).enc G;obtain⟨th,ok⟩:=z;rcases hA with rfl|⟨q,rfl⟩
    · rcases ok with _|_<;>rcases hx with rfl|⟨_,_,rfl⟩<;>rcases hy with rfl|⟨_,_,rfl⟩
      all_goals
        dsimp only[List.nil_append,List.cons_append]
        repeat' (first|refine st ?_|refine sb λM u=>?_|refine s2 (λh=>?_) λh=>?_|fail)
        refine lQ (ac.pre (hz [_,_,_,_]) (Z.call (KL:=λv K'=>v=_/\K'=_) ⟨rfl,rfl⟩)) ?_;rintro _ _ ⟨rfl,rfl⟩;unfold lT;dsimp only[List.nil_append,List.cons_append]
        repeat' (first|refine st ?_|refine sb λM u=>?_|refine s2 (λh=>?_) λh=>?_|fail)
        first
          |exact D rfl _
          | (refine E _ rfl _ ?_ (fun q hq => by simp [hq])
             simp[List.set_set])
    · rcases ok with _|_<;>rcases hx with rfl|⟨_,_,rfl⟩<;>rcases hy with rfl|⟨_,_,rfl⟩
      all_goals
        dsimp only[List.nil_append,List.cons_append]
        repeat' (first|refine st ?_|refine sb λM u=>?_|refine s2 (λh=>?_) λh=>?_|fail)
        refine lQ (ac.pre (hz [_,_,_,_]) (Z.call (KL:=λv K'=>v=_/\K'=_) ⟨rfl,rfl⟩)) ?_;rintro _ _ ⟨rfl,rfl⟩;unfold lT;dsimp only[List.nil_append,List.cons_append]
        repeat' (first|refine st ?_|refine sb λM u=>?_|refine s2 (λh=>?_) λh=>?_|fail)
        first
          |exact D rfl _
          | (refine E _ rfl _ ?_ (fun q hq => by simp [hq])
             simp[List.set_set])
end
end
section
def cm.zero:cm:=⟨G2,[],[],[]⟩
def iK(r:Option (cm×da)):AV:=match r with
 |some r=>.tup [.agg r.1.enc,.agg r.2.enc,.bool true]
 |none=>.tup [.agg cm.zero.enc,.agg da.zero.enc,.bool false]
def kh(c:aZ)(s:cm)(t:Int)(r1:SyncD)(e:da)(a:Mc):Option (cm×da):=
 if e.kind≠16/\e.kind≠2 then
  (if(aT (am c t) a.thread).2 then some (⟨r1,a.cells,a.futures,s.threads.set t.toNat (aT (am c t) a.thread).1⟩,{e with value:=a.value})else none)
 else some (⟨r1,a.cells,a.futures,s.threads.set t.toNat a.thread⟩,{e with value:=a.value})
theorem jc(K:SH):Fz K (.tup [.agg aO,.agg co,.bool false]) (iK none):=
 Fz.tups (.cons (Fz.aggs (by unfold aO cm.zero cm.enc G2;exact fl)) (.cons (Fz.aggs (by unfold co da.zero da.enc;exact fl)) (.cons (.refl _) .nil)))
theorem CB{α:Type}{f:α->List AV}{L:SH}{bt n m:Nat}{l:List α}{k:Nat}{r:List AV}{y:α}(Y:0<n)(G:m=l.length)(hk:k<l.length)(Z:(bt,(⟨n,(l.map f).set k r⟩:Blk))∈L)(S:fU L r (f y)):Fz L (.sl bt 0 m) (.lst ((l.set k y).map f)):=by
 subst G;have E:∀(j:Nat) (x D:List AV),((l.map f).set k r)[0+j]? =some x->((l.set k y).map f)[j]? =some D->fU L x D:=by
  intro j x D B u;rw[To]at u;rw[Tm]at B;rw[SS]at B u;by_cases M:k=j
  .rw[if_pos M,if_pos (by simpa using hk)]at B u;cases B;cases u;exact S
  .rw[if_neg M]at B u;rw[B]at u;cases u;exact fU.refl _ _
 exact .sl bt 0 l.length _ _ Z Y Ua Ud Ud (λj x D B u=>(E j x D B u).at_.1) (λj x D q a a2 B u O N=>(E j x D B u).at_.2 q a a2 O N)
theorem FX{L:SH}{bt:Nat}{l:List aC}{k:Nat}{r:List AV}{th:aC}(B:k<l.length)(u:(bt,(⟨4,(l.map aC.enc).set k r⟩:Blk))∈L)(j:fU L r th.enc):Fz L (.sl bt 0 l.length) (.lst ((l.set k th).map aC.enc)):=CB Ue rfl B u j
theorem Eo{L:SH}{o:Option Nat}{l:List Int}{n:Nat}(j:n=l.length)(D:o=none->l=[])(u:∀b,o=some b->∃rows,rows=l.map ah/\(b,(⟨1,rows⟩:Blk))∈L):Fz L (aJ o n) (.lst (l.map ah)):=
 fw j D λb B=>by obtain⟨rows,rfl,h⟩:=u b B;exact h
section
variable (c:aZ) (s:cm) (t wake:Int) (h1:inB t s.threads.length=true) (hc:inB t c.ts.length=true) (sy:SyncD) (e:da) (a:Mc) (b132 b24 b8 b6 bt:Nat) (oc of:Option Nat) (K RZ RR A:SH) (hA:A=[]\/∃q,A=[q]) (hA0:e.kind=16\/e.kind=2->A=[]) (hR:(A++RR).Perm (K++RZ))
 (g1 g2:AV) (hg:∀L:SH,(∀q∈K,q∈L)->Fz L g1 (.lst (a.thread.regs.map ah))) (hg2:∀L:SH,(∀q∈K,q∈L)->Fz L g2 (.lst (a.thread.taint.map bz))) (hn1:b24≠b6)
 (hoc:oc=none->a.cells=[]) (hof:of=none->a.futures=[]) (hmc:∀b,oc=some b->∃rows,rows=a.cells.map ah/\(b,(⟨1,rows⟩:Blk))∈RZ) (hmf:∀b,of=some b->∃rows,rows=a.futures.map ah/\(b,(⟨1,rows⟩:Blk))∈RZ)
 (hse:aq Tryz.prog 75 [.agg (am c t).enc,.agg a.thread.enc] (lT (aT (am c t) a.thread))) (pc0 ev0:Int) (hev:a.thread.ev=IntKind.i64.wrap (ev0+1)) (Q:R) (hq:∀v L,Fz L v (iK (kh c s t sy e a))->Q v L)
include h1 hc hA hA0 hR hg hg2 hn1 hoc hof hmc hmf hse hev hq
theorem yJ : bV Q [.pptr [c.enc] 0 0, .pptr [[.Uf t, .Uf wake]] 0 0, .ptr b6 0 0, .ptr b8 0 0, .ptr b24 0 0, .ptr b132 0 0, .ptr bt t.toNat 0, .Uf a.thread.pc]
      (A++(b132,⟨7,[[.lst (sy.locks.map LockD.enc),.Uf sy.tx,.lst (sy.done.map aB),.lst (sy.threads.map ThrD.enc),aJ oc a.cells.length,aJ of a.futures.length,.sl bt 0 s.threads.length]]⟩)::(b24,⟨7,[{e with value:=a.value}.enc]⟩)::(b8,⟨7,[co]⟩)::(b6,⟨7,[aO]⟩)::(bt,⟨4,(s.threads.map aC.enc).set t.toNat [.Uf pc0,g1,g2,.Uf ev0]⟩)::RR):=by
  obtain⟨i1,i2⟩:=av.1 h1;have hlt:t.toNat<s.threads.length:=by omega
  obtain⟨va,ce,fu,⟨p,rg,tn,ev⟩⟩:=a;obtain⟨e1,ek,eo,v0,es,d,f⟩:=e;dsimp only at *;subst hev;have ends : ∀ (th : aC) (L : SH), kh c s t sy ⟨e1, ek, eo, v0, es, d, f⟩ ⟨va, ce, fu, ⟨p, rg, tn, IntKind.i64.wrap (ev0 + 1)⟩⟩ = some (⟨sy, ce, fu, s.threads.set t.toNat th⟩, ⟨e1, ek, eo, va, es, d, f⟩)→
      Fz L (.sl bt 0 s.threads.length) (.lst ((s.threads.set t.toNat th).map aC.enc))→(∀q∈RZ,q∈L)→
      Q (.tup [.agg [.lst (sy.locks.map LockD.enc),.Uf sy.tx,.lst (sy.done.map aB),.lst (sy.threads.map ThrD.enc),aJ oc ce.length,aJ of fu.length,.sl bt 0 s.threads.length],.agg [.Uf e1,.Uf ek,.Uf eo,.Uf va,.Uf es,.lst (d.map ah),.lst (f.map ah)],.bool true]) L:=by
    intro th L hf h2 hz;refine hq _ _ ?_;rw[hf];refine Fz.tups (.cons (Fz.aggs ?_) (.cons (.refl _) (.cons (.refl _) .nil)));refine .cons (.refl _) (.cons (.refl _) (.cons (.refl _) (.cons (.refl _) (.cons ?_ (.cons ?_ (.cons h2 .nil))))))
    · exact Eo rfl hoc λb hb=>by obtain⟨rows,e,h⟩:=hmc b hb;exact⟨rows,e,hz _ h⟩
    · exact Eo rfl hof λb hb=>by obtain⟨rows,e,h⟩:=hmf b hb;exact⟨rows,e,hz _ h⟩
  refine QQ c s.threads t wake h1 hc p pc0 ev0 rg tn g1 g2 sy _ _ (sO _ _) (sO _ _) e1 ek eo va es d f b132 b24 b8 b6 bt K RZ RR A hA hR (hg _ λq h=>h) (hg2 _ λq h=>h) hn1 Q _ rfl _ rfl hse ?_ ?_ ?_
  · intro hk L hm hL
    have hA1:=hA0 hk;subst hA1;have hsub:∀q∈K++RZ,q∈L:=λq h=>hL q (by simpa using hR.mem_iff.2 h)
    refine ends ⟨p,rg,tn,IntKind.i64.wrap (ev0+1)⟩ L (by unfold kh;rw[if_neg (by dsimp only;omega)]) (FX hlt hm ?_) λq h=>hsub q (by simp[h])
    exact .cons (.refl _) (.cons (hg _ λq h=>hsub q (by simp[h])) (.cons (hg2 _ λq h=>hsub q (by simp[h])) (.cons (.refl _) .nil)))
  · intro hk th hth L hm hL
    refine ends th L (by unfold kh;rw[if_pos hk];dsimp only;rw[hth];rfl) (FX hlt hm (fU.refl _ _)) hL
  · intro hk h2 L
    refine hq _ _ ?_;rw[show kh c s t sy ⟨e1,ek,eo,v0,es,d,f⟩ ⟨va,ce,fu,⟨p,rg,tn,IntKind.i64.wrap (ev0+1)⟩⟩=none by unfold kh;rw[if_pos hk];dsimp only;rw[h2];rfl];exact jc L
end
end
section
theorem cj{B:SH->Prop}{n b i j:Nat}{v:AV}{x:Blk}{r cs:List AV}{L u:SH}(D:wZ b x ⟨x.size,x.rows.set i (bq r j cs)⟩ L u)(h1:x.rows[i]? =some r)(h2:v.cells? =some cs)(G:cs.length=n)(h4:cs.all AV.one=true)(E:j+n<=r.length)(h:B u):W.store n (.ptr b i j) v L B:=⟨x,r,cs,u,h1,h2,G,h4,E,D,h⟩
theorem aU{n b m:Nat}{k:IntKind}{i:Int}{y:Blk}{L:SH}{K:AV->Prop}(u:0<=i)(h1:i.toNat<m)(j:(b,y)∈L)(h2:y.size=n)(h:K (.ptr b i.toNat 0)):W.idx n (.sl b 0 m) (.int k i) L K:=B4 u h1 j h2 (by rw[Tm];exact h)
def io(Q:R)(L168:SH)(x132 x24 x142 x167 x171 x10 x14 x6 x8 x177 x115:AV):Prop:=
 HO 1 x24 L168 λx269=>wb .eql 3 x269 (.Uf 3) λx270=>wk x270 (El (bV Q) L168 x132 x24 x142 x167 x171 x10 x14 x6 x8 x177) (Cz (bV Q) L168 x269 x132 x24 x142 x167 x171 x10 x14 x6 x8 x177 x115)
section
variable (c:aZ) (s:cm) (t wake:Int) (h1:inB t s.threads.length=true) (hc:inB t c.ts.length=true) (th:aC) (hth:ay s t=th) (i:aS) (hi:bH (am c t) th.pc=i) (hpc:inB th.pc (am c t).ins.length=true) (sy:SyncD) (sv:Int) (e:da) (b132 b24 b8 b6 bt tb:Nat) (o oc of:Option Nat) (hn1:b24≠b6) (hn2:b24∉SH.names ((b8,(⟨7,[co]⟩:Blk))::[]) ) (ho:o=none->th.regs=[]) (hoc:oc=none->s.cells=[]) (hof:of=none->s.futures=[]) (Q:R)
def cS(th:aC)(tb:Nat)(o:Option Nat):List AV:=[.Uf th.pc,aJ o th.regs.length,.sl tb 0 th.taint.length,.Uf th.ev]
def hD(s:cm)(th:aC)(tb:Nat)(o oc of:Option Nat):SH:=ab o 1 (th.regs.map ah)++(tb,⟨1,th.taint.map bz⟩)::(ab oc 1 (s.cells.map ah)++ab of 1 (s.futures.map ah))
def jd(s:cm)(t:Int)(th:aC)(e:da)(b24 b8 b6 bt tb:Nat)(o:Option Nat)(RR:SH):SH:=
 (b24,⟨7,[e.enc]⟩)::(b8,⟨7,[co]⟩)::(b6,⟨7,[aO]⟩)::(bt,⟨4,(s.threads.map aC.enc).set t.toNat (cS th tb o)⟩)::RR
def gz(s:cm)(sy:SyncD)(bt:Nat)(oc of:Option Nat):List AV:=[.lst (sy.locks.map LockD.enc),.Uf sy.tx,.lst (sy.done.map aB),.lst (sy.threads.map ThrD.enc),aJ oc s.cells.length,aJ of s.futures.length,.sl bt 0 s.threads.length]
include h1 hc hth hi hpc
theorem Ou(G:SH)(h:∀b132,io Q ((b132,⟨7,[gz s sy bt oc of]⟩)::jd s t th e b24 b8 b6 bt tb o G) (.ptr b132 0 0) (.ptr b24 0 0) (.ptr bt t.toNat 0) (.pptr [i.enc] 0 0) (.Uf th.ev) (.pptr [c.enc] 0 0) (.pptr [[.Uf t,.Uf wake]] 0 0) (.ptr b6 0 0) (.ptr b8 0 0) (.Uf (IntKind.i64.wrap (th.pc+1))) (.Uf sv)):
  vx Q (.pptr [sy.enc] 0 0) (.pptr [[.Uf t,.Uf wake]] 0 0) (.pptr [c.enc] 0 0) (.ptr b24 0 0) (.ptr b6 0 0) (.ptr b8 0 0) (.Uf sv) (.agg [.nils,.Uf 0,.nils,.nils,aJ oc s.cells.length,aJ of s.futures.length,.sl bt 0 s.threads.length]) (jd s t th e b24 b8 b6 bt tb o G):=by
 obtain⟨S,i2⟩:=av.1 h1;have u:t.toNat<(s.threads.map aC.enc).length:=by simp;omega
 have M:(c.ts.map eb.enc)[t.toNat]? =some (am c t).enc:=gk hc;have Z:=av.1 hc;have x4:((am c t).ins.map aS.enc)[th.pc.toNat]? =some i.enc:=by rw[<-hi];exact bQ hpc
 have Y:=av.1 hpc;have N:=dC (cS th tb o) u;unfold cS at N;unfold SyncD.enc;refine vw ?_;unfold jd cS gz at *;unfold io at h;have D:c.enc=[.lst (c.w.cells.map aH.enc),.lst (c.w.locks.map bC.enc),.lst (c.w.conds.map bR.enc),.lst (c.w.futures.map au),.lst (c.w.threads.map au),.lst (c.w.sites.map bU.enc),.lst (c.ts.map eb.enc)]:=rfl;rw[D]at *;have B:(am c t).enc=[.Uf (am c t).regs,.lst ((am c t).ins.map aS.enc)]:=rfl;rw[B]at M;cases oc
 all_goals cases of
 all_goals
  dsimp only[aJ]at *;have j:t.toNat<s.threads.length:=by omega
  repeat' (first|exact h _|refine aU S j rp rfl ?_|refine st ?_|refine cj rp Uc Uc Uc Uc Ud ?_|refine sb λO E=>?_|refine s2 (λh=>?_) λh=>?_|fail)
end
end
section
section
variable (c:aZ) (s:cm) (t wake:Int) (h1:inB t s.threads.length=true) (hc:inB t c.ts.length=true) (th:aC) (i:aS) (sy:SyncD) (sv:Int) (e:da) (b132 b24 b8 b6 bt tb:Nat) (o oc of:Option Nat) (hn1:b24≠b6) (ho:o=none->th.regs=[]) (hoc:oc=none->s.cells=[]) (hof:of=none->s.futures=[])
 (htn:th.taint.length=th.regs.length) (hse:aq Tryz.prog 75 [.agg (am c t).enc,.agg (bY i e s th sv).thread.enc] (lT (aT (am c t) (bY i e s th sv).thread))) (Q:R) (hq:∀v L,Fz L v (iK (kh c s t sy e (bY i e s th sv)))->Q v L)
def je(c:aZ)(s:cm)(t wake:Int)(th:aC)(i:aS)(sy:SyncD)(sv:Int)(e:da)(b132 b24 b8 b6 bt tb:Nat)(o oc of:Option Nat)(Q:R):Prop:=
 io Q ((b132,⟨7,[gz s sy bt oc of]⟩)::jd s t th e b24 b8 b6 bt tb o (hD s th tb o oc of)) (.ptr b132 0 0) (.ptr b24 0 0) (.ptr bt t.toNat 0) (.pptr [i.enc] 0 0) (.Uf th.ev) (.pptr [c.enc] 0 0) (.pptr [[.Uf t,.Uf wake]] 0 0) (.ptr b6 0 0) (.ptr b8 0 0) (.Uf (IntKind.i64.wrap (th.pc+1))) (.Uf sv)
include h1 hc hn1 ho hoc hof htn hse hq
theorem Sc(hk:e.kind=3)(E:0<=i.a/\i.a<th.regs.length)(M:inB e.obj s.cells.length=true):je c s t wake th i sy sv e b132 b24 b8 b6 bt tb o oc of Q:=by
 have N:bY i e s th sv=⟨iJ s.cells e.obj,s.cells,s.futures,⟨IntKind.i64.wrap (th.pc+1),th.regs.set i.a.toNat (iJ s.cells e.obj),th.taint.set i.a.toNat [th.ev],IntKind.i64.wrap (th.ev+1)⟩⟩:=by simp[bY,hk]
 rw[N]at hse hq;obtain⟨e1,ek,D,v0,es,d,f⟩:=e;obtain⟨op,B,ib,ic,m,site⟩:=i;dsimp only at *;subst hk;have j:=av.1 M;have hi1:=av.1 h1;cases o with
 |none=>rw[ho rfl]at E;simp at E;omega
 |some S=>
  cases oc with
  |none=>rw[hoc rfl]at j;simp at j;omega
  |some G=>
   unfold je io jd hD gz cS;obtain⟨J,hJ⟩:∃J,J=bV Q:=⟨_,rfl⟩;rw[<-hJ];have s0:=dC (cS th tb (some S)) (l:=s.threads.map aC.enc) (n:=t.toNat) (by simp;omega);unfold cS at s0;dsimp only[aJ,ab,List.cons_append,List.nil_append]at *;have y1:=i9 (s:=th) E.1 E.2;have y2:=l5 (s:=th) E.1 Ua;have y3:(s.cells.map ah)[D.toNat]? =some [.Uf (iJ s.cells D)]:=gk M;have z1:B.toNat<th.regs.length:=by omega
   have Z:B.toNat<th.taint.length:=by omega
   have z3:D.toNat<s.cells.length:=by omega
   repeat' (first|refine aU E.1 z1 rp rfl ?_|refine aU E.1 Z rp rfl ?_|refine aU j.1 z3 rp rfl ?_|refine Bc (aU j.1 z3 rp rfl ?_)|refine st ?_|refine sb λu hnb_=>?_|refine s2 (λh=>?_) λh=>?_|fail)
   rw[hJ];refine yJ c s t wake h1 hc sy ⟨e1,3,D,v0,es,d,f⟩ ⟨iJ s.cells D,s.cells,s.futures,⟨IntKind.i64.wrap (th.pc+1),th.regs.set B.toNat (iJ s.cells D),th.taint.set B.toNat [th.ev],IntKind.i64.wrap (th.ev+1)⟩⟩ b132 b24 b8 b6 bt (some G) of [(u,⟨1,[[.Uf th.ev]]⟩),(S,⟨1,(th.regs.map ah).set B.toNat [.Uf (iJ s.cells D)]⟩),(tb,⟨1,(th.taint.map bz).set B.toNat [.sl u 0 1]⟩)]
    ((G,⟨1,s.cells.map ah⟩)::ab of 1 (s.futures.map ah)) ((S,⟨1,(th.regs.map ah).set B.toNat [.Uf (iJ s.cells D)]⟩)::(tb,⟨1,(th.taint.map bz).set B.toNat [.sl u 0 1]⟩)::(G,⟨1,s.cells.map ah⟩)::ab of 1 (s.futures.map ah)) [(u,⟨1,[[.Uf th.ev]]⟩)] (.inr ⟨_,rfl⟩) (by dsimp only;omega) (.refl _) (.sl S 0 th.regs.length) (.sl tb 0 th.taint.length) ?_ ?_ hn1 nofun hof ?_ ?_ hse th.pc th.ev rfl Q hq
   .exact λL O=>Fz.sls (O _ (.tail _ (.head _))) (by simp[To,ah]) Ue Ud
   .exact λL O=>CB Ue rfl Z (O _ (.tail _ (.tail _ (.head _)))) (.cons (Fz.sls (l:=[th.ev]) (f:=ah) (O _ (.head _)) rfl Ue rfl) .nil)
   .exact λb Y=>by cases Y;exact⟨_,rfl,.head _⟩
   .exact λb Y=>by subst Y;exact⟨_,rfl,.tail _ (.head _)⟩
theorem QR(hk:e.kind=23)(G:0<=i.a/\i.a<th.regs.length)(N:inB e.obj s.futures.length=true):je c s t wake th i sy sv e b132 b24 b8 b6 bt tb o oc of Q:=by
 have O:bY i e s th sv=⟨iJ s.futures e.obj,s.cells,s.futures,⟨IntKind.i64.wrap (th.pc+1),th.regs.set i.a.toNat (iJ s.futures e.obj),th.taint.set i.a.toNat [th.ev],IntKind.i64.wrap (th.ev+1)⟩⟩:=by simp[bY,hk]
 rw[O]at hse hq;obtain⟨e1,ek,B,v0,es,d,f⟩:=e;obtain⟨op,E,ib,ic,m,site⟩:=i;dsimp only at *;subst hk;have u:=av.1 N;have hi1:=av.1 h1;cases o with
 |none=>rw[ho rfl]at G;simp at G;omega
 |some M=>
  cases of with
  |none=>rw[hof rfl]at u;simp at u;omega
  |some D=>
   unfold je io jd hD gz cS;obtain⟨J,hJ⟩:∃J,J=bV Q:=⟨_,rfl⟩;rw[<-hJ];have s0:=dC (cS th tb (some M)) (l:=s.threads.map aC.enc) (n:=t.toNat) (by simp;omega);unfold cS at s0;have y1:=i9 (s:=th) G.1 G.2;have y2:=l5 (s:=th) G.1 Ua;have y3:(s.futures.map ah)[B.toNat]? =some [.Uf (iJ s.futures B)]:=gk N;have z1:E.toNat<th.regs.length:=by omega
   have z2:E.toNat<th.taint.length:=by omega
   have z3:B.toNat<s.futures.length:=by omega
   have S:∀(j:Nat) (A:SH),A=[(D,⟨1,s.futures.map ah⟩)]->J [.pptr [c.enc] 0 0,.pptr [[.Uf t,.Uf wake]] 0 0,.ptr b6 0 0,.ptr b8 0 0,.ptr b24 0 0,.ptr b132 0 0,.ptr bt t.toNat 0,.Uf (IntKind.i64.wrap (th.pc+1))]
     ((j,⟨1,[[.Uf th.ev]]⟩)::(b132,⟨7,[gz s sy bt oc (some D)]⟩)::(b24,⟨7,[(da.mk e1 23 B (iJ s.futures B) es d f).enc]⟩)::(b8,⟨7,[co]⟩)::(b6,⟨7,[aO]⟩)::(bt,⟨4,(s.threads.map aC.enc).set t.toNat (cS th tb (some M))⟩)::(M,⟨1,(th.regs.map ah).set E.toNat [.Uf (iJ s.futures B)]⟩)::(tb,⟨1,(th.taint.map bz).set E.toNat [.sl j 0 1]⟩)::(ab oc 1 (s.cells.map ah)++A)):=by
    rintro j A rfl;rw[hJ];refine yJ c s t wake h1 hc sy ⟨e1,23,B,v0,es,d,f⟩ ⟨iJ s.futures B,s.cells,s.futures,⟨IntKind.i64.wrap (th.pc+1),th.regs.set E.toNat (iJ s.futures B),th.taint.set E.toNat [th.ev],IntKind.i64.wrap (th.ev+1)⟩⟩ b132 b24 b8 b6 bt oc (some D) [(j,⟨1,[[.Uf th.ev]]⟩),(M,⟨1,(th.regs.map ah).set E.toNat [.Uf (iJ s.futures B)]⟩),(tb,⟨1,(th.taint.map bz).set E.toNat [.sl j 0 1]⟩)]
     (ab oc 1 (s.cells.map ah)++[(D,⟨1,s.futures.map ah⟩)]) ((M,⟨1,(th.regs.map ah).set E.toNat [.Uf (iJ s.futures B)]⟩)::(tb,⟨1,(th.taint.map bz).set E.toNat [.sl j 0 1]⟩)::(ab oc 1 (s.cells.map ah)++[(D,⟨1,s.futures.map ah⟩)])) [(j,⟨1,[[.Uf th.ev]]⟩)] (.inr ⟨_,rfl⟩) (by dsimp only;omega) (.refl _) (.sl M 0 th.regs.length) (.sl tb 0 th.taint.length) ?_ ?_ hn1 hoc nofun ?_ ?_ hse th.pc th.ev rfl Q hq
    .exact λL Y=>Fz.sls (Y _ (.tail _ (.head _))) (by simp[To,ah]) Ue Ud
    .exact λL Y=>CB Ue rfl z2 (Y _ (.tail _ (.tail _ (.head _)))) (.cons (Fz.sls (l:=[th.ev]) (f:=ah) (Y _ (.head _)) rfl Ue rfl) .nil)
    .exact λb Z=>by subst Z;exact⟨_,rfl,.head _⟩
    .exact λb Z=>by cases Z;exact⟨_,rfl,Ud⟩
   cases oc
   all_goals
    dsimp only[aJ,ab,List.cons_append,List.nil_append]at *
    repeat' (first|refine aU G.1 z1 rp rfl ?_|refine aU G.1 z2 rp rfl ?_|refine aU u.1 z3 rp rfl ?_|refine Bc (aU u.1 z3 rp rfl ?_)|refine st ?_|refine sb λj hnb_=>?_|refine s2 (λh=>?_) λh=>?_|fail)
    exact S j _ rfl
end
end
section
section
variable (c:aZ) (s:cm) (t wake:Int) (h1:inB t s.threads.length=true) (hc:inB t c.ts.length=true) (th:aC) (i:aS) (sy:SyncD) (sv:Int) (e:da) (b132 b24 b8 b6 bt tb:Nat) (o oc of:Option Nat) (hn1:b24≠b6) (ho:o=none->th.regs=[]) (hoc:oc=none->s.cells=[]) (hof:of=none->s.futures=[])
 (htn:th.taint.length=th.regs.length) (hse:aq Tryz.prog 75 [.agg (am c t).enc,.agg (bY i e s th sv).thread.enc] (lT (aT (am c t) (bY i e s th sv).thread))) (Q:R) (hq:∀v L,Fz L v (iK (kh c s t sy e (bY i e s th sv)))->Q v L)
include h1 hc hn1 ho hoc hof htn hse hq
theorem Sd(hk:e.kind=4)(G:0<=i.b/\i.b<th.regs.length)(M:inB e.obj s.cells.length=true):je c s t wake th i sy sv e b132 b24 b8 b6 bt tb o oc of Q:=by
 have N:bY i e s th sv=⟨th.reg i.b,s.cells.set e.obj.toNat (th.reg i.b),s.futures,⟨IntKind.i64.wrap (th.pc+1),th.regs,th.taint,IntKind.i64.wrap (th.ev+1)⟩⟩:=by simp[bY,hk]
 rw[N]at hse hq;obtain⟨e1,ek,B,v0,es,d,f⟩:=e;obtain⟨op,ia,D,ic,m,Z⟩:=i;dsimp only at *;subst hk;have j:=av.1 M;have hi1:=av.1 h1;cases o with
 |none=>rw[ho rfl]at G;simp at G;omega
 |some E=>
  cases oc with
  |none=>rw[hoc rfl]at j;simp at j;omega
  |some u=>
   unfold je io jd hD gz cS;obtain⟨J,hJ⟩:∃J,J=bV Q:=⟨_,rfl⟩;rw[<-hJ];have s0:=dC (cS th tb (some E)) (l:=s.threads.map aC.enc) (n:=t.toNat) (by simp;omega);unfold cS at s0;have y1:=i9 (s:=th) G.1 G.2;have y3:(s.cells.map ah)[B.toNat]? =some [.Uf (iJ s.cells B)]:=gk M;have z1:D.toNat<th.regs.length:=by omega
   have z3:B.toNat<s.cells.length:=by omega
   have O:∀(A:SH),A=[]->J [.pptr [c.enc] 0 0,.pptr [[.Uf t,.Uf wake]] 0 0,.ptr b6 0 0,.ptr b8 0 0,.ptr b24 0 0,.ptr b132 0 0,.ptr bt t.toNat 0,.Uf (IntKind.i64.wrap (th.pc+1))]
     ((b132,⟨7,[gz s sy bt (some u) of]⟩)::(b24,⟨7,[(da.mk e1 4 B (th.reg D) es d f).enc]⟩)::(b8,⟨7,[co]⟩)::(b6,⟨7,[aO]⟩)::(bt,⟨4,(s.threads.map aC.enc).set t.toNat (cS th tb (some E))⟩)::(E,⟨1,th.regs.map ah⟩)::(tb,⟨1,th.taint.map bz⟩)::((u,⟨1,(s.cells.map ah).set B.toNat [.Uf (th.reg D)]⟩)::(ab of 1 (s.futures.map ah)++A))):=by
    rintro A rfl;rw[hJ];have:=yJ c s t wake h1 hc sy ⟨e1,4,B,v0,es,d,f⟩ ⟨th.reg D,s.cells.set B.toNat (th.reg D),s.futures,⟨IntKind.i64.wrap (th.pc+1),th.regs,th.taint,IntKind.i64.wrap (th.ev+1)⟩⟩ b132 b24 b8 b6 bt (some u) of [(E,⟨1,th.regs.map ah⟩),(tb,⟨1,th.taint.map bz⟩)]
     ((u,⟨1,(s.cells.map ah).set B.toNat [.Uf (th.reg D)]⟩)::(ab of 1 (s.futures.map ah)++[])) ((E,⟨1,th.regs.map ah⟩)::(tb,⟨1,th.taint.map bz⟩)::((u,⟨1,(s.cells.map ah).set B.toNat [.Uf (th.reg D)]⟩)::(ab of 1 (s.futures.map ah)++[]))) [] (.inl rfl) (λ_=>rfl) (.refl _) (.sl E 0 th.regs.length) (.sl tb 0 th.taint.length) ?_ ?_ hn1 nofun hof ?_ ?_ hse th.pc th.ev rfl Q hq
    .simp only[TS]at this;exact this
    .exact λL Y=>Fz.sls (Y _ (.head _)) rfl Ue rfl
    .exact λL Y=>Fz.sls (Y _ (.tail _ (.head _))) rfl Ue rfl
    .exact λb S=>by cases S;exact⟨_,by simp[To,ah],.head _⟩
    .exact λb S=>by subst S;exact⟨_,rfl,.tail _ (.head _)⟩
   cases of
   all_goals
    dsimp only[aJ,ab,List.cons_append,List.nil_append]at *
    repeat' (first|refine aU G.1 z1 rp rfl ?_|refine aU j.1 z3 rp rfl ?_|refine Bc (aU j.1 z3 rp rfl ?_)|refine st ?_|refine sb λnb_ hnb_=>?_|refine s2 (λh=>?_) λh=>?_|fail)
    exact O _ rfl
theorem QT(hk:e.kind=22)(G:0<=i.b/\i.b<th.regs.length)(M:inB e.obj s.futures.length=true):je c s t wake th i sy sv e b132 b24 b8 b6 bt tb o oc of Q:=by
 have N:bY i e s th sv=⟨th.reg i.b,s.cells,s.futures.set e.obj.toNat (th.reg i.b),⟨IntKind.i64.wrap (th.pc+1),th.regs,th.taint,IntKind.i64.wrap (th.ev+1)⟩⟩:=by simp[bY,hk]
 rw[N]at hse hq;obtain⟨e1,ek,B,v0,es,d,f⟩:=e;obtain⟨op,ia,D,ic,m,Z⟩:=i;dsimp only at *;subst hk;have j:=av.1 M;have hi1:=av.1 h1;cases o with
 |none=>rw[ho rfl]at G;simp at G;omega
 |some E=>
  cases of with
  |none=>rw[hof rfl]at j;simp at j;omega
  |some u=>
   unfold je io jd hD gz cS;obtain⟨J,hJ⟩:∃J,J=bV Q:=⟨_,rfl⟩;rw[<-hJ];have s0:=dC (cS th tb (some E)) (l:=s.threads.map aC.enc) (n:=t.toNat) (by simp;omega);unfold cS at s0;have y1:=i9 (s:=th) G.1 G.2;have y3:(s.futures.map ah)[B.toNat]? =some [.Uf (iJ s.futures B)]:=gk M;have z1:D.toNat<th.regs.length:=by omega
   have z3:B.toNat<s.futures.length:=by omega
   have O:∀(A:SH),A=[(u,⟨1,(s.futures.map ah).set B.toNat [.Uf (th.reg D)]⟩)]->J [.pptr [c.enc] 0 0,.pptr [[.Uf t,.Uf wake]] 0 0,.ptr b6 0 0,.ptr b8 0 0,.ptr b24 0 0,.ptr b132 0 0,.ptr bt t.toNat 0,.Uf (IntKind.i64.wrap (th.pc+1))]
     ((b132,⟨7,[gz s sy bt oc (some u)]⟩)::(b24,⟨7,[(da.mk e1 22 B (th.reg D) es d f).enc]⟩)::(b8,⟨7,[co]⟩)::(b6,⟨7,[aO]⟩)::(bt,⟨4,(s.threads.map aC.enc).set t.toNat (cS th tb (some E))⟩)::(E,⟨1,th.regs.map ah⟩)::(tb,⟨1,th.taint.map bz⟩)::(ab oc 1 (s.cells.map ah)++A)):=by
    rintro A rfl;rw[hJ];have:=yJ c s t wake h1 hc sy ⟨e1,22,B,v0,es,d,f⟩ ⟨th.reg D,s.cells,s.futures.set B.toNat (th.reg D),⟨IntKind.i64.wrap (th.pc+1),th.regs,th.taint,IntKind.i64.wrap (th.ev+1)⟩⟩ b132 b24 b8 b6 bt oc (some u) [(E,⟨1,th.regs.map ah⟩),(tb,⟨1,th.taint.map bz⟩)]
     (ab oc 1 (s.cells.map ah)++[(u,⟨1,(s.futures.map ah).set B.toNat [.Uf (th.reg D)]⟩)]) ((E,⟨1,th.regs.map ah⟩)::(tb,⟨1,th.taint.map bz⟩)::(ab oc 1 (s.cells.map ah)++[(u,⟨1,(s.futures.map ah).set B.toNat [.Uf (th.reg D)]⟩)])) [] (.inl rfl) (λ_=>rfl) (.refl _) (.sl E 0 th.regs.length) (.sl tb 0 th.taint.length) ?_ ?_ hn1 hoc nofun ?_ ?_ hse th.pc th.ev rfl Q hq
    .simp only[TS]at this;exact this
    .exact λL Y=>Fz.sls (Y _ (.head _)) rfl Ue rfl
    .exact λL Y=>Fz.sls (Y _ (.tail _ (.head _))) rfl Ue rfl
    .exact λb S=>by subst S;exact⟨_,rfl,.head _⟩
    .exact λb S=>by cases S;exact⟨(s.futures.map ah).set B.toNat [.Uf (th.reg D)],by simp[To,ah],Ud⟩
   cases oc
   all_goals
    dsimp only[aJ,ab,List.cons_append,List.nil_append]at *
    repeat' (first|refine aU G.1 z1 rp rfl ?_|refine aU j.1 z3 rp rfl ?_|refine Bc (aU j.1 z3 rp rfl ?_)|refine st ?_|refine sb λnb_ hnb_=>?_|refine s2 (λh=>?_) λh=>?_|fail)
    exact O _ rfl
end
end
section
section
variable (c:aZ) (s:cm) (t wake:Int) (h1:inB t s.threads.length=true) (hc:inB t c.ts.length=true) (th:aC) (i:aS) (sy:SyncD) (sv:Int) (e:da) (b132 b24 b8 b6 bt tb:Nat) (o oc of:Option Nat) (hn1:b24≠b6) (ho:o=none->th.regs=[]) (hoc:oc=none->s.cells=[]) (hof:of=none->s.futures=[])
 (htn:th.taint.length=th.regs.length) (hse:aq Tryz.prog 75 [.agg (am c t).enc,.agg (bY i e s th sv).thread.enc] (lT (aT (am c t) (bY i e s th sv).thread))) (Q:R) (hq:∀v L,Fz L v (iK (kh c s t sy e (bY i e s th sv)))->Q v L)
include h1 hc hn1 ho hoc hof htn hse hq
theorem Ha(v p:Int)(E:bY i e s th sv=⟨v,s.cells,s.futures,⟨p,th.regs,th.taint,IntKind.i64.wrap (th.ev+1)⟩⟩)(u:da)(B:u={e with value:=v}):
  bV Q [.pptr [c.enc] 0 0,.pptr [[.Uf t,.Uf wake]] 0 0,.ptr b6 0 0,.ptr b8 0 0,.ptr b24 0 0,.ptr b132 0 0,.ptr bt t.toNat 0,.Uf p]
   ((b132,⟨7,[gz s sy bt oc of]⟩)::(b24,⟨7,[u.enc]⟩)::(b8,⟨7,[co]⟩)::(b6,⟨7,[aO]⟩)::(bt,⟨4,(s.threads.map aC.enc).set t.toNat (cS th tb o)⟩)::hD s th tb o oc of):=by
 subst B;rw[E]at hse hq;refine yJ c s t wake h1 hc sy e ⟨v,s.cells,s.futures,⟨p,th.regs,th.taint,IntKind.i64.wrap (th.ev+1)⟩⟩ b132 b24 b8 b6 bt oc of (ab o 1 (th.regs.map ah)++[(tb,⟨1,th.taint.map bz⟩)]) (ab oc 1 (s.cells.map ah)++ab of 1 (s.futures.map ah)) (hD s th tb o oc of) [] (.inl rfl) (λ_=>rfl) (by unfold hD;simp) (aJ o th.regs.length) (.sl tb 0 th.taint.length) ?_ ?_ hn1 hoc hof ?_ ?_ hse th.pc th.ev rfl Q hq
 .exact λL D=>fw rfl ho λb j=>D _ (by subst j;simp[ab])
 .exact λL D=>Fz.sls (D _ (SP _ (.head _))) rfl Ue rfl
 .exact λb j=>by subst j;exact⟨_,rfl,by simp[ab]⟩
 .exact λb j=>by subst j;exact⟨_,rfl,by simp[ab]⟩
theorem Se(E:e.kind=5)(j:0<=i.a/\i.a<th.regs.length):je c s t wake th i sy sv e b132 b24 b8 b6 bt tb o oc of Q:=by
 have u:=Ha c s t wake h1 hc th i sy sv e b132 b24 b8 b6 bt tb o oc of hn1 ho hoc hof htn hse Q hq;by_cases G:th.reg i.a≠0
 .replace u:=u 1 (IntKind.i64.wrap (th.pc+1)) (by simp[bY,E,G]) _ rfl;have d1:decide (th.reg i.a≠0)=true:=decide_eq_true G;clear hse hq;obtain⟨e1,ek,eo,v0,es,d,f⟩:=e;obtain⟨op,S,ib,ic,m,B⟩:=i;dsimp only at *;subst E;have Y:=av.1 h1;cases o with
  |none=>rw[ho rfl]at j;simp at j;omega
  |some bo=>
   unfold je io jd hD gz cS;unfold hD gz cS at u;obtain⟨J,Z⟩:∃J,J=bV Q:=⟨_,rfl⟩;rw[<-Z]at u ⊢;have N:=dC (cS th tb (some bo)) (l:=s.threads.map aC.enc) (n:=t.toNat) (by simp;omega);unfold cS at N;have y1:=i9 (s:=th) j.1 j.2;have M:S.toNat<th.regs.length:=by omega
   generalize ab oc 1 (s.cells.map ah)++ab of 1 (s.futures.map ah)=T at *;dsimp only[aJ,ab,List.cons_append,List.nil_append]at *
   repeat' (first|refine aU j.1 M rp rfl ?_|refine st ?_|refine sb λO D=>?_|refine s2 (λh=>?_) λh=>?_|fail)
   exact u
 .replace u:=u e.value i.b (by simp[bY,E,G]) _ rfl;have d1:decide (th.reg i.a≠0)=false:=decide_eq_false G;clear hse hq;obtain⟨e1,ek,eo,v0,es,d,f⟩:=e;obtain⟨op,S,ib,ic,m,B⟩:=i;dsimp only at *;subst E;have Y:=av.1 h1;cases o with
  |none=>rw[ho rfl]at j;simp at j;omega
  |some bo=>
   unfold je io jd hD gz cS;unfold hD gz cS at u;obtain⟨J,Z⟩:∃J,J=bV Q:=⟨_,rfl⟩;rw[<-Z]at u ⊢;have N:=dC (cS th tb (some bo)) (l:=s.threads.map aC.enc) (n:=t.toNat) (by simp;omega);unfold cS at N;have y1:=i9 (s:=th) j.1 j.2;have M:S.toNat<th.regs.length:=by omega
   generalize ab oc 1 (s.cells.map ah)++ab of 1 (s.futures.map ah)=T at *;dsimp only[aJ,ab,List.cons_append,List.nil_append]at *
   repeat' (first|refine aU j.1 M rp rfl ?_|refine st ?_|refine sb λO D=>?_|refine s2 (λh=>?_) λh=>?_|fail)
   exact u
theorem Sf(hk:e.kind≠3/\e.kind≠23/\e.kind≠4/\e.kind≠22/\e.kind≠5):je c s t wake th i sy sv e b132 b24 b8 b6 bt tb o oc of Q:=by
 obtain⟨Y,B,S,D,O⟩:=hk;have j:=Ha c s t wake h1 hc th i sy sv e b132 b24 b8 b6 bt tb o oc of hn1 ho hoc hof htn hse Q hq;have d3:decide (e.kind=3)=false:=decide_eq_false Y;have d23:decide (e.kind=23)=false:=decide_eq_false B;have d4:decide (e.kind=4)=false:=decide_eq_false S;have d22:decide (e.kind=22)=false:=decide_eq_false D;have d5:decide (e.kind=5)=false:=decide_eq_false O;have hi1:=av.1 h1;have s0:=dC (cS th tb o) (l:=s.threads.map aC.enc) (n:=t.toNat) (by simp;omega);have Z:e.enc=[.Uf e.thread,.Uf e.kind,.Uf e.obj,.Uf e.value,.Uf e.site,.lst (e.deps.map ah),.lst (e.frm.map ah)]:=rfl;by_cases E:e.kind=18\/e.kind=19
 .replace j:=j sv (IntKind.i64.wrap (th.pc+1)) (by unfold bY;rw[if_neg Y,if_neg B,if_neg S,if_neg D,if_neg O,if_pos E]) _ rfl;unfold je io jd;unfold gz cS at *;obtain⟨J,M⟩:∃J,J=bV Q:=⟨_,rfl⟩;rw[<-M]at j ⊢;generalize hD s th tb o oc of=T at *;rw[Z];rcases E with E|E
  .have N:decide (e.kind=18)=true:=decide_eq_true E
   repeat' (first|refine st ?_|refine sb λG u=>?_|refine s2 (λh=>?_) λh=>?_|fail)
   exact j
  .have N:decide (e.kind=18)=false:=decide_eq_false Ua;have d19:decide (e.kind=19)=true:=decide_eq_true E
   repeat' (first|refine st ?_|refine sb λG u=>?_|refine s2 (λh=>?_) λh=>?_|fail)
   exact j
 .have N:decide (e.kind=18)=false:=decide_eq_false Ua;have d19:decide (e.kind=19)=false:=decide_eq_false Ua;by_cases p2:e.kind=1\/e.kind=16\/e.kind=2
  .replace j:=j e.value th.pc (by unfold bY;rw[if_neg Y,if_neg B,if_neg S,if_neg D,if_neg O,if_neg E,if_pos p2]) _ rfl;unfold je io jd;unfold gz cS at *;obtain⟨J,M⟩:∃J,J=bV Q:=⟨_,rfl⟩;rw[<-M]at j ⊢;generalize hD s th tb o oc of=T at *;rw[Z]
   repeat' (first|refine st ?_|refine sb λG u=>?_|refine s2 (λh=>?_) λh=>?_|fail)
   all_goals first
    |exact j
    |(exfalso;simp_all<;>omega)
  .replace j:=j e.value (IntKind.i64.wrap (th.pc+1)) (by unfold bY;rw[if_neg Y,if_neg B,if_neg S,if_neg D,if_neg O,if_neg E,if_neg p2]) _ rfl;unfold je io jd;unfold gz cS at *;obtain⟨J,M⟩:∃J,J=bV Q:=⟨_,rfl⟩;rw[<-M]at j ⊢;generalize hD s th tb o oc of=T at *;rw[Z]
   repeat' (first|refine st ?_|refine sb λG u=>?_|refine s2 (λh=>?_) λh=>?_|fail)
   all_goals first
    |exact j
    |(exfalso;simp_all<;>omega)
end
end
def Kh(q:Nat)(o:Option Nat)(tb:Nat)(l:List aC)(B:q<l.length):iz q o tb l=(l.map aC.enc).set q (cS (l.getD q aC.zero) tb o):=by
 apply TH;intro j;rw[SS];rcases Fn j l.length with u|u
 .rw[sN _ _ _ _ _ u];by_cases e:q=j
  .subst e;rw[if_pos rfl,if_pos (by simpa using u)];simp[Aq,cS,u]
  .rw[if_neg e];simp[Aq,show¬j=q from λh=>e h.symm,u]
 .rw[LE (by rw[dt];exact u),if_neg Ua,LE (by simpa using u)]
def Bw(i:aS)(s:aC)(t:Int):(cQ i s t).kind=eU i.op:=by
 unfold cQ;dsimp only
 repeat' split
 all_goals rfl
def Ki{i:aS}{n:Int}(u:1<=i.op)(h2:i.op<=28)(G:∀r∈aN i,0<=r/\r<n):((eU i.op=3\/eU i.op=23\/eU i.op=5)->0<=i.a/\i.a<n)/\((eU i.op=4\/eU i.op=22)->0<=i.b/\i.b<n):=by obtain⟨op,E,D,B,m,j⟩:=i;dsimp only at *;rcases ops op u h2 with rfl|rfl|rfl|rfl|rfl|rfl|rfl|rfl|rfl|rfl|rfl|rfl|rfl|rfl|rfl|rfl|rfl|rfl|rfl|rfl|rfl|rfl|rfl|rfl|rfl|rfl|rfl|rfl<;>simp_all[eU,gD,aN]
structure QU(c:aZ)(s:cm)(t:Int)(e:da):Prop where
 ready:gN c s t=true
 ra:(e.kind=3\/e.kind=23\/e.kind=5)->0<=(bH (am c t) (ay s t).pc).a/\(bH (am c t) (ay s t).pc).a<(ay s t).regs.length
 rb:(e.kind=4\/e.kind=22)->0<=(bH (am c t) (ay s t).pc).b/\(bH (am c t) (ay s t).pc).b<(ay s t).regs.length
def dX{c:aZ}{s:cm}{t:Int}(h:gN c s t=true):inB t c.ts.length=true/\inB t s.threads.length=true/\inB t s.sync.threads.length=true/\inB (ay s t).pc (am c t).ins.length=true/\((ay s t).regs.length:Int)=(am c t).regs/\((ay s t).taint.length:Int)=(am c t).regs:=by unfold gN at h;simp only[SN,decide_eq_true_eq]at h;obtain⟨⟨⟨⟨⟨a,b⟩,c⟩,d⟩,e⟩,f⟩:=h;exact⟨a,b,c,d,e,f⟩
def rh{c:aZ}{s:cm}{t:Int}{e:da}(N:∀x∈c.ts,sM x)(h:bL c s t=some e):QU c s t e:=by
 unfold bL at h;by_cases j:gN c s t=true
 .rw[if_pos j]at h;obtain⟨S,a2,a3,O,Z,Y⟩:=dX j;obtain⟨G,E,D⟩:=N _ (eE (d:=⟨0,[]⟩) S) _ (eE (d:=default) O);rw[show(c.ts.getD t.toNat ⟨0,[]⟩).ins.getD (ay s t).pc.toNat default=bH (am c t) (ay s t).pc from rfl]at G E D;have M:=Ki (n:=(ay s t).regs.length) G E (λr j=>by have:=D r j;rw[show(c.ts.getD t.toNat ⟨0,[]⟩).regs=(am c t).regs from rfl]at this;omega);have u:e.kind=1\/e.kind=17\/e.kind=eU (bH (am c t) (ay s t).pc).op:=by
   dsimp only at h;split at h
   .cases h;exact .inl rfl
   .split at h
    .cases h;exact .inr (.inl rfl)
    .split at h
     .split at h
      .cases h;exact .inr (.inr (Bw _ _ _))
      .cases h
     .cases h
  refine⟨j,λB=>M.1 ?_,λB=>M.2 ?_⟩
  .rcases u with k|k|k
   .omega
   .omega
   .rw[<-k];exact B
  .rcases u with k|k|k
   .omega
   .omega
   .rw[<-k];exact B
 .rw[if_neg j]at h;cases h
def jQ(c:aZ)(s:cm)(t wake:Int):gy c s t wake=match bL c s t with
  |none=>none
  | some e=>if s.cells.length=c.w.cells.length/\s.futures.length=c.w.futures.length then
    (if(dE c.w s.sync t e.kind e.obj wake).2.2 then kh c s t (dE c.w s.sync t e.kind e.obj wake).1 e (bY (bH (am c t) (ay s t).pc) e s (ay s t) (dE c.w s.sync t e.kind e.obj wake).2.1)else none)else none:=by
 unfold gy kh;rfl
def vy{w:aI}{s:SyncD}{t k o wake:Int}(h:(dE w s t k o wake).2.2=true):allowedS w k o=true:=by
 unfold dE at h;split at h
 .rename_i j;unfold aE at j;simp only[SN]at j;exact j.1.2
 .cases h
structure Nn(U:List Int)(c:aZ)(s:cm):Prop where
 ins:∀x∈c.ts,sM x
 len:∀x∈c.ts,x.ins.length<2^40
 u30:U.length<=2^30
 thr:∀x∈s.threads,gX U x/\x.ev∈U/\x.regs.length<=2^30
 sm:D4 c.w s.sync
 nt:s.threads.length<=2^30
 nc:s.cells.length<2^40
 nf:s.futures.length<2^40
def yK{U:List Int}{i:aS}{e:da}{s:cm}{th:aC}{sv:Int}(h:gX U th)(E:th.ev∈U):gX U (bY i e s th sv).thread:=by
 obtain⟨B,u,M,G⟩:=h;have j:gX U ⟨th.pc,th.regs,th.taint.set i.a.toNat [th.ev],th.ev⟩:=by
  refine⟨by simpa using B,u,λl D=>?_,λl D x N=>?_⟩
  .rcases TU D with h|rfl
   .exact M l h
   .simp
  .rcases TU D with h|rfl
   .exact G l h x N
   .rw[Sz.1 N];exact E
 unfold bY;dsimp only
 repeat' split
 all_goals first
  |exact⟨B,u,M,G⟩
  |exact⟨by simpa using B,by simpa using u,j.short,j.sub⟩
def Mf(U:List Int)(c:aZ)(s:cm)(t wake:Int)(H:Nn U c s):aq Tryz.prog 42 [.agg c.enc,.agg s.enc,.agg [.Uf t,.Uf wake]] (iK (gy c s t wake)):=by
 obtain⟨hi,hl,hu,O,hsm,hnt,hnc,hnf⟩:=H;have hp:=G9 c s t hi (λx hx r=>by
  have:=(O x hx).1.short;unfold aC.tnt;rcases Fn r.toNat x.taint.length with h|h
  .have:=this _ (Sy h);simp[h];omega
  .simp[List.getD,LE h])
 rw[jQ];refine ac.fz (Em _ _ _ _ _ ?_);refine vw ?_;generalize hQ:(λ(v:AV) (L:SH)=>∃v2 L2,az [v] L [v2] L2/\v2=_/\L2=[])=Q;have E:∀v L,Fz L v (iK (match bL c s t with
  |none=>none
  | some e=>if s.cells.length=c.w.cells.length/\s.futures.length=c.w.futures.length then
    (if(dE c.w s.sync t e.kind e.obj wake).2.2 then kh c s t (dE c.w s.sync t e.kind e.obj wake).1 e (bY (bH (am c t) (ay s t).pc) e s (ay s t) (dE c.w s.sync t e.kind e.obj wake).2.1)else none)else none))->Q v L:=λv L h=>by subst hQ;exact⟨_,[],az.all h,rfl,rfl⟩
 clear hQ;have hce:c.enc=[.lst (c.w.cells.map aH.enc),.lst (c.w.locks.map bC.enc),.lst (c.w.conds.map bR.enc),.lst (c.w.futures.map au),.lst (c.w.threads.map au),.lst (c.w.sites.map bU.enc),.lst (c.ts.map eb.enc)]:=rfl;have hse:s.enc=[.lst (s.sync.locks.map LockD.enc),.Uf s.sync.tx,.lst (s.sync.done.map aB),.lst (s.sync.threads.map ThrD.enc),.lst (s.cells.map ah),.lst (s.futures.map ah),.lst (s.threads.map aC.enc)]:=rfl;cases hpe:bL c s t with
 |none=>
  rw[hpe]at hp E;unfold eD at hp;have hz:=λv L (h:v=_)=>E v L (by rw[h];exact jc L)
  unfold aO co da.zero da.enc at *;dsimp only[List.map]at hp;rw[hce,hse]at *
  repeat' (first|refine st ?_|(refine pf 38 ?_;refine pm (hp) ?_)|refine sb λnb_ G=>?_|refine s2 (λh=>?_) λh=>?_|fail)
  exact hz _ _ rfl
 |some e=>
  rw[hpe]at hp E;unfold eD at hp;dsimp only at hp E;have M:=rh hi hpe;have ha:=JU c.w s.sync t e.kind e.obj wake hsm;have hcp:=Me s t.toNat hnt hnc hnf (λx hx=>⟨(O x hx).1.small,by have:=(O x hx).1.len;have:=(O x hx).2.2;omega,(O x hx).1.short⟩);have een:e.enc=[.Uf e.thread,.Uf e.kind,.Uf e.obj,.Uf e.value,.Uf e.site,.lst (e.deps.map ah),.lst (e.frm.map ah)]:=rfl;generalize hres:dE c.w s.sync t e.kind e.obj wake=r at *;obtain⟨sy,sv,ok⟩:=r;unfold JQ at ha;dsimp only at ha E;by_cases hln:s.cells.length=c.w.cells.length/\s.futures.length=c.w.futures.length
  .rw[if_pos hln]at E;have d1:decide ((s.cells.length:Int)≠c.w.cells.length)=false:=decide_eq_false Ua;have d2:decide ((s.futures.length:Int)≠c.w.futures.length)=false:=decide_eq_false Ua;cases ok with
   |false=>
    have hz:=λv L (h:v=_)=>E v L (by rw[h];exact jc L)
    unfold aO co at hz;rw[hce,hse,een]at *
    repeat' (first|refine st ?_|(refine pf 38 ?_;refine pm (hp) ?_)|(refine pf 73 ?_;refine pm (ha) ?_)|refine sb λnb_ G=>?_|refine s2 (λh=>?_) λh=>?_|fail)
    exact hz _ _ rfl
   |true=>
    rw[if_pos rfl]at E;obtain⟨a1,a2,a3,a4,a5,a6⟩:=dX M.ready;have al:=vy (w:=c.w) (s:=s.sync) (t:=t) (k:=e.kind) (o:=e.obj) (wake:=wake) (by rw[hres]);have hmem:ay s t∈s.threads:=eE (d:=aC.zero) a2;have hT:=O _ hmem;have hobc:e.kind=3\/e.kind=4->inB e.obj s.cells.length=true:=λhk=>by unfold allowedS at al;rw[if_neg Ua,if_pos hk]at al;rw[hln.1];exact al
    have hobf:e.kind=22\/e.kind=23->inB e.obj s.futures.length=true:=λhk=>by unfold allowedS at al;rw[if_neg Ua,if_neg Ua,if_neg Ua,if_neg Ua,if_neg Ua,if_neg Ua,if_pos hk]at al;rw[hln.2];exact al
    have B:=yK (i:=bH (am c t) (ay s t).pc) (e:=e) (s:=s) (sv:=sv) hT.1 hT.2.1;have u:=HY (am c t) _ U hu B.small (by rw[B.len];exact B.small) B.short B.sub (hl _ (show am c t∈c.ts from eE a1));have fin:∀(v:AV) (K:SH) (j b8 b6:Nat),j≠b6->Oo s t.toNat v K->vx Q (.pptr [sy.enc] 0 0) (.pptr [[.Uf t,.Uf wake]] 0 0) (.pptr [c.enc] 0 0) (.ptr j 0 0) (.ptr b6 0 0) (.ptr b8 0 0) (.Uf sv) v ((j,⟨7,[e.enc]⟩)::(b8,⟨7,[co]⟩)::(b6,⟨7,[aO]⟩)::K):=by
     rintro v K j b8 b6 hn ⟨oc,of,bt,o,tb,rfl,rfl,Y,S,ho⟩;have hlt:t.toNat<s.threads.length:=by have:=av.1 a2;omega
     have e1:(j,(⟨7,[e.enc]⟩:Blk))::(b8,⟨7,[co]⟩)::(b6,⟨7,[aO]⟩)::((bt,⟨4,iz t.toNat o tb s.threads⟩)::(oo t.toNat o tb s.threads s.threads.length++(ab oc 1 (s.cells.map ah)++ab of 1 (s.futures.map ah))))=jd s t (ay s t) e j b8 b6 bt tb o (hD s (ay s t) tb o oc of):=by rw[Kh _ _ _ _ hlt,oo,if_pos hlt];unfold jd hD;rw[S3];rfl
     rw[e1];refine Ou c s t wake a2 a1 _ rfl _ rfl a4 sy sv e j b8 b6 bt tb o oc of Q _ λD=>?_
     have Z:o=none->(ay s t).regs=[]:=λh=>ho h hlt
     have N:(ay s t).taint.length=(ay s t).regs.length:=by omega
     by_cases k3:e.kind=3
     .exact Sc c s t wake a2 a1 _ _ sy sv e D j b8 b6 bt tb o oc of hn Z Y S N u Q E k3 (M.ra Ua) (hobc Ua)
     by_cases k23:e.kind=23
     .exact QR c s t wake a2 a1 _ _ sy sv e D j b8 b6 bt tb o oc of hn Z Y S N u Q E k23 (M.ra Ua) (hobf Ua)
     by_cases k4:e.kind=4
     .exact Sd c s t wake a2 a1 _ _ sy sv e D j b8 b6 bt tb o oc of hn Z Y S N u Q E k4 (M.rb Ua) (hobc Ua)
     by_cases k22:e.kind=22
     .exact QT c s t wake a2 a1 _ _ sy sv e D j b8 b6 bt tb o oc of hn Z Y S N u Q E k22 (M.rb Ua) (hobf Ua)
     by_cases k5:e.kind=5
     .exact Se c s t wake a2 a1 _ _ sy sv e D j b8 b6 bt tb o oc of hn Z Y S N u Q E k5 (M.ra Ua)
     exact Sf c s t wake a2 a1 _ _ sy sv e D j b8 b6 bt tb o oc of hn Z Y S N u Q E ⟨k3,k23,k4,k22,k5⟩
    unfold aO co at fin;clear E u B hobc hobf al M hT hmem;rw[hce,hse,een]at *
    repeat' (first|refine st ?_|(refine pf 38 ?_;refine pm (hp) ?_)|(refine pf 73 ?_;refine pm (ha) ?_)|((with_reducible refine bb 74 ?_);(refine nD hcp ?_;intro v K hK;exact fin _ _ _ _ _ (λh_=>by subst h_;simp[SH.names]at G) hK))|refine sb λnb_ G=>?_|refine s2 (λh=>?_) λh=>?_|fail)
  .rw[if_neg hln]at E;have hz:=λv L (h:v=_)=>E v L (by rw[h];exact jc L)
   unfold aO co at hz;rw[hce,hse,een]at *;by_cases hl1:s.cells.length=c.w.cells.length
   .have d1:decide ((s.cells.length:Int)≠c.w.cells.length)=false:=decide_eq_false Ua;have d2:decide ((s.futures.length:Int)≠c.w.futures.length)=true:=decide_eq_true Ua
    repeat' (first|refine st ?_|(refine pf 38 ?_;refine pm (hp) ?_)|refine sb λnb_ G=>?_|refine s2 (λh=>?_) λh=>?_|fail)
    exact hz _ _ rfl
   .have d1:decide ((s.cells.length:Int)≠c.w.cells.length)=true:=decide_eq_true Ua
    repeat' (first|refine st ?_|(refine pf 38 ?_;refine pm (hp) ?_)|refine sb λnb_ G=>?_|refine s2 (λh=>?_) λh=>?_|fail)
    exact hz _ _ rfl
def oq(t:eb):aC:=⟨0,List.replicate t.regs.toNat 0,List.replicate t.regs.toNat [],0⟩
def Ov(l:List eb)(h1:l.length<=1000)(hr:∀t∈l,0<=t.regs/\t.regs<=1000)(u:SyncD)(x y:AV)(hx:∃b n,x=.sl b 0 n)(Y:∃b n,y=.sl b 0 n)(b2 D bt:Nat)(S L0:SH)(Q:R)(hL0:L0.Perm ((bt,⟨4,[]⟩)::(D,⟨7,[[.lst (u.locks.map LockD.enc),.Uf u.tx,.lst (u.done.map aB),.lst (u.threads.map ThrD.enc),x,y,.sl bt 0 0]]⟩)::(b2,⟨7,[aO]⟩)::S))
  (hq:∀(bt:Nat) (L:SH),(bt,(⟨4,(l.map oq).map aC.enc⟩:Blk))∈L->(∀q∈S,q∈L)->Q (.agg [.lst (u.locks.map LockD.enc),.Uf u.tx,.lst (u.done.map aB),.lst (u.threads.map ThrD.enc),x,y,.sl bt 0 l.length]) L) :
  W.loop (sJ Q) [.ptr b2 0 0,.ptr D 0 0,.lst (l.map eb.enc),.Uf l.length,.Uf (0:Nat)] L0:=by
 refine bD l.length (λk (O:Nat)=>([.ptr b2 0 0,.ptr D 0 0,.lst (l.map eb.enc),.Uf l.length,.Uf k],(O,⟨4,((l.take k).map oq).map aC.enc⟩)::(D,⟨7,[[.lst (u.locks.map LockD.enc),.Uf u.tx,.lst (u.done.map aB),.lst (u.threads.map ThrD.enc),x,y,.sl O 0 k]]⟩)::(b2,⟨7,[aO]⟩)::S)) (λ_ _=>True) bt trivial (az.forget (K:=[]) hL0) ?_;intro k O hk _;dsimp only;refine vw ?_;obtain⟨bx,nx,rfl⟩:=hx;obtain⟨by_,ny,rfl⟩:=Y;rcases Nat.lt_or_ge k l.length with N|N
 .have hd:=aW N;have Z:=ao (f:=eb.enc) N;obtain⟨r1,r2⟩:=hr _ (Sy N);have htk:l.take (k+1)=l.take k++[l[k]]:=Sw N;generalize hT:l[k]=tk at *;obtain⟨m,hm⟩:∃m:Nat,tk.regs=(m:Int):=⟨tk.regs.toNat,Ua⟩;have hke:tk.enc=[.Uf (m:Int),.lst (tk.ins.map aS.enc)]:=by rw[<-hm];rfl
  rw[hke]at Z
  repeat' (first|refine st ?_|refine ft (i:=m) (j:=m) Ua Ua Ua (λG B=>?_)|refine oh rp rp (by simp;omega) rfl (by simp;omega) (by simp;omega) rfl (λG B=>?_)|refine sb λG B=>?_|fail)
  rename_i kr _ kt _ ka _;refine⟨k+1,G,Ua,Ua,trivial,?_⟩;rw[ax N Ua,htk,LT,LT];have e:oq tk=⟨0,List.replicate m 0,List.replicate m [],0⟩:=by unfold oq;rw[hm];rfl
  refine az.row (K:=[(ka,_),(kt,_),(kr,_)]) (R:=(D,_)::(b2,_)::S) (TD (l₁:=[_,_,_])).symm Ud ?_;intro j r r' E M;rcases Fn j (((l.take k).map oq).map aC.enc).length with hj|hj
  .rw[SE hj]at E M;rw[E]at M;cases M;exact fU.refl _ _
  .rw[SA hj]at E M;rcases hmm:j-(((l.take k).map oq).map aC.enc).length with _|mm
   .rw[hmm]at E M;cases E;cases M;rw[e];refine .cons (.refl _) (.cons ?_ (.cons ?_ (.cons (.refl _) .nil)))
    .exact Fz.sls (l:=List.replicate m 0) (f:=ah) (.tail _ (.tail _ (.head _))) (by simp[ah]) Ue Ud
    .refine Fz.slm (l:=List.replicate m []) (f:=λ_=>[.nils]) (g:=bz) (.tail _ (.head _)) Ud Ue Ud (λy _=>rfl) (λy Y q a a2 E M=>?_);obtain rfl:=(List.mem_replicate.1 Y).2
     match q with
     |0=>cases E;cases M;exact .nils
   .rw[hmm]at E;simp at E
 .have hd:=aX N;have hk0:k=l.length:=by omega
  subst hk0;rw[SX (Fd _)];unfold aO
  repeat' (first|refine st ?_|refine sb λG B=>?_|refine s2 (λh=>?_) λh=>?_|fail)
  exact hq O _ (.head _) (λq h=>by simp[h])
def Ow(c:aZ)(h1:c.w.cells.length<=1000)(S O N M y z:AV)(b2 j E:Nat)(RR L0:SH)(Q:R)(hL0:L0.Perm ((E,⟨1,[]⟩)::(j,⟨7,[[S,O,N,M,.sl E 0 0,y,z]]⟩)::RR))
  (hq:∀E:Nat,W.loop (sJ Q) [.ptr b2 0 0,.ptr j 0 0,.lst (c.ts.map eb.enc),.Uf c.ts.length,.Uf (0:Nat)] ((E,⟨1,(c.w.cells.map aH.init).map ah⟩)::(j,⟨7,[[S,O,N,M,.sl E 0 c.w.cells.length,y,z]]⟩)::RR)) :
  W.loop (sK Q) [.pptr [c.enc] 0 0,.ptr b2 0 0,.ptr j 0 0,.lst (c.w.cells.map aH.enc),.Uf c.w.cells.length,.Uf (0:Nat)] L0:=by
 refine bD c.w.cells.length (λk (G:Nat)=>([.pptr [c.enc] 0 0,.ptr b2 0 0,.ptr j 0 0,.lst (c.w.cells.map aH.enc),.Uf c.w.cells.length,.Uf k],(G,⟨1,((c.w.cells.take k).map aH.init).map ah⟩)::(j,⟨7,[[S,O,N,M,.sl G 0 k,y,z]]⟩)::RR)) (λ_ _=>True) E trivial (az.forget (K:=[]) hL0) ?_;intro k G hk _;dsimp only;refine vw ?_;rcases Nat.lt_or_ge k c.w.cells.length with D|D
 .have hd:=aW D;have Y:=ao (f:=aH.enc) D;have Z:c.w.cells.take (k+1)=c.w.cells.take k++[c.w.cells[k]]:=Sw D;generalize hT:c.w.cells[k]=ck at *;have hce:ck.enc=[.str ck.name,.Uf ck.index,.Uf ck.size,.bool ck.vol,.Uf ck.init]:=rfl;rw[hce]at Y
  repeat' (first|refine st ?_|refine oh rp rp (by simp;omega) rfl (by simp;omega) (by simp;omega) rfl (λB u=>?_)|refine sb λB u=>?_|fail)
  refine⟨k+1,B,Ua,Ua,trivial,?_⟩;rw[ax D Ua,Z,LT,LT];exact az.forget (K:=[(_,_)]) (List.Perm.swap _ _ _)
 .have hk0:k=c.w.cells.length:=by omega
  subst hk0;rw[SX (Fd _)];have:=hq G;have hd:=aX D;rw[show c.enc=[.lst (c.w.cells.map aH.enc),.lst (c.w.locks.map bC.enc),.lst (c.w.conds.map bR.enc),.lst (c.w.futures.map au),.lst (c.w.threads.map au),.lst (c.w.sites.map bU.enc),.lst (c.ts.map eb.enc)]from rfl]
  repeat' (first|exact this|refine st ?_|refine sb λB u=>?_|refine s2 (λh=>?_) λh=>?_|fail)
def H9(c:aZ)(h1:c.w.cells.length<=100)(h2:c.w.locks.length<=100)(h3:c.w.futures.length<=100)(h4:c.w.threads.length<=100)(h5:c.ts.length<=1000)(hr:∀t∈c.ts,0<=t.regs/\t.regs<=1000):aq Tryz.prog 36 [.agg c.enc] (.agg (ca c).enc):=by
 have N:=J0 c.w h2 h3 h4;refine ac.fz (Cy _ _ _ ?_);refine vw ?_;generalize hQ:(λ(v:AV) (L:SH)=>∃v2 L2,az [v] L [v2] L2/\v2=AV.agg (ca c).enc/\L2=[])=Q;have hq:∀v L,Fz L v (.agg (ca c).enc)->Q v L:=λv L h=>by subst hQ;exact⟨_,[],az.all h,rfl,rfl⟩
 clear hQ;have Y:c.w.enc=[.lst (c.w.cells.map aH.enc),.lst (c.w.locks.map bC.enc),.lst (c.w.conds.map bR.enc),.lst (c.w.futures.map au),.lst (c.w.threads.map au),.lst (c.w.sites.map bU.enc)]:=rfl;have hce:c.enc=[.lst (c.w.cells.map aH.enc),.lst (c.w.locks.map bC.enc),.lst (c.w.conds.map bR.enc),.lst (c.w.futures.map au),.lst (c.w.threads.map au),.lst (c.w.sites.map bU.enc),.lst (c.ts.map eb.enc)]:=rfl;rw[Y]at N;have Z:(a7 c.w).enc=[.lst ((a7 c.w).locks.map LockD.enc),.Uf (a7 c.w).tx,.lst ((a7 c.w).done.map aB),.lst ((a7 c.w).threads.map ThrD.enc)]:=rfl;rw[Z]at N;rw[hce];generalize hsg:a7 c.w=u at *;have lp:∀(S D G E O:Nat) (L:SH),L=(D,⟨7,[[.lst (u.locks.map LockD.enc),.Uf u.tx,.lst (u.done.map aB),.lst (u.threads.map ThrD.enc),.sl G 0 0,.sl E 0 c.w.futures.length,.sl O 0 0]]⟩)::(O,⟨4,[]⟩)::(E,⟨1,List.replicate c.w.futures.length [.Uf 0]⟩)::(G,⟨1,[]⟩)::[(S,⟨7,[aO]⟩)]->
   W.loop (sK Q) [.pptr [c.enc] 0 0,.ptr S 0 0,.ptr D 0 0,.lst (c.w.cells.map aH.enc),.Uf c.w.cells.length,.Uf (0:Nat)] L:=by
  rintro S D G E O L rfl;refine Ow c Ua (.lst (u.locks.map LockD.enc)) (.Uf u.tx) (.lst (u.done.map aB)) (.lst (u.threads.map ThrD.enc)) (.sl E 0 c.w.futures.length) (.sl O 0 0) S D G ((O,⟨4,[]⟩)::(E,⟨1,List.replicate c.w.futures.length [.Uf 0]⟩)::[(S,⟨7,[aO]⟩)]) _ Q ?_ λG=>?_
  .exact TD (l₁:=[_,_,_]) (l₂:=[_])
  refine Ov c.ts h5 hr u (.sl G 0 c.w.cells.length) (.sl E 0 c.w.futures.length) ⟨G,_,rfl⟩ ⟨E,_,rfl⟩ S D O [(G,⟨1,(c.w.cells.map aH.init).map ah⟩),(E,⟨1,List.replicate c.w.futures.length [.Uf 0]⟩)] _ Q ?_ λO L hm hL=>?_
  .exact(TD (l₁:=[_,_])).trans (((List.Perm.swap _ _ _).trans ((TD (l₁:=[_,_])).cons _)).cons _)
  refine hq _ _ ?_;have he:(ca c).enc=[.lst (u.locks.map LockD.enc),.Uf u.tx,.lst (u.done.map aB),.lst (u.threads.map ThrD.enc),.lst ((c.w.cells.map aH.init).map ah),.lst ((List.replicate c.w.futures.length (0:Int)).map ah),.lst ((c.ts.map oq).map aC.enc)]:=by unfold ca cm.enc;rw[hsg];rfl
  rw[he];refine Fz.aggs (.cons (.refl _) (.cons (.refl _) (.cons (.refl _) (.cons (.refl _) (.cons ?_ (.cons ?_ (.cons ?_ .nil)))))))
  .exact Fz.sls (hL _ (.head _)) rfl Ue Ud
  .exact Fz.sls (hL _ (.tail _ (.head _))) (by simp[ah]) Ue Ud
  .exact Fz.sls hm rfl Ue Ud
 repeat' (first|exact lp _ _ _ _ _ _ rfl|refine st ?_|(refine pf 69 ?_;refine pm (N) ?_)|refine ft (i:=0) (j:=c.w.cells.length) Ua Ua Ua (λM B=>?_)|refine ft (i:=c.w.futures.length) (j:=c.w.futures.length) Ua Ua Ua (λM B=>?_)|refine ft (i:=0) (j:=c.ts.length) Ua Ua Ua (λM B=>?_)|refine sb λM B=>?_|refine s2 (λh=>?_) λh=>?_|fail)
def U9:List Int:=(List.range 401).map λk:Nat=>(k:Int)
def Kj{n:Int}(u:0<=n)(j:n<=400):n∈U9:=Tl.2 ⟨n.toNat,Tw.2 Ua,Ua⟩
def Kk:U9.length<=2^30:=by simp[U9]
structure wF(c:aZ)(n:Nat)(s:cm):Prop where
 thr:∀x∈s.threads,gX U9 x/\0<=x.ev/\x.ev<=n/\x.regs.length<=1000
 nt:s.threads.length<=1000
 lk:s.sync.locks.length<=1000
 rd:∀l∈s.sync.locks,l.readers.length<=n
 dn:s.sync.done.length<=1000
 th:s.sync.threads.length<=1000
 nc:s.cells.length<=1000
 nf:s.futures.length<=1000
structure Ox(s s':SyncD)(n:Nat):Prop where
 lk:s'.locks.length=s.locks.length
 dn:s'.done.length=s.done.length
 th:s'.threads.length=s.threads.length
 rd:∀l∈s'.locks,l.readers.length<=n+1
def Ia(l:List Int)(t:Int):(si l t).length<=l.length+1:=by unfold si;have:=nE (tX (l++[t]));rw[oV]at this;simpa using this
def Ib{s:SyncD}{n:Nat}(h:∀l∈s.locks,l.readers.length<=n)(o:Int):(aF s o).readers.length<=n:=by
 unfold aF;rcases Fn o.toNat s.locks.length with j|j
 .simpa[List.getD,j]using h _ (Sy j)
 .simp[List.getD,LE j];exact SL _
def Ic{w:aI}{s:SyncD}{t k o wake:Int}{n:Nat}(h:∀l∈s.locks,l.readers.length<=n):Ox s (bG w s t k o wake).1 n:=by
  have j:∀l∈s.locks,l.readers.length<=n+1:=λl u=>TO (h l u)
  have lk:∀(i:Int) (f:LockD->LockD),(∀x,x.readers.length<=n->(f x).readers.length<=n+1)->∀l∈cg s i f,l.readers.length<=n+1:=λi f D l u=>by
    unfold cg at u;rcases TU u with E|rfl
    · exact j l E
    · exact D _ (Ib h i)
  have own:∀(i v:Int),∀l∈cg s i (λx=>{x with owner:=v}),l.readers.length<=n+1:=λi v=>lk i _ λx B=>TO B
  have G:∀(i:Int) (f:LockD->LockD),(cg s i f).length=s.locks.length:=λi f=>by simp[cg]
  have tl:∀(i:Int) (f:ThrD->ThrD),(cY s i f).length=s.threads.length:=λi f=>by simp[cY]
  unfold bG
  repeat' refine iteInduction (motive:=λx:SyncD×Int=>Ox s x.1 n) (λ_=>?_) (λ_=>?_)
  all_goals refine⟨by simp[cg],Ud,by simp[cY,ue,cB,Bo],?_⟩
  all_goals first
    |exact j
    | (intro l u; dsimp only at u
       refine lk _ _ (λx B=>?_) l u;dsimp only
       first
         |exact TO B
         |exact SK (Ia _ _) (Nat.succ_le_succ B)
         |exact SK (TP _ _) (TO B))
def l6{i:aS}{e:da}{s:cm}{th:aC}{sv:Int}:(bY i e s th sv).thread.ev=IntKind.i64.wrap (th.ev+1)/\(bY i e s th sv).thread.regs.length=th.regs.length/\(bY i e s th sv).cells.length=s.cells.length/\(bY i e s th sv).futures.length=s.futures.length:=by
 unfold bY;dsimp only
 repeat' split
 all_goals exact⟨rfl,Ud,Ud,Ud⟩
def Mg{i:aS}{s s2:aC}(h:aL i s=some s2):s2.ev=s.ev:=by
 unfold aL at h
 repeat' split at h
 all_goals first
  |(cases h;rfl)
  |cases h
def Oy{j:List aS}:∀(k:Nat) {s y:aC},dQ j k s=(y,true)->y.ev=s.ev/\y.regs.length=s.regs.length:=by
 intro k
 induction k with
 |zero=>
  intro s y h;unfold dQ at h
  repeat' split at h
  all_goals first
   |(cases h;exact⟨rfl,rfl⟩)
   |cases h
 |succ k B=>
  intro s y h;unfold dQ at h;split at h
  .split at h
   .cases h;exact⟨rfl,rfl⟩
   .split at h
    .cases h
    .rename_i s2 u;obtain⟨a,b⟩:=B h;rw[a,b,Mg u,(uk u).1];exact⟨rfl,rfl⟩
  .cases h
def Bx{c:eb}{s y:aC}(h:aT c s=(y,true)):y.ev=s.ev/\y.regs.length=s.regs.length:=by
 unfold aT at h;split at h
 .exact Oy _ h
 .cases h
structure QV(c:aZ)(s:cm)(t wake:Int)(s':cm)(e':da):Prop where
 ex:∃(e:da) (th':aC),bL c s t=some e/\(dE c.w s.sync t e.kind e.obj wake).2.2=true/\s.cells.length=c.w.cells.length/\s.futures.length=c.w.futures.length/\
  (th'=(bY (bH (am c t) (ay s t).pc) e s (ay s t) (dE c.w s.sync t e.kind e.obj wake).2.1).thread\/aT (am c t) (bY (bH (am c t) (ay s t).pc) e s (ay s t) (dE c.w s.sync t e.kind e.obj wake).2.1).thread=(th',true))/\
  s'=⟨(dE c.w s.sync t e.kind e.obj wake).1,(bY (bH (am c t) (ay s t).pc) e s (ay s t) (dE c.w s.sync t e.kind e.obj wake).2.1).cells,(bY (bH (am c t) (ay s t).pc) e s (ay s t) (dE c.w s.sync t e.kind e.obj wake).2.1).futures,s.threads.set t.toNat th'⟩/\
  e'={e with value:=(bY (bH (am c t) (ay s t).pc) e s (ay s t) (dE c.w s.sync t e.kind e.obj wake).2.1).value}
def FY{c:aZ}{s u:cm}{t wake:Int}{D:da}(h:gy c s t wake=some (u,D)):QV c s t wake u D:=by
 rw[jQ]at h;cases hp:bL c s t with
 |none=>rw[hp]at h;cases h
 |some e=>
  rw[hp]at h;dsimp only at h;split at h
  .rename_i j;split at h
   .rename_i B;unfold kh at h;split at h
    .split at h
     .rename_i E;cases h;exact⟨e,_,hp,B,j.1,j.2,.inr (Prod.ext rfl E),rfl,rfl⟩
     .cases h
    .cases h;exact⟨e,_,hp,B,j.1,j.2,.inl rfl,rfl,rfl⟩
   .cases h
  .cases h
def Kl{c:aZ}{s M:cm}{t wake:Int}{e':da}{n:Nat}(hn:n<400)(H:wF c n s)(hi:∀x∈c.ts,sM x)(h:gy c s t wake=some (M,e')):wF c (n+1) M:=by
 obtain⟨e,j,hp,G,hl1,hl2,E,rfl,rfl⟩:=FY h;have a2:=(dX (rh hi hp).ready).2.1;have u:ay s t∈s.threads:=eE (d:=aC.zero) a2;obtain⟨t1,t2,t3,t4⟩:=H.thr _ u;have at_:=yK (U:=U9) (i:=bH (am c t) (ay s t).pc) (e:=e) (s:=s) (sv:=(dE c.w s.sync t e.kind e.obj wake).2.1) t1 (Kj t2 Ua);obtain⟨N,Z,Y,S⟩:=l6 (i:=bH (am c t) (ay s t).pc) (e:=e) (s:=s) (th:=ay s t) (sv:=(dE c.w s.sync t e.kind e.obj wake).2.1);rw[Te _ Ua]at N;have B:Ox s.sync (dE c.w s.sync t e.kind e.obj wake).1 n:=by
  unfold dE at G ⊢;split
  .exact Ic H.rd
  .rename_i he;rw[if_neg he]at G;cases G
 have D:gX U9 j/\j.ev=(ay s t).ev+1/\j.regs.length=(ay s t).regs.length:=by
  rcases E with rfl|O
  .exact⟨at_,N,Z⟩
  .have:=Ec (c:=am c t) Kk at_;rw[O]at this;obtain⟨a,b⟩:=Bx O;exact⟨this,Ua,Ua⟩
 refine⟨λx hx=>?_,by simpa using H.nt,by rw[B.lk];exact H.lk,B.rd,by rw[B.dn];exact H.dn,by rw[B.th];exact H.th,by rw[Y];exact H.nc,by rw[S];exact H.nf⟩;rcases TU hx with h1|rfl
 .obtain⟨b1,b2,b3,b4⟩:=H.thr x h1;exact⟨b1,b2,Ua,b4⟩
 .exact⟨D.1,Ua,Ua,Ua⟩
def Ep{c:aZ}{s:cm}{n:Nat}(M:n<=400)(H:wF c n s)(B:∀x∈c.ts,sM x)(u:∀x∈c.ts,x.ins.length<2^40)(D:c.w.conds.length<2^40):Nn U9 c s where
 ins:=B
 len:=u
 u30:=Kk
 thr:=λx j=>by obtain⟨G,E,O,N⟩:=H.thr x j;exact⟨G,Kj E Ua,Ua⟩
 sm:=⟨D,by have:=H.lk;omega,by have:=H.dn;omega,by have:=H.th;omega,λl h=>by have:=H.rd l h;omega⟩
 nt:=by have:=H.nt;omega
 nc:=by have:=H.nc;omega
 nf:=by have:=H.nf;omega
structure QW(c:aZ):Prop where
 ins:∀x∈c.ts,sM x
 len:∀x∈c.ts,x.ins.length<2^40
 con:c.w.conds.length<2^40
def Er{c:aZ}(h:lZ c)(B:∀t∈c.ts,t.ins.length<2^40):QW c where
 ins:=λx u i G=>by obtain⟨k,D,rfl⟩:=List.mem_iff_getElem.1 u;obtain⟨j,E,rfl⟩:=List.mem_iff_getElem.1 G;have:=(h.thr k D).ins j E;exact⟨this.lo,this.hi,this.regs⟩
 len:=B
 con:=by have:=h.world.d2;omega
def Es{c:aZ}(h:lZ c):∀t∈c.ts,0<=t.regs/\t.regs<=1000:=λt j=>by obtain⟨k,u,rfl⟩:=List.mem_iff_getElem.1 j;have:=h.thr k u;have D:=this.r0;have B:=this.r32;exact⟨D,Ua⟩
def Hb{c:aZ}(h:lZ c):wF c 0 (ca c):=by
 have j:=h.world;refine⟨λx B=>?_,?_,?_,λl u=>?_,?_,?_,?_,?_⟩
 .obtain⟨t,D,rfl⟩:=Tl.1 B;have:=Es h t D;exact⟨⟨Ud,by simp;omega,λl u=>by rw[(List.mem_replicate.1 u).2];simp,λl u x B=>by rw[(List.mem_replicate.1 u).2]at B;simp at B⟩,Int.le_refl _,Int.le_refl _,by simp;omega⟩
 .have:=h.len;have:=j.t4;simp[ca];omega
 .have:=j.l4;simp[ca,a7];omega
 .have:=(List.mem_replicate.1 u).2;rw[this];simp
 .have:=j.f2;simp[ca,a7];omega
 .have:=j.t4;simp[ca,a7];omega
 .have:=j.c12;simp[ca];omega
 .have:=j.f2;simp[ca];omega
structure Km where
 w:aI
 ev:List da
def Km.enc(t:Km):List AV:=[.lst (t.w.cells.map aH.enc),.lst (t.w.locks.map bC.enc),.lst (t.w.conds.map bR.enc),.lst (t.w.futures.map au),.lst (t.w.threads.map au),.lst (t.w.sites.map bU.enc),.lst (t.ev.map da.enc)]
def No(e:da):Prop:=e.deps.length<=2^30/\e.frm.length<=2^30
def FZ{i:aS}{s:aC}{t:Int}(h:∀r,(s.tnt r).length<=2^30):No (cQ i s t):=by
 unfold cQ No;dsimp only
 repeat' split
 all_goals first
  |exact⟨SL _,SL _⟩
  |exact⟨h _,SL _⟩
  |exact⟨SL _,h _⟩
  |exact⟨h _,h _⟩
def Ie{U:List Int}{s:aC}(h:gX U s)(r:Int):(s.tnt r).length<=2^30:=by
 unfold aC.tnt;rcases Fn r.toNat s.taint.length with j|j
 .simpa[j]using h.short _ (Sy j)
 .simp[List.getD,LE j]
def yL{c:aZ}{s:cm}{t:Int}{e:da}{n:Nat}(H:wF c n s)(h:bL c s t=some e):No e:=by
 unfold bL at h;split at h
 .rename_i u;have B:ay s t∈s.threads:=eE (d:=aC.zero) (dX u).2.1;have j:=λr=>Ie (H.thr _ B).1 r
  dsimp only at h;split at h
  .cases h;exact⟨SL _,SL _⟩
  .split at h
   .cases h;exact⟨SL _,SL _⟩
   .split at h
    .split at h
     .cases h;exact FZ j
     .cases h
    .cases h
 .cases h
end Go.Proofs.YtbofdbhnbodbiaaGreatDoor.Am
