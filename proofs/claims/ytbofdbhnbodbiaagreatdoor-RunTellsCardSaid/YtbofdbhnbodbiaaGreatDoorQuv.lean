/- A part of the proof; the statement is proved in the last part. -/
import Derived.Test.YtbofdbhnbodbiaaGreatDoorQuu
set_option linter.all false
set_option maxRecDepth 100000
set_option maxHeartbeats 20000000
namespace Go.Proofs.YtbofdbhnbodbiaaGreatDoor.Am
def fK:RF:=nv (bO Tryz.prog Tryz.f106 [(39,⟨[1,4,5,6,7],[9],true,[]⟩),(72,⟨[1,4,10],[],true,[]⟩),(60,⟨[1,4,9],[],true,[]⟩),(9,⟨[1,4,5],[],true,[]⟩)] [(0,[1]),(4,[6]),(15,[8])])
abbrev zA(Q:R)(a:Kn):Vs->SH->Kn->Prop:=Lp fK 18 Q 39 [a]
abbrev zB(Q:R):Vs->SH->Kn->Prop:=Lp fK 17 Q 72 []
abbrev zC(Q:R):Vs->SH->Kn->Prop:=Lp fK 18 Q 60 []
abbrev qC(a:AV)(L:SH)(Q:R):Prop:=Pc fK 20 Q 0 [] [a] L
def oQ(j:AV)(L:SH)(Q:R)(h:qC j L Q):ac Tryz.prog 106 [j] L Q:=
 fv fK Tryz.func106 h
def fR:RF:=nv (bO Tryz.prog Tryz.f67 [(54,⟨[1,8],[],true,[]⟩),(36,⟨[1,6],[],true,[]⟩),(21,⟨[1,3,5],[],true,[]⟩)] [(0,[1]),(20,[9])])
abbrev pT(Q:R):Vs->SH->Kn->Prop:=Lp fR 17 Q 54 []
abbrev rJ(a:AV)(L:SH)(Q:R):Prop:=Pc fR 20 Q 0 [] [a] L
def pU(j:AV)(L:SH)(Q:R)(h:rJ j L Q):ac Tryz.prog 67 [j] L Q:=
 fv fR Tryz.func67 h
def zD:RF:=nv (bO Tryz.prog Tryz.f111 [] [])
abbrev GC(a b:AV)(L:SH)(Q:R):Prop:=Pc zD 20 Q 0 [] [a,b] L
def E9(j t1:AV)(L:SH)(Q:R)(h:GC j t1 L Q):ac Tryz.prog 111 [j,t1] L Q:=
 fv zD Tryz.func111 h
def qD:RF:=nv (bO Tryz.prog Tryz.f156 [] [(0,[3])])
abbrev A7(a b c:AV)(L:SH)(Q:R):Prop:=Pc qD 20 Q 0 [] [a,b,c] L
def zE(j t1 t2:AV)(L:SH)(Q:R)(h:A7 j t1 t2 L Q):ac Tryz.prog 156 [j,t1,t2] L Q:=
 fv qD Tryz.func156 h
def mP:RF:=nv (bO Tryz.prog Tryz.f109 [(75070,⟨[2,3,6,108],[],true,[]⟩),(66061,⟨[2,3,6,98],[],true,[]⟩),(54049,⟨[2,3,6,78],[],true,[]⟩),(39034,⟨[2,3,6,59],[],true,[]⟩)] [(0,[2,3])])
abbrev xe(a b:AV)(L:SH)(Q:R):Prop:=Pc mP 20 Q 0 [] [a,b] L
def u6(j t1:AV)(L:SH)(Q:R)(h:xe j t1 L Q):ac Tryz.prog 109 [j,t1] L Q:=
 fv mP Tryz.func109 h
def qE:RF:=nv (bO Tryz.prog Tryz.f110 [(6,⟨[0,1,5],[],true,[]⟩)] [])
abbrev A8(a b:AV)(L:SH)(Q:R):Prop:=Pc qE 20 Q 0 [] [a,b] L
def zF(j t1:AV)(L:SH)(Q:R)(h:A8 j t1 L Q):ac Tryz.prog 110 [j,t1] L Q:=
 fv qE Tryz.func110 h
def fy:RF:=nv (bO Tryz.prog Tryz.f68 [(48,⟨[1,3,5,7,8,10,11],[15],true,[]⟩),(15,⟨[1,3,5,7,8],[],true,[]⟩)] [(0,[3,5]),(7,[9])])
abbrev ij(Q:R)(a:Kn):Vs->SH->Kn->Prop:=Lp fy 18 Q 48 [a]
abbrev pV(a b c:AV)(L:SH)(Q:R):Prop:=Pc fy 20 Q 0 [] [a,b,c] L
def oR(j t1 t2:AV)(L:SH)(Q:R)(h:pV j t1 t2 L Q):ac Tryz.prog 68 [j,t1,t2] L Q:=
 fv fy Tryz.func68 h
def qF:RF:=nv (bO Tryz.prog Tryz.f29 [(12,⟨[1,3],[],true,[]⟩)] [(0,[1])])
abbrev A9(a:AV)(L:SH)(Q:R):Prop:=Pc qF 20 Q 0 [] [a] L
def zG(j:AV)(L:SH)(Q:R)(h:A9 j L Q):ac Tryz.prog 29 [j] L Q:=
 fv qF Tryz.func29 h
section
section
variable {w:aG} {Q:R} {c:aF} {i nb bs:Nat} {n5:W.Kn} (hl:w.cells.length<=12) (h1:1<=c.size) (h4:c.size<=4) (hf:c.size<=(w.cells.length-i:Nat))
 (hno:¬rt c (w.cells.drop i)->∀L,Q (.tup [.nils,.bool false]) L) (x:AV) (L:SH)
 (hgo:rt c (w.cells.drop i)->n5 [.pptr [w.enc] 0 0,x,.U1 ((i+c.size.toNat:Nat):Int)] L)
include hl h1 h4 hf hno hgo
theorem RG:W.loop (zA Q n5) [.pptr [w.enc] 0 0,x,.U1 (i:Int),.pptr [c.enc] 0 0,.U1 0] L:=by
 obtain⟨E,Z,sz,vo,u⟩:=c;dsimp only at *;obtain⟨m,rfl⟩:=Int.eq_ofNat_of_zero_le (show 0<=sz by omega);have he:aF.enc ⟨E,Z,m,vo,u⟩=[.str E,.U1 Z,.U1 (m:Int),.bool vo,.U1 u]:=rfl;rw[he];refine dw m (λk=>∀j,j<k->w.cells[i+j]? =some ⟨E,j,m,false,u⟩) (λk=>[.pptr [w.enc] 0 0,x,.U1 (i:Int),.pptr [[.str E,.U1 Z,.U1 (m:Int),.bool vo,.U1 u]] 0 0,.U1 (k:Int)]) UW (λj h=>absurd h (Nat.not_lt_zero _)) rfl (λk h d1 hw1 S nx M=>?_) (λk h d1 S nx=>?_)
 all_goals refine vw ?_
 .have hw2:IntKind.i64.wrap ((i:Int)+(k:Int))=((i+k:Nat):Int):=by rw[TY _ UW];omega
  have O:i+k<w.cells.length:=by omega
  have hx:=am (f:=aF.enc) O;have G:w.cells[i+k]? =some w.cells[i+k]:=Td O;generalize w.cells[i+k]=c at hx G;have D:c≠⟨E,k,m,false,u⟩->∀L,Q (.tup [.nils,.bool false]) L:=λhd=>hno λhb=>by have h2:=hb.eq k (by show(k:Int)<(m:Int);omega);rw[T7,G]at h2;exact hd (UL h2)
  have B:c=⟨E,k,m,false,u⟩->∀j,j<k+1->w.cells[i+j]? =some ⟨E,j,m,false,u⟩:=λhd j hj=>by
   rcases Tf j k with g|g
   .exact S j g
   .have e:j=k:=by omega
    subst e;rw[G,hd]
  obtain⟨cn,cx,cs,cv,ci⟩:=c;unfold aF.enc at hx;dsimp only at *;rw[aF.mk.injEq]at B;rw[Ne,aF.mk.injEq]at D;clear S
  repeat' (first|refine st ?_|refine sb λY N=>?_|refine s2 (λh=>?_) λh=>?_|fail)
  all_goals first
   |(refine D (λh2=>?_) _;clear M hgo hno B D;simp_all;done)
   |(refine M (B ?_);clear M hgo hno B D;simp_all;done)
 .have hw2:IntKind.i64.wrap ((i:Int)+(m:Int))=((i+m:Nat):Int):=by rw[TY _ UW];omega
  obtain rfl:k=m:=by omega
  repeat' (first|refine st ?_|refine sb λY N=>?_|refine s2 (λh=>?_) λh=>?_|fail)
  exact hgo ⟨h1,h4,by rw[UH];exact hf,λj hj=>by rw[T7];exact S j (by simpa using hj)⟩
end
section
variable {w:aG} {Q:R} (hc12:w.cells.length<=12) (h4:w.locks.length<=4) (h2:w.conds.length<=2) (hf2:w.futures.length<=2) (ht4:w.threads.length<=4)
include h4 h2 hf2 ht4
theorem RH{B:List bv}(hns:B.length<=12)(hq:∀L v,Fz L v (.lst ((dV w B).map au))->Q (.tup [v,.bool true]) L){vs:List AV}{L:SH}(o:Option Nat)(M:o=none->B++w.locks.map bn.name=[])(Z:az vs L [.pptr [w.enc] 0 0,aj o (B++w.locks.map bn.name).length,.U1 0] (ab o 1 ((B++w.locks.map bn.name).map au))):W.loop (zB Q) vs L:=by
 obtain⟨S,Y⟩:∃S:Nat->List bv,S=λi=>B++w.locks.map bn.name++(w.conds.take i).map bP.name:=⟨_,rfl⟩
 have O:S 0=B++w.locks.map bn.name:=by subst Y;simp
 have E:S w.conds.length++w.futures++w.threads=dV w B:=by subst Y;simp[dV]
 have D:∀i (h:i<w.conds.length),S (i+1)=S i++[w.conds[i].name]:=λi h=>by subst Y;simp only[Th h,Ti,TS,Tj,TV]
 have N:∀i,(S i).length<=18:=λi=>by subst Y;rw[Tp,Tp,Um,Um,TJ];omega
 rw[<-O]at Z M;clear O Y;refine oD (α:=Nat×Option Nat) (λa=>([.pptr [w.enc] 0 0,aj a.2 (S a.1).length,.U1 (a.1:Int)],ab a.2 1 ((S a.1).map au))) (λa=>w.conds.length-a.1) (λa=>a.1<=w.conds.length/\(a.2=none->S a.1=[])) (0,o) ⟨Nat.zero_le _,M⟩ Z ?_;rintro⟨i,o⟩ ⟨hi,M⟩ nx hnx;refine vw ?_;dsimp only at *;have hA:=N i;rcases Nat.lt_or_ge i w.conds.length with h|h
 .have d1:decide ((i:Int)<(w.conds.length:Int))=true:=aS h;have hw1:IntKind.i64.wrap ((i:Int)+1)=((i+1:Nat):Int):=aw h UW;have hx:=am (f:=bP.enc) h;have hgo:∀j L',fE L' [(j,⟨1,(S i).map au++[[.str w.conds[i].name]]⟩)]->nx [.pptr [w.enc] 0 0,.sl j 0 ((S i).length+1),.U1 ((i+1:Nat):Int)] L':=λj L' h3=>
   hnx (i+1,some j) ⟨h,nofun⟩ (by dsimp only;omega) _ _ (az.pickE h3 (by simp[aj,D i h]) (by simp[ab,au,D i h]))
  clear hnx D E N Z;generalize w.conds[i]=c at *;generalize S i=C at *;obtain⟨nm,mx⟩:=c;unfold bP.enc at hx;dsimp only at *
  repeat' (first|refine st ?_|refine bA mm rp UZ (λe=>by simp[M e]) UY UZ (by simp;omega) (by simp;omega) UY (λj u=>?_)|refine sb λj u=>?_|refine s2 (λh=>?_) λh=>?_|fail)
  exact hgo _ _ rp
 .have d1:decide ((i:Int)<(w.conds.length:Int))=false:=aX h;obtain rfl:i=w.conds.length:=by omega
  repeat' (first|refine st ?_|refine sb λj u=>?_|refine s2 (λh=>?_) λh=>?_|fail)
  refine nN rp (λ_=>rfl) UZ (λe=>by simp[M e]) UW UW (λ_=>rfl) (λo1 ho1=>?_)
  repeat' (first|refine st ?_|refine sb λj u=>?_|refine s2 (λh=>?_) λh=>?_|fail)
  refine nN rp (λ_=>rfl) UZ (λe=>ho1 e) UW UW (λ_=>rfl) (λo2 G=>?_);have e1:(S w.conds.length).map au++w.futures.map au++w.threads.map au=(dV w B).map au:=by rw[<-E];simp
  have e2:(S w.conds.length).length+w.futures.length+w.threads.length=(dV w B).length:=by rw[<-E];simp;omega
  rw[e1]at G ⊢;rw[e2,TZ];exact hq _ _ (Fz.slot rfl G U0 (λ_ _=>rfl) λ_ _ q a a2 h1 h2=>by rw[h1]at h2;cases h2;exact .refl _)
theorem RI{u:List bv}(hns:u.length<=12)(hq:∀L v,Fz L v (.lst ((dV w u).map au))->Q (.tup [v,.bool true]) L){vs:List AV}{L:SH}(o:Option Nat)(D:o=none->u=[])(M:az vs L [.pptr [w.enc] 0 0,aj o u.length,.U1 0] (ab o 1 (u.map au))):W.loop (zC Q) vs L:=by
 have E:=λvs L o D M=>RH h4 h2 hf2 ht4 hns hq (vs:=vs) (L:=L) o D M
 obtain⟨S,Z⟩:∃S:Nat->List bv,S=λi=>u++(w.locks.take i).map bn.name:=⟨_,rfl⟩
 have Y:S 0=u:=by subst Z;simp
 have O:S w.locks.length=u++w.locks.map bn.name:=by subst Z;simp
 have G:∀i (h:i<w.locks.length),S (i+1)=S i++[w.locks[i].name]:=λi h=>by subst Z;simp only[Th h,Ti,TS,Tj,TV]
 have N:∀i,(S i).length<=18:=λi=>by subst Z;rw[Tp,Um,TJ];omega
 rw[<-O]at E;rw[<-Y]at M D;clear Y Z hq;refine oD (α:=Nat×Option Nat) (λa=>([.pptr [w.enc] 0 0,aj a.2 (S a.1).length,.U1 (a.1:Int)],ab a.2 1 ((S a.1).map au))) (λa=>w.locks.length-a.1) (λa=>a.1<=w.locks.length/\(a.2=none->S a.1=[])) (0,o) ⟨Nat.zero_le _,D⟩ M ?_;rintro⟨i,o⟩ ⟨hi,D⟩ nx hnx;refine vw ?_;dsimp only at *;have hA:=N i;rcases Nat.lt_or_ge i w.locks.length with h|h
 .have d1:decide ((i:Int)<(w.locks.length:Int))=true:=aS h;have hw1:IntKind.i64.wrap ((i:Int)+1)=((i+1:Nat):Int):=aw h UW;have hx:=am (f:=bn.enc) h;have hgo:∀j L',fE L' [(j,⟨1,(S i).map au++[[.str w.locks[i].name]]⟩)]->nx [.pptr [w.enc] 0 0,.sl j 0 ((S i).length+1),.U1 ((i+1:Nat):Int)] L':=λj L' h3=>
   hnx (i+1,some j) ⟨h,nofun⟩ (by dsimp only;omega) _ _ (az.pickE h3 (by simp[aj,G i h]) (by simp[ab,au,G i h]))
  clear hnx G O N M E;generalize w.locks[i]=c at *;generalize S i=C at *;obtain⟨nm,mx⟩:=c;unfold bn.enc at hx;dsimp only at *
  repeat' (first|refine st ?_|refine bA mm rp UZ (λe=>by simp[D e]) UY UZ (by simp;omega) (by simp;omega) UY (λj B=>?_)|refine sb λj B=>?_|refine s2 (λh=>?_) λh=>?_|fail)
  exact hgo _ _ rp
 .have d1:decide ((i:Int)<(w.locks.length:Int))=false:=aX h;obtain rfl:i=w.locks.length:=by omega
  repeat' (first|refine st ?_|refine sb λj B=>?_|refine s2 (λh=>?_) λh=>?_|fail)
  exact E _ _ o D (.refl _ _)
include hc12
theorem RJ(hy:∀M L v,de w.cells M->Fz L v (.lst ((dV w M).map au))->Q (.tup [v,.bool true]) L)(hn:(∀M,¬de w.cells M)->∀L,Q (.tup [.nils,.bool false]) L):qC (.agg w.enc) [] Q:=by
  refine vw ?_
  repeat' (first|refine st ?_|refine sb λu D=>?_|refine s2 (λh=>?_) λh=>?_|fail)
  refine oD (α:=Nat×List bv×Option Nat) (λa=>([.pptr [w.enc] 0 0,aj a.2.2 a.2.1.length,.U1 (a.1:Int)],ab a.2.2 1 (a.2.1.map au))) (λa=>w.cells.length-a.1) (λa=>ft w.cells a.1 a.2.1/\(a.2.2=none->a.2.1=[])) (0,[],none) ⟨.zero _,λ_=>rfl⟩ (az.drop (K:=[]) (.refl _) rfl ((eP.cons (.refl _) (.cons .nile (.cons (.refl _) .nil))).at_.2)) ?_;rintro⟨i,B,o⟩ ⟨O,ho⟩ nx hnx;refine vw ?_;dsimp only at *;have hva:=O.2.1;have hva2:=O.1;rcases Nat.lt_or_ge i w.cells.length with h|h
  · have hx:=am (f:=aF.enc) h
    have d1:decide ((i:Int)<(w.cells.length:Int))=true:=aS h;have hw1:IntKind.i64.wrap ((i:Int)+1)=((i+1:Nat):Int):=aw h UW;have hw2:IntKind.i64.wrap ((w.cells.length:Int)-(i:Int))=((w.cells.length-i:Nat):Int):=by rw[TY _ UW];omega
    have Z:w.cells[i].size=0->w.cells[i].index≠0->∀M,¬de w.cells M:=O.no1 h;have Y:w.cells[i].size=0->w.cells[i].index=0->ft w.cells (i+1) (B++[w.cells[i].name]):=O.step h;have E:w.cells[i].size≠0->¬rt w.cells[i] (w.cells.drop i)->∀M,¬de w.cells M:=O.no2 h;have S:w.cells[i].size≠0->rt w.cells[i] (w.cells.drop i)->ft w.cells (i+w.cells[i].size.toNat) (B++[w.cells[i].name]):=O.jump h;have hgo:∀j u L',ft w.cells j (B++[w.cells[i].name])->i<j->fE L' [(u,⟨1,B.map au++[[.str w.cells[i].name]]⟩)]->nx [.pptr [w.enc] 0 0,.sl u 0 (B.length+1),.U1 (j:Int)] L':=λj u L' h1 h2 h3=>
      hnx (j,B++[w.cells[i].name],some u) ⟨h1,nofun⟩ (by have:=h1.1;dsimp only;omega) _ _ (az.pickE h3 (by simp[aj]) (by simp[ab,au]))
    clear hnx O;have G:=λh1 h4' hf hno x L hgo=>RG (Q:=Q) (n5:=nx) (c:=w.cells[i]'h) (i:=i) hc12 h1 h4' hf hno x L hgo
    generalize w.cells[i]=c at *;obtain⟨nm,ix,sz,vo,ini⟩:=c;have he:aF.enc ⟨nm,ix,sz,vo,ini⟩=[.str nm,.U1 ix,.U1 sz,.bool vo,.U1 ini]:=rfl;rw[he]at hx G;clear he;dsimp only at *
    repeat' (first|refine st ?_|refine bA mm rp UZ (λe=>by simp[ho e]) UY UZ (by simp;omega) (by simp;omega) UY (λu D=>?_)|refine sb λu D=>?_|refine s2 (λh=>?_) λh=>?_|fail)
    all_goals first
      |exact hn (Z (of_decide_eq_true UX) (of_decide_eq_true UX)) _
      |(refine hgo (i+1) _ _ (Y (of_decide_eq_true UX) ?_) (Nat.lt_succ_self _) rp;clear G hgo hn hy Z Y E S;simp only[ne_eq,decide_eq_false_iff_not,Decidable.not_not]at *;assumption)
      | (refine hn (E (of_decide_eq_false UX) fun N => ?_) _
         have hb1:=N.lo;have hb2:=N.hi;have hb3:=N.fits
         rw[List.length_drop]at hb3;clear G hgo hn hy Z Y E S N;dsimp only at hb1 hb2 hb3
         (simp only[decide_eq_true_eq,decide_eq_false_iff_not]at *;omega))
      |skip
    rename_i g1 g2 g3;simp only[decide_eq_false_iff_not]at g1 g2 g3 h;exact G UW UW UW (λN=>hn (E UW N)) _ _ (λN=>hgo _ _ _ (S UW N) UW rp)
  · have d1:decide ((i:Int)<(w.cells.length:Int))=false:=aX h
    have hv:=O.done h
    repeat' (first|refine st ?_|refine sb λu D=>?_|refine s2 (λh=>?_) λh=>?_|fail)
    exact RI h4 h2 hf2 ht4 UW (λL v hf=>hy B L v hv hf) o ho (.refl _ _)
end
theorem IQ{w:aG}(hc12:w.cells.length<=12)(h4:w.locks.length<=4)(h2:w.conds.length<=2)(hf2:w.futures.length<=2)(ht4:w.threads.length<=4){j:List bv}(h:de w.cells j):aq Tryz.prog 106 [.agg w.enc] (.tup [.lst ((dV w j).map au),.bool true]):=
 ac.fz (oQ _ _ _ (RJ hc12 h4 h2 hf2 ht4 (λu L v h1 h2=>⟨_,[],az.all (.tups (.cons h2 (.cons (.refl _) .nil))),by rw[h.uniq h1],rfl⟩) λh2=>absurd h (h2 j)))
theorem Lb{w:aG}(hc12:w.cells.length<=12)(h4:w.locks.length<=4)(h2:w.conds.length<=2)(hf2:w.futures.length<=2)(ht4:w.threads.length<=4)(h:∀u,¬de w.cells u):aq Tryz.prog 106 [.agg w.enc] (.tup [.nils,.bool false]):=
 ac.fz (oQ _ _ _ (RJ hc12 h4 h2 hf2 ht4 (λj L v h1 h2=>absurd h1 (h j)) λ_ L=>⟨_,[],az.all (.refl _),rfl,rfl⟩))
end
def RK(l:List bv)(s:bv):Int:=jC (λx=>decide (x=s)) l 0
def RL(l:List bv)(s:bv)(M:l.length<2^62):aq Tryz.prog 108 [.lst (l.map au),.str s] (.U1 (RK l s)):=by
 refine jT _ _ _ _ ?_;refine vw ?_;refine dt l (λx=>decide (x=s)) (λi=>[.lst (l.map au),.str s,.U1 i]) M rfl (λi D N S j E G=>?_) (λi D N j E=>?_)
 all_goals refine vw ?_
 .have O:=am (f:=au) D
  repeat' (first|refine st ?_|refine sb λB u=>?_|refine s2 (λh=>?_) λh=>?_|fail)
  .exact⟨by rw[RK,kZ D j h],rfl⟩
  .exact G h
 .repeat' (first|refine st ?_|refine sb λB u=>?_|refine s2 (λh=>?_) λh=>?_|fail)
  exact⟨by rw[RK,fg j],rfl⟩
def zH(s:bv):aq Tryz.prog 107 [.str s] (.bool (dZ s)):=by
 rcases Tf 12 s.length with h|h
 .have B:(s.length:Int)<1->False:=by omega
  refine iy _ _ _ ?_;refine vw ?_;have E:decide ((s.length:Int)<1)=false:=decide_eq_false UW;have D:decide ((s.length:Int) > 12)=true:=decide_eq_true UW;have e:dZ s=false:=by unfold dZ;rw[show decide ((s.length:Int)<=12)=false from decide_eq_false UW];simp
  rw[e]
  repeat' (first|refine st ?_|refine sb λu j=>?_|refine s2 (λh=>?_) λh=>?_|fail)
  all_goals exact⟨rfl,rfl⟩
 .exact Iv s UW
section
theorem vZ{α:Type}{f:α->List AV}{l:List α}{n i:Nat}{k:IntKind}{L:SH}{K:AV->Prop}(h:K (.lst ((l.take i).map f)))(B:i<=l.length:=by omega)(u:∀x,(f x).length=n:=by intro x;rfl):W.slice n (.lst (l.map f)) none (some (.int k (i:Int))) none L K:=by
 refine o9 (l:=0) (h:=i) rfl rfl (TG _) (by simpa using B) (λr j=>?_) ?_
 .obtain⟨x,_,rfl⟩:=TR.1 (List.mem_of_mem_head? j);exact u x
 .rw[List.drop_zero,Nat.sub_zero,<-List.map_take];exact h
theorem MS{l:List bv}{s:bv}:decide (RK l s≥0)=gA (s∈l):=by
  unfold RK;by_cases h:s∈l
  · rw[eG h]
    refine decide_eq_true ?_;have:∀(l:List bv) (k:Nat),s∈l→0≤jC (λx=>decide (x=s)) l k:=by
      intro l
      induction l with
      |nil=>intro k h;simp at h
      |cons x l ih=>
        intro k h;rw[jC];by_cases hx:x=s
        · rw[if_pos (decide_eq_true hx)];omega
        · rw[if_neg (by simpa using hx)]
          exact ih _ (by rcases To.1 h with h | h; · exact absurd h.symm hx
                         · exact h)
    exact this l 0 h
  · rw[dy h,fg (λx hx=>decide_eq_false λ(e:x=s)=>h (e▸hx))]
    rfl
def iI(l:List bQ):Nat->Int×Int
 |0=>(0,0)
 | i+1=>match l[i]? with
  |some s=>(s.thread,s.stmt+1)
  |none=>(0,0)
section
variable (w:aG) {Q:R} (h60:w.sites.length<=60) (h4:w.locks.length<=4) (h2:w.conds.length<=2) (ht4:w.threads.length<=4)
include h60 ht4
theorem RM(hq:∀b,gA (uO w.threads.length 0 0 w.sites)=b->Q (.bool b) []):W.loop (pT Q) [.pptr [w.enc] 0 0,.U1 0] []:=by
 refine dw w.sites.length (λi=>0<=(iI w.sites i).1/\0<=(iI w.sites i).2/\(iI w.sites i).2<=i/\(uO w.threads.length 0 0 w.sites↔uO w.threads.length (iI w.sites i).1 (iI w.sites i).2 (w.sites.drop i))) (λi=>[.pptr [w.enc] 0 0,.U1 (i:Int)]) UW ⟨Int.le_refl _,Int.le_refl _,Int.le_refl _,Iff.rfl⟩ rfl (λi h d1 hw1 E nx D=>?_) (λi h d1 E nx=>?_)
 all_goals refine vw ?_
 .obtain⟨g1,g2,g3,E⟩:=E;have hx:=am (f:=bQ.enc) h;have ha:iI w.sites (i+1)=(w.sites[i].thread,w.sites[i].stmt+1):=by simp only[iI,Td h]
  rw[List.drop_eq_getElem_cons h,KQ]at E;rw[ha]at D;dsimp only at D;generalize w.sites[i]=s at *;obtain⟨N,sm,ln⟩:=s;unfold bQ.enc at hx;dsimp only at *;have u:¬((iI w.sites i).1<=N/\N<w.threads.length/\sm=if(iI w.sites i).1<N then 0 else(iI w.sites i).2)->Q (.bool false) []:=λM=>hq _ (dy λh2=>M (by have:=E.1 h2;exact⟨this.1,this.2.1,this.2.2.1⟩))
  have B:((iI w.sites i).1<=N/\N<w.threads.length/\sm=if(iI w.sites i).1<N then 0 else(iI w.sites i).2)->nx [.pptr [w.enc] 0 0,.U1 ((i+1:Nat):Int)] []:=λM=>
   D ⟨UW,by have:=M.2.2;split at this<;>omega,by have:=M.2.2;split at this<;>omega,by
    rw[E];exact⟨λh=>h.2.2.2,λh=>⟨M.1,M.2.1,M.2.2,h⟩⟩⟩
  clear D E hq;cases i with
  |zero=>
   generalize hA:iI w.sites 0=A at u B g1 g2 g3;obtain rfl:A=(0,0):=hA.symm;dsimp only at u B g1 g2 g3
   repeat' (first|refine st ?_|refine sb λS G=>?_|refine s2 (λh=>?_) λh=>?_|fail)
   all_goals first
    |(refine u λh2=>?_;have h3:=h2.1;have h4:=h2.2.1;have h5:=h2.2.2;clear h2 u B;split at h5<;>simp only[decide_eq_true_eq,decide_eq_false_iff_not,ge_iff_le,ne_eq,Decidable.not_not]at * <;>omega)
    |(refine B ?_;clear u B;simp only[decide_eq_true_eq,decide_eq_false_iff_not,ge_iff_le,ne_eq,Decidable.not_not]at *;refine⟨UW,UW,?_⟩;first|(split<;>omega)|(rw[ite_self];omega))
  |succ j=>
   have Z:=am (f:=bQ.enc) (show j<w.sites.length by omega);have Y:w.sites[j]? =some (w.sites[j]'UW):=Td UW;generalize w.sites[j]'UW=s2 at Z Y;have ha:iI w.sites (j+1)=(s2.thread,s2.stmt+1):=by simp only[iI,Y]
   rw[ha]at u B g1 g2 g3;obtain⟨th2,O,ln2⟩:=s2;unfold bQ.enc at Z;dsimp only at *;have hw2:IntKind.i64.wrap (((j+1:Nat):Int)-1)=(j:Int):=by rw[IntWalk.i64_in _ UW];omega
   have hw3:IntKind.i64.wrap (O+1)=O+1:=TY _ UW;have hz:decide (((j+1:Nat):Int)=0)=false:=decide_eq_false UW;have hp:decide (((j+1:Nat):Int) > 0)=true:=decide_eq_true UW
   repeat' (first|refine st ?_|refine sb λS G=>?_|refine s2 (λh=>?_) λh=>?_|fail)
   all_goals first
    |(refine u λh2=>?_;have h3:=h2.1;have h4:=h2.2.1;have h5:=h2.2.2;clear h2 u B;split at h5<;>simp only[decide_eq_true_eq,decide_eq_false_iff_not,ge_iff_le,ne_eq,Decidable.not_not]at * <;>omega)
    |(refine B ?_;clear u B;simp only[decide_eq_true_eq,decide_eq_false_iff_not,ge_iff_le,ne_eq,Decidable.not_not]at *;refine⟨UW,UW,?_⟩;first|(split<;>omega)|(rw[ite_self];omega))
 .subst h;rw[List.drop_length]at E
  repeat' (first|refine st ?_|refine sb λS G=>?_|refine s2 (λh=>?_) λh=>?_|fail)
  exact hq _ (eG (E.2.2.2.2 trivial))
end
end
end Go.Proofs.YtbofdbhnbodbiaaGreatDoor.Am
