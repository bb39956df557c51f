/- A part of the proof; the statement is proved in the last part. -/
import Derived.Test.YtbofdbhnbodbiaaGreatDoorQvu
set_option linter.all false
set_option maxRecDepth 100000
set_option maxHeartbeats 20000000
namespace Go.Proofs.YtbofdbhnbodbiaaGreatDoor.Am
def fD:RF:=nv (bO Tryz.prog Tryz.f106 [(39,⟨[1,4,5,6,7],[9],true,[]⟩),(72,⟨[1,4,10],[],true,[]⟩),(60,⟨[1,4,9],[],true,[]⟩),(9,⟨[1,4,5],[],true,[]⟩)] [(0,[1]),(4,[6]),(15,[8])])
abbrev zf(Q:R)(a:Kn):Vs->SH->Kn->Prop:=Lp fD 18 Q 39 [a]
abbrev zg(Q:R):Vs->SH->Kn->Prop:=Lp fD 17 Q 72 []
abbrev zh(Q:R):Vs->SH->Kn->Prop:=Lp fD 18 Q 60 []
abbrev qt(a:AV)(L:SH)(Q:R):Prop:=Pc fD 20 Q 0 [] [a] L
def oF(j:AV)(L:SH)(Q:R)(h:qt j L Q):ac Tryz.prog 106 [j] L Q:=
 fv fD Tryz.func106 h
def fK:RF:=nv (bO Tryz.prog Tryz.f67 [(54,⟨[1,8],[],true,[]⟩),(36,⟨[1,6],[],true,[]⟩),(21,⟨[1,3,5],[],true,[]⟩)] [(0,[1]),(20,[9])])
abbrev pG(Q:R):Vs->SH->Kn->Prop:=Lp fK 17 Q 54 []
abbrev rn(a:AV)(L:SH)(Q:R):Prop:=Pc fK 20 Q 0 [] [a] L
def pH(j:AV)(L:SH)(Q:R)(h:rn j L Q):ac Tryz.prog 67 [j] L Q:=
 fv fK Tryz.func67 h
def zj:RF:=nv (bO Tryz.prog Tryz.f111 [] [])
abbrev F5(a b:AV)(L:SH)(Q:R):Prop:=Pc zj 20 Q 0 [] [a,b] L
def EE(j t1:AV)(L:SH)(Q:R)(h:F5 j t1 L Q):ac Tryz.prog 111 [j,t1] L Q:=
 fv zj Tryz.func111 h
def qu:RF:=nv (bO Tryz.prog Tryz.f156 [] [(0,[3])])
abbrev AI(a b c:AV)(L:SH)(Q:R):Prop:=Pc qu 20 Q 0 [] [a,b,c] L
def zk(j t1 t2:AV)(L:SH)(Q:R)(h:AI j t1 t2 L Q):ac Tryz.prog 156 [j,t1,t2] L Q:=
 fv qu Tryz.func156 h
def mE:RF:=nv (bO Tryz.prog Tryz.f109 [(75070,⟨[2,3,6,108],[],true,[]⟩),(66061,⟨[2,3,6,98],[],true,[]⟩),(54049,⟨[2,3,6,78],[],true,[]⟩),(39034,⟨[2,3,6,59],[],true,[]⟩)] [(0,[2,3])])
abbrev wO(a b:AV)(L:SH)(Q:R):Prop:=Pc mE 20 Q 0 [] [a,b] L
def uJ(j t1:AV)(L:SH)(Q:R)(h:wO j t1 L Q):ac Tryz.prog 109 [j,t1] L Q:=
 fv mE Tryz.func109 h
def qv:RF:=nv (bO Tryz.prog Tryz.f110 [(6,⟨[0,1,5],[],true,[]⟩)] [])
abbrev AJ(a b:AV)(L:SH)(Q:R):Prop:=Pc qv 20 Q 0 [] [a,b] L
def zl(j t1:AV)(L:SH)(Q:R)(h:AJ j t1 L Q):ac Tryz.prog 110 [j,t1] L Q:=
 fv qv Tryz.func110 h
def fm:RF:=nv (bO Tryz.prog Tryz.f68 [(48,⟨[1,3,5,7,8,10,11],[15],true,[]⟩),(15,⟨[1,3,5,7,8],[],true,[]⟩)] [(0,[3,5]),(7,[9])])
abbrev hM(Q:R)(a:Kn):Vs->SH->Kn->Prop:=Lp fm 18 Q 48 [a]
abbrev pI(a b c:AV)(L:SH)(Q:R):Prop:=Pc fm 20 Q 0 [] [a,b,c] L
def oG(j t1 t2:AV)(L:SH)(Q:R)(h:pI j t1 t2 L Q):ac Tryz.prog 68 [j,t1,t2] L Q:=
 fv fm Tryz.func68 h
def qw:RF:=nv (bO Tryz.prog Tryz.f29 [(12,⟨[1,3],[],true,[]⟩)] [(0,[1])])
abbrev AK(a:AV)(L:SH)(Q:R):Prop:=Pc qw 20 Q 0 [] [a] L
def zm(j:AV)(L:SH)(Q:R)(h:AK j L Q):ac Tryz.prog 29 [j] L Q:=
 fv qw Tryz.func29 h
section
section
variable {w:aI} {Q:R} {c:aH} {i nb bs:Nat} {n5:W.Kn} (hl:w.cells.length<=12) (h1:1<=c.size) (h4:c.size<=4) (hf:c.size<=(w.cells.length-i:Nat))
 (hno:¬qY c (w.cells.drop i)->∀L,Q (.tup [.nils,.bool false]) L) (x:AV) (L:SH)
 (hgo:qY c (w.cells.drop i)->n5 [.pptr [w.enc] 0 0,x,.Uf ((i+c.size.toNat:Nat):Int)] L)
include hl h1 h4 hf hno hgo
theorem QX:W.loop (zf Q n5) [.pptr [w.enc] 0 0,x,.Uf (i:Int),.pptr [c.enc] 0 0,.Uf 0] L:=by
 obtain⟨E,Z,sz,vo,u⟩:=c;dsimp only at *;obtain⟨m,rfl⟩:=Int.eq_ofNat_of_zero_le (show 0<=sz by omega);have he:aH.enc ⟨E,Z,m,vo,u⟩=[.str E,.Uf Z,.Uf (m:Int),.bool vo,.Uf u]:=rfl;rw[he];refine eB m (λk=>∀j,j<k->w.cells[i+j]? =some ⟨E,j,m,false,u⟩) (λk=>[.pptr [w.enc] 0 0,x,.Uf (i:Int),.pptr [[.str E,.Uf Z,.Uf (m:Int),.bool vo,.Uf u]] 0 0,.Uf (k:Int)]) Ua (λj h=>absurd h (Nat.not_lt_zero _)) rfl (λk h d1 hw1 S nx M=>?_) (λk h d1 S nx=>?_)
 all_goals refine vw ?_
 .have hw2:IntKind.i64.wrap ((i:Int)+(k:Int))=((i+k:Nat):Int):=by rw[Te _ Ua];omega
  have O:i+k<w.cells.length:=by omega
  have hx:=ao (f:=aH.enc) O;have G:w.cells[i+k]? =some w.cells[i+k]:=mt O;generalize w.cells[i+k]=c at hx G;have D:c≠⟨E,k,m,false,u⟩->∀L,Q (.tup [.nils,.bool false]) L:=λhd=>hno λhb=>by have h2:=hb.eq k (by show(k:Int)<(m:Int);omega);rw[Ti,G]at h2;exact hd (TZ h2)
  have B:c=⟨E,k,m,false,u⟩->∀j,j<k+1->w.cells[i+j]? =some ⟨E,j,m,false,u⟩:=λhd j hj=>by
   rcases Fn j k with g|g
   .exact S j g
   .have e:j=k:=by omega
    subst e;rw[G,hd]
  obtain⟨cn,cx,cs,cv,ci⟩:=c;unfold aH.enc at hx;dsimp only at *;rw[aH.mk.injEq]at B;rw[Ne,aH.mk.injEq]at D;clear S
  repeat' (first|refine st ?_|refine sb λY N=>?_|refine s2 (λh=>?_) λh=>?_|fail)
  all_goals first
   |(refine D (λh2=>?_) _;clear M hgo hno B D;simp_all;done)
   |(refine M (B ?_);clear M hgo hno B D;simp_all;done)
 .have hw2:IntKind.i64.wrap ((i:Int)+(m:Int))=((i+m:Nat):Int):=by rw[Te _ Ua];omega
  obtain rfl:k=m:=by omega
  repeat' (first|refine st ?_|refine sb λY N=>?_|refine s2 (λh=>?_) λh=>?_|fail)
  exact hgo ⟨h1,h4,by rw[TV];exact hf,λj hj=>by rw[Ti];exact S j (by simpa using hj)⟩
end
section
variable {w:aI} {Q:R} (hc12:w.cells.length<=12) (h4:w.locks.length<=4) (h2:w.conds.length<=2) (hf2:w.futures.length<=2) (ht4:w.threads.length<=4)
include h4 h2 hf2 ht4
theorem QY{B:List bu}(hns:B.length<=12)(hq:∀L v,Fz L v (.lst ((dS w B).map au))->Q (.tup [v,.bool true]) L){vs:List AV}{L:SH}(o:Option Nat)(M:o=none->B++w.locks.map bC.name=[])(Z:az vs L [.pptr [w.enc] 0 0,aj o (B++w.locks.map bC.name).length,.Uf 0] (ab o 1 ((B++w.locks.map bC.name).map au))):W.loop (zg Q) vs L:=by
 obtain⟨S,Y⟩:∃S:Nat->List bu,S=λi=>B++w.locks.map bC.name++(w.conds.take i).map bR.name:=⟨_,rfl⟩
 have O:S 0=B++w.locks.map bC.name:=by subst Y;simp
 have E:S w.conds.length++w.futures++w.threads=dS w B:=by subst Y;simp[dS]
 have D:∀i (h:i<w.conds.length),S (i+1)=S i++[w.conds[i].name]:=λi h=>by subst Y;simp only[Sw h,LT,S3,Sx,S6]
 have N:∀i,(S i).length<=18:=λi=>by subst Y;rw[SD,SD,Ty,Ty,ST];omega
 rw[<-O]at Z M;clear O Y;refine oa (α:=Nat×Option Nat) (λa=>([.pptr [w.enc] 0 0,aj a.2 (S a.1).length,.Uf (a.1:Int)],ab a.2 1 ((S a.1).map au))) (λa=>w.conds.length-a.1) (λa=>a.1<=w.conds.length/\(a.2=none->S a.1=[])) (0,o) ⟨Nat.zero_le _,M⟩ Z ?_;rintro⟨i,o⟩ ⟨hi,M⟩ nx hnx;refine vw ?_;dsimp only at *;have hA:=N i;rcases Nat.lt_or_ge i w.conds.length with h|h
 .have d1:decide ((i:Int)<(w.conds.length:Int))=true:=aW h;have hw1:IntKind.i64.wrap ((i:Int)+1)=((i+1:Nat):Int):=ax h Ua;have hx:=ao (f:=bR.enc) h;have hgo:∀j L',fV L' [(j,⟨1,(S i).map au++[[.str w.conds[i].name]]⟩)]->nx [.pptr [w.enc] 0 0,.sl j 0 ((S i).length+1),.Uf ((i+1:Nat):Int)] L':=λj L' h3=>
   hnx (i+1,some j) ⟨h,nofun⟩ (by dsimp only;omega) _ _ (az.pickE h3 (by simp[aj,D i h]) (by simp[ab,au,D i h]))
  clear hnx D E N Z;generalize w.conds[i]=c at *;generalize S i=C at *;obtain⟨nm,mx⟩:=c;unfold bR.enc at hx;dsimp only at *
  repeat' (first|refine st ?_|refine bF mm rp Ud (λe=>by simp[M e]) Uc Ud (by simp;omega) (by simp;omega) Uc (λj u=>?_)|refine sb λj u=>?_|refine s2 (λh=>?_) λh=>?_|fail)
  exact hgo _ _ rp
 .have d1:decide ((i:Int)<(w.conds.length:Int))=false:=aX h;obtain rfl:i=w.conds.length:=by omega
  repeat' (first|refine st ?_|refine sb λj u=>?_|refine s2 (λh=>?_) λh=>?_|fail)
  refine nC rp (λ_=>rfl) Ud (λe=>by simp[M e]) Ua Ua (λ_=>rfl) (λo1 ho1=>?_)
  repeat' (first|refine st ?_|refine sb λj u=>?_|refine s2 (λh=>?_) λh=>?_|fail)
  refine nC rp (λ_=>rfl) Ud (λe=>ho1 e) Ua Ua (λ_=>rfl) (λo2 G=>?_);have e1:(S w.conds.length).map au++w.futures.map au++w.threads.map au=(dS w B).map au:=by rw[<-E];simp
  have e2:(S w.conds.length).length+w.futures.length+w.threads.length=(dS w B).length:=by rw[<-E];simp;omega
  rw[e1]at G ⊢;rw[e2,Ta];exact hq _ _ (Fz.slot rfl G Ue (λ_ _=>rfl) λ_ _ q a a2 h1 h2=>by rw[h1]at h2;cases h2;exact .refl _)
theorem QZ{u:List bu}(hns:u.length<=12)(hq:∀L v,Fz L v (.lst ((dS w u).map au))->Q (.tup [v,.bool true]) L){vs:List AV}{L:SH}(o:Option Nat)(D:o=none->u=[])(M:az vs L [.pptr [w.enc] 0 0,aj o u.length,.Uf 0] (ab o 1 (u.map au))):W.loop (zh Q) vs L:=by
 have E:=λvs L o D M=>QY h4 h2 hf2 ht4 hns hq (vs:=vs) (L:=L) o D M
 obtain⟨S,Z⟩:∃S:Nat->List bu,S=λi=>u++(w.locks.take i).map bC.name:=⟨_,rfl⟩
 have Y:S 0=u:=by subst Z;simp
 have O:S w.locks.length=u++w.locks.map bC.name:=by subst Z;simp
 have G:∀i (h:i<w.locks.length),S (i+1)=S i++[w.locks[i].name]:=λi h=>by subst Z;simp only[Sw h,LT,S3,Sx,S6]
 have N:∀i,(S i).length<=18:=λi=>by subst Z;rw[SD,Ty,ST];omega
 rw[<-O]at E;rw[<-Y]at M D;clear Y Z hq;refine oa (α:=Nat×Option Nat) (λa=>([.pptr [w.enc] 0 0,aj a.2 (S a.1).length,.Uf (a.1:Int)],ab a.2 1 ((S a.1).map au))) (λa=>w.locks.length-a.1) (λa=>a.1<=w.locks.length/\(a.2=none->S a.1=[])) (0,o) ⟨Nat.zero_le _,D⟩ M ?_;rintro⟨i,o⟩ ⟨hi,D⟩ nx hnx;refine vw ?_;dsimp only at *;have hA:=N i;rcases Nat.lt_or_ge i w.locks.length with h|h
 .have d1:decide ((i:Int)<(w.locks.length:Int))=true:=aW h;have hw1:IntKind.i64.wrap ((i:Int)+1)=((i+1:Nat):Int):=ax h Ua;have hx:=ao (f:=bC.enc) h;have hgo:∀j L',fV L' [(j,⟨1,(S i).map au++[[.str w.locks[i].name]]⟩)]->nx [.pptr [w.enc] 0 0,.sl j 0 ((S i).length+1),.Uf ((i+1:Nat):Int)] L':=λj L' h3=>
   hnx (i+1,some j) ⟨h,nofun⟩ (by dsimp only;omega) _ _ (az.pickE h3 (by simp[aj,G i h]) (by simp[ab,au,G i h]))
  clear hnx G O N M E;generalize w.locks[i]=c at *;generalize S i=C at *;obtain⟨nm,mx⟩:=c;unfold bC.enc at hx;dsimp only at *
  repeat' (first|refine st ?_|refine bF mm rp Ud (λe=>by simp[D e]) Uc Ud (by simp;omega) (by simp;omega) Uc (λj B=>?_)|refine sb λj B=>?_|refine s2 (λh=>?_) λh=>?_|fail)
  exact hgo _ _ rp
 .have d1:decide ((i:Int)<(w.locks.length:Int))=false:=aX h;obtain rfl:i=w.locks.length:=by omega
  repeat' (first|refine st ?_|refine sb λj B=>?_|refine s2 (λh=>?_) λh=>?_|fail)
  exact E _ _ o D (.refl _ _)
include hc12
theorem Q0(hy:∀M L v,c9 w.cells M->Fz L v (.lst ((dS w M).map au))->Q (.tup [v,.bool true]) L)(hn:(∀M,¬c9 w.cells M)->∀L,Q (.tup [.nils,.bool false]) L):qt (.agg w.enc) [] Q:=by
  refine vw ?_
  repeat' (first|refine st ?_|refine sb λu D=>?_|refine s2 (λh=>?_) λh=>?_|fail)
  refine oa (α:=Nat×List bu×Option Nat) (λa=>([.pptr [w.enc] 0 0,aj a.2.2 a.2.1.length,.Uf (a.1:Int)],ab a.2.2 1 (a.2.1.map au))) (λa=>w.cells.length-a.1) (λa=>fi w.cells a.1 a.2.1/\(a.2.2=none->a.2.1=[])) (0,[],none) ⟨.zero _,λ_=>rfl⟩ (az.drop (K:=[]) (.refl _) rfl ((fU.cons (.refl _) (.cons .nile (.cons (.refl _) .nil))).at_.2)) ?_;rintro⟨i,B,o⟩ ⟨O,ho⟩ nx hnx;refine vw ?_;dsimp only at *;have hva:=O.2.1;have hva2:=O.1;rcases Nat.lt_or_ge i w.cells.length with h|h
  · have hx:=ao (f:=aH.enc) h
    have d1:decide ((i:Int)<(w.cells.length:Int))=true:=aW h;have hw1:IntKind.i64.wrap ((i:Int)+1)=((i+1:Nat):Int):=ax h Ua;have hw2:IntKind.i64.wrap ((w.cells.length:Int)-(i:Int))=((w.cells.length-i:Nat):Int):=by rw[Te _ Ua];omega
    have Z:w.cells[i].size=0->w.cells[i].index≠0->∀M,¬c9 w.cells M:=O.no1 h;have Y:w.cells[i].size=0->w.cells[i].index=0->fi w.cells (i+1) (B++[w.cells[i].name]):=O.step h;have E:w.cells[i].size≠0->¬qY w.cells[i] (w.cells.drop i)->∀M,¬c9 w.cells M:=O.no2 h;have S:w.cells[i].size≠0->qY w.cells[i] (w.cells.drop i)->fi w.cells (i+w.cells[i].size.toNat) (B++[w.cells[i].name]):=O.jump h;have hgo:∀j u L',fi w.cells j (B++[w.cells[i].name])->i<j->fV L' [(u,⟨1,B.map au++[[.str w.cells[i].name]]⟩)]->nx [.pptr [w.enc] 0 0,.sl u 0 (B.length+1),.Uf (j:Int)] L':=λj u L' h1 h2 h3=>
      hnx (j,B++[w.cells[i].name],some u) ⟨h1,nofun⟩ (by have:=h1.1;dsimp only;omega) _ _ (az.pickE h3 (by simp[aj]) (by simp[ab,au]))
    clear hnx O;have G:=λh1 h4' hf hno x L hgo=>QX (Q:=Q) (n5:=nx) (c:=w.cells[i]'h) (i:=i) hc12 h1 h4' hf hno x L hgo
    generalize w.cells[i]=c at *;obtain⟨nm,ix,sz,vo,ini⟩:=c;have he:aH.enc ⟨nm,ix,sz,vo,ini⟩=[.str nm,.Uf ix,.Uf sz,.bool vo,.Uf ini]:=rfl;rw[he]at hx G;clear he;dsimp only at *
    repeat' (first|refine st ?_|refine bF mm rp Ud (λe=>by simp[ho e]) Uc Ud (by simp;omega) (by simp;omega) Uc (λu D=>?_)|refine sb λu D=>?_|refine s2 (λh=>?_) λh=>?_|fail)
    all_goals first
      |exact hn (Z (of_decide_eq_true Ub) (of_decide_eq_true Ub)) _
      |(refine hgo (i+1) _ _ (Y (of_decide_eq_true Ub) ?_) (Nat.lt_succ_self _) rp;clear G hgo hn hy Z Y E S;simp only[ne_eq,decide_eq_false_iff_not,Decidable.not_not]at *;assumption)
      | (refine hn (E (of_decide_eq_false Ub) fun N => ?_) _
         have hb1:=N.lo;have hb2:=N.hi;have hb3:=N.fits
         rw[List.length_drop]at hb3;clear G hgo hn hy Z Y E S N;dsimp only at hb1 hb2 hb3
         (simp only[decide_eq_true_eq,decide_eq_false_iff_not]at *;omega))
      |skip
    rename_i g1 g2 g3;simp only[decide_eq_false_iff_not]at g1 g2 g3 h;exact G Ua Ua Ua (λN=>hn (E Ua N)) _ _ (λN=>hgo _ _ _ (S Ua N) Ua rp)
  · have d1:decide ((i:Int)<(w.cells.length:Int))=false:=aX h
    have hv:=O.done h
    repeat' (first|refine st ?_|refine sb λu D=>?_|refine s2 (λh=>?_) λh=>?_|fail)
    exact QZ h4 h2 hf2 ht4 Ua (λL v hf=>hy B L v hv hf) o ho (.refl _ _)
end
theorem Ii{w:aI}(hc12:w.cells.length<=12)(h4:w.locks.length<=4)(h2:w.conds.length<=2)(hf2:w.futures.length<=2)(ht4:w.threads.length<=4){j:List bu}(h:c9 w.cells j):aq Tryz.prog 106 [.agg w.enc] (.tup [.lst ((dS w j).map au),.bool true]):=
 ac.fz (oF _ _ _ (Q0 hc12 h4 h2 hf2 ht4 (λu L v h1 h2=>⟨_,[],az.all (.tups (.cons h2 (.cons (.refl _) .nil))),by rw[h.uniq h1],rfl⟩) λh2=>absurd h (h2 j)))
theorem Kw{w:aI}(hc12:w.cells.length<=12)(h4:w.locks.length<=4)(h2:w.conds.length<=2)(hf2:w.futures.length<=2)(ht4:w.threads.length<=4)(h:∀u,¬c9 w.cells u):aq Tryz.prog 106 [.agg w.enc] (.tup [.nils,.bool false]):=
 ac.fz (oF _ _ _ (Q0 hc12 h4 h2 hf2 ht4 (λj L v h1 h2=>absurd h1 (h j)) λ_ L=>⟨_,[],az.all (.refl _),rfl,rfl⟩))
end
def Q3(l:List bu)(s:bu):Int:=jv (λx=>decide (x=s)) l 0
def Q4(l:List bu)(s:bu)(M:l.length<2^62):aq Tryz.prog 108 [.lst (l.map au),.str s] (.Uf (Q3 l s)):=by
 refine jM _ _ _ _ ?_;refine vw ?_;refine dy l (λx=>decide (x=s)) (λi=>[.lst (l.map au),.str s,.Uf i]) M rfl (λi D N S j E G=>?_) (λi D N j E=>?_)
 all_goals refine vw ?_
 .have O:=ao (f:=au) D
  repeat' (first|refine st ?_|refine sb λB u=>?_|refine s2 (λh=>?_) λh=>?_|fail)
  .exact⟨by rw[Q3,kQ D j h],rfl⟩
  .exact G h
 .repeat' (first|refine st ?_|refine sb λB u=>?_|refine s2 (λh=>?_) λh=>?_|fail)
  exact⟨by rw[Q3,eY j],rfl⟩
def zn(s:bu):aq Tryz.prog 107 [.str s] (.bool (dW s)):=by
 rcases Fn 12 s.length with h|h
 .have B:(s.length:Int)<1->False:=by omega
  refine ik _ _ _ ?_;refine vw ?_;have E:decide ((s.length:Int)<1)=false:=decide_eq_false Ua;have D:decide ((s.length:Int) > 12)=true:=decide_eq_true Ua;have e:dW s=false:=by unfold dW;rw[show decide ((s.length:Int)<=12)=false from decide_eq_false Ua];simp
  rw[e]
  repeat' (first|refine st ?_|refine sb λu j=>?_|refine s2 (λh=>?_) λh=>?_|fail)
  all_goals exact⟨rfl,rfl⟩
 .exact H4 s Ua
section
theorem vD{α:Type}{f:α->List AV}{l:List α}{n i:Nat}{k:IntKind}{L:SH}{K:AV->Prop}(h:K (.lst ((l.take i).map f)))(B:i<=l.length:=by omega)(u:∀x,(f x).length=n:=by intro x;rfl):W.slice n (.lst (l.map f)) none (some (.int k (i:Int))) none L K:=by
 refine oS (l:=0) (h:=i) rfl rfl (SL _) (by simpa using B) (λr j=>?_) ?_
 .obtain⟨x,_,rfl⟩:=Tl.1 (List.mem_of_mem_head? j);exact u x
 .rw[List.drop_zero,Nat.sub_zero,<-List.map_take];exact h
theorem Mj{l:List bu}{s:bu}:decide (Q3 l s≥0)=gx (s∈l):=by
  unfold Q3;by_cases h:s∈l
  · rw[eC h]
    refine decide_eq_true ?_;have:∀(l:List bu) (k:Nat),s∈l→0≤jv (λx=>decide (x=s)) l k:=by
      intro l
      induction l with
      |nil=>intro k h;simp at h
      |cons x l ih=>
        intro k h;rw[jv];by_cases hx:x=s
        · rw[if_pos (decide_eq_true hx)];omega
        · rw[if_neg (by simpa using hx)]
          exact ih _ (by rcases SB.1 h with h | h; · exact absurd h.symm hx
                         · exact h)
    exact this l 0 h
  · rw[dq h,eY (λx hx=>decide_eq_false λ(e:x=s)=>h (e▸hx))]
    rfl
def iA(l:List bU):Nat->Int×Int
 |0=>(0,0)
 | i+1=>match l[i]? with
  |some s=>(s.thread,s.stmt+1)
  |none=>(0,0)
section
variable (w:aI) {Q:R} (h60:w.sites.length<=60) (h4:w.locks.length<=4) (h2:w.conds.length<=2) (ht4:w.threads.length<=4)
include h60 ht4
theorem Q5(hq:∀b,gx (uy w.threads.length 0 0 w.sites)=b->Q (.bool b) []):W.loop (pG Q) [.pptr [w.enc] 0 0,.Uf 0] []:=by
 refine eB w.sites.length (λi=>0<=(iA w.sites i).1/\0<=(iA w.sites i).2/\(iA w.sites i).2<=i/\(uy w.threads.length 0 0 w.sites↔uy w.threads.length (iA w.sites i).1 (iA w.sites i).2 (w.sites.drop i))) (λi=>[.pptr [w.enc] 0 0,.Uf (i:Int)]) Ua ⟨Int.le_refl _,Int.le_refl _,Int.le_refl _,Iff.rfl⟩ rfl (λi h d1 hw1 E nx D=>?_) (λi h d1 E nx=>?_)
 all_goals refine vw ?_
 .obtain⟨g1,g2,g3,E⟩:=E;have hx:=ao (f:=bU.enc) h;have ha:iA w.sites (i+1)=(w.sites[i].thread,w.sites[i].stmt+1):=by simp only[iA,mt h]
  rw[List.drop_eq_getElem_cons h,Kf]at E;rw[ha]at D;dsimp only at D;generalize w.sites[i]=s at *;obtain⟨N,sm,ln⟩:=s;unfold bU.enc at hx;dsimp only at *;have u:¬((iA w.sites i).1<=N/\N<w.threads.length/\sm=if(iA w.sites i).1<N then 0 else(iA w.sites i).2)->Q (.bool false) []:=λM=>hq _ (dq λh2=>M (by have:=E.1 h2;exact⟨this.1,this.2.1,this.2.2.1⟩))
  have B:((iA w.sites i).1<=N/\N<w.threads.length/\sm=if(iA w.sites i).1<N then 0 else(iA w.sites i).2)->nx [.pptr [w.enc] 0 0,.Uf ((i+1:Nat):Int)] []:=λM=>
   D ⟨Ua,by have:=M.2.2;split at this<;>omega,by have:=M.2.2;split at this<;>omega,by
    rw[E];exact⟨λh=>h.2.2.2,λh=>⟨M.1,M.2.1,M.2.2,h⟩⟩⟩
  clear D E hq;cases i with
  |zero=>
   generalize hA:iA w.sites 0=A at u B g1 g2 g3;obtain rfl:A=(0,0):=hA.symm;dsimp only at u B g1 g2 g3
   repeat' (first|refine st ?_|refine sb λS G=>?_|refine s2 (λh=>?_) λh=>?_|fail)
   all_goals first
    |(refine u λh2=>?_;have h3:=h2.1;have h4:=h2.2.1;have h5:=h2.2.2;clear h2 u B;split at h5<;>simp only[decide_eq_true_eq,decide_eq_false_iff_not,ge_iff_le,ne_eq,Decidable.not_not]at * <;>omega)
    |(refine B ?_;clear u B;simp only[decide_eq_true_eq,decide_eq_false_iff_not,ge_iff_le,ne_eq,Decidable.not_not]at *;refine⟨Ua,Ua,?_⟩;first|(split<;>omega)|(rw[ite_self];omega))
  |succ j=>
   have Z:=ao (f:=bU.enc) (show j<w.sites.length by omega);have Y:w.sites[j]? =some (w.sites[j]'Ua):=mt Ua;generalize w.sites[j]'Ua=s2 at Z Y;have ha:iA w.sites (j+1)=(s2.thread,s2.stmt+1):=by simp only[iA,Y]
   rw[ha]at u B g1 g2 g3;obtain⟨th2,O,ln2⟩:=s2;unfold bU.enc at Z;dsimp only at *;have hw2:IntKind.i64.wrap (((j+1:Nat):Int)-1)=(j:Int):=by rw[IntWalk.i64_in _ Ua];omega
   have hw3:IntKind.i64.wrap (O+1)=O+1:=Te _ Ua;have hz:decide (((j+1:Nat):Int)=0)=false:=decide_eq_false Ua;have hp:decide (((j+1:Nat):Int) > 0)=true:=decide_eq_true Ua
   repeat' (first|refine st ?_|refine sb λS G=>?_|refine s2 (λh=>?_) λh=>?_|fail)
   all_goals first
    |(refine u λh2=>?_;have h3:=h2.1;have h4:=h2.2.1;have h5:=h2.2.2;clear h2 u B;split at h5<;>simp only[decide_eq_true_eq,decide_eq_false_iff_not,ge_iff_le,ne_eq,Decidable.not_not]at * <;>omega)
    |(refine B ?_;clear u B;simp only[decide_eq_true_eq,decide_eq_false_iff_not,ge_iff_le,ne_eq,Decidable.not_not]at *;refine⟨Ua,Ua,?_⟩;first|(split<;>omega)|(rw[ite_self];omega))
 .subst h;rw[List.drop_length]at E
  repeat' (first|refine st ?_|refine sb λS G=>?_|refine s2 (λh=>?_) λh=>?_|fail)
  exact hq _ (eC (E.2.2.2.2 trivial))
end
end
end Go.Proofs.YtbofdbhnbodbiaaGreatDoor.Am
