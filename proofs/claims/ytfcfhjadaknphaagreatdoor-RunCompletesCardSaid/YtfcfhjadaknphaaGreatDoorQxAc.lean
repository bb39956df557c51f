/- part -/
import Derived.Test.YtfcfhjadaknphaaGreatDoorQxAa
set_option linter.all false
set_option maxRecDepth 100000
set_option maxHeartbeats 0
namespace Go.Proofs.YtfcfhjadaknphaaGreatDoor.Am
section
section
variable {w:aK} {Q:R} {c:aH} {i nb bs:Nat} {n5:W.Kn} (hl:w.cells.length<=12) (h1:1<=c.size) (h4:c.size<=4) (hf:c.size<=(w.cells.length-i:Nat))
 (hno:¬tD c (w.cells.drop i)->∀L,Q (.tup [.nils,.bool false]) L) (x:AV) (L:SH)
 (hgo:tD c (w.cells.drop i)->n5 [.pptr [w.enc] 0 0,x,.YJ ((i+c.size.toNat:Nat):Int)] L)
include hl h1 h4 hf hno hgo
theorem Vo:W.loop (Bt Q n5) [.pptr [w.enc] 0 0,x,.YJ (i:Int),.pptr [c.enc] 0 0,.YJ 0] L:=by
 obtain⟨E,Y,sz,vo,u⟩:=c;dsimp only at *;obtain⟨m,rfl⟩:=Int.eq_ofNat_of_zero_le (show 0<=sz by omega);have he:aH.enc ⟨E,Y,m,vo,u⟩=[.str E,.YJ Y,.YJ (m:Int),.bool vo,.YJ u]:=rfl;rw[he];refine cS m (λk=>∀j,j<k->w.cells[i+j]? =some ⟨E,j,m,false,u⟩) (λk=>[.pptr [w.enc] 0 0,x,.YJ (i:Int),.pptr [[.str E,.YJ Y,.YJ (m:Int),.bool vo,.YJ u]] 0 0,.YJ (k:Int)]) YC (λj h=>absurd h (Nat.not_lt_zero _)) rfl (λk h d1 hw1 S nx M=>?_) (λk h d1 S nx=>?_)
 all_goals refine vw ?_
 .have Z:IntKind.i64.wrap ((i:Int)+(k:Int))=((i+k:Nat):Int):=by rw[WY _ YC];omega
  have O:i+k<w.cells.length:=by omega
  have hx:=aq (f:=aH.enc) O;have G:w.cells[i+k]? =some w.cells[i+k]:=mt O;generalize w.cells[i+k]=c at hx G;have D:c≠⟨E,k,m,false,u⟩->∀L,Q (.tup [.nils,.bool false]) L:=λhd=>hno λhb=>by have h2:=hb.eq k (by show(k:Int)<(m:Int);omega);rw[XE,G]at h2;exact hd (Yf h2)
  have B:c=⟨E,k,m,false,u⟩->∀j,j<k+1->w.cells[i+j]? =some ⟨E,j,m,false,u⟩:=λhd j hj=>by
   rcases Fn j k with g|g
   .exact S j g
   .have e:j=k:=by omega
    subst e;rw[G,hd]
  obtain⟨cn,cx,cs,cv,ci⟩:=c;unfold aH.enc at hx;dsimp only at *;rw[aH.mk.injEq]at B;rw[Ne,aH.mk.injEq]at D;clear S
  repeat' (first|refine sy ?_|refine s2 ?_ ?_|intro)
  all_goals first
   |(refine D (λh2=>?_) _;clear M hgo hno B D;simp_all;done)
   |(refine M (B ?_);clear M hgo hno B D;simp_all;done)
 .have Z:IntKind.i64.wrap ((i:Int)+(m:Int))=((i+m:Nat):Int):=by rw[WY _ YC];omega
  obtain rfl:k=m:=by omega
  repeat' (first|refine sy ?_|refine s2 ?_ ?_|intro)
  exact hgo ⟨h1,h4,by rw[Yh];exact hf,λj hj=>by rw[XE];exact S j (by simpa using hj)⟩
end
section
variable {w:aK} {Q:R} (hc12:w.cells.length<=12) (h4:w.locks.length<=4) (h2:w.conds.length<=2) (hf2:w.futures.length<=2) (ht4:w.threads.length<=4)
include h4 h2 hf2 ht4
theorem Vp{u:List aO}(hns:u.length<=12)(hq:∀L v,Fz L v (.lst ((eD w u).map av))->Q (.tup [v,.bool true]) L){vs:List AV}{L:SH}(o:Option Nat)(G:o=none->u++w.locks.map bv.name=[])(Z:aE vs L [.pptr [w.enc] 0 0,ai o (u++w.locks.map bv.name).length,.YJ 0] (ab o 1 ((u++w.locks.map bv.name).map av))):W.loop (Bu Q) vs L:=by
 obtain⟨S,Y⟩:∃S:Nat->List aO,S=λi=>u++w.locks.map bv.name++(w.conds.take i).map bO.name:=⟨_,rfl⟩
 have O:S 0=u++w.locks.map bv.name:=by subst Y;simp
 have D:S w.conds.length++w.futures++w.threads=eD w u:=by subst Y;simp[eD]
 have B:∀i (h:i<w.conds.length),S (i+1)=S i++[w.conds[i].name]:=λi h=>by subst Y;simp only[LE h,WL,WU,WS,Xp]
 have M:∀i,(S i).length<=18:=λi=>by subst Y;rw[LT,LT,Xd,Xd,Xb];omega
 rw[<-O]at Z G;clear O Y;refine qc (α:=Nat×Option Nat) (λa=>([.pptr [w.enc] 0 0,ai a.2 (S a.1).length,.YJ (a.1:Int)],ab a.2 1 ((S a.1).map av))) (λa=>w.conds.length-a.1) (λa=>a.1<=w.conds.length/\(a.2=none->S a.1=[])) (0,o) ⟨Nat.zero_le _,G⟩ Z ?_;rintro⟨i,o⟩ ⟨hi,G⟩ nx hnx;refine vw ?_;dsimp only at *;have hA:=M i;rcases Nat.lt_or_ge i w.conds.length with h|h
 .have d1:decide ((i:Int)<(w.conds.length:Int))=true:=a8 h;have hw1:IntKind.i64.wrap ((i:Int)+1)=((i+1:Nat):Int):=ax h YC;have hx:=aq (f:=bO.enc) h;have hgo:∀j L',dD L' [(j,⟨1,(S i).map av++[[.str w.conds[i].name]]⟩)]->nx [.pptr [w.enc] 0 0,.sl j 0 ((S i).length+1),.YJ ((i+1:Nat):Int)] L':=λj L' h3=>
   hnx (i+1,some j) ⟨h,nofun⟩ (by dsimp only;omega) _ _ (aE.pickE h3 (by simp[ai,B i h]) (by simp[ab,av,B i h]))
  clear hnx B D M Z;generalize w.conds[i]=c at *;generalize S i=C at *;obtain⟨nm,mx⟩:=c;unfold bO.enc at hx;dsimp only at *
  repeat' (first|refine sy ?_|refine bG mm rp YF (λe=>by simp[G e]) YE YF YH YH YE (λj hnb_=>?_)|refine s2 ?_ ?_|intro)
  exact hgo _ _ rp
 .have d1:decide ((i:Int)<(w.conds.length:Int))=false:=bq h;obtain rfl:i=w.conds.length:=by omega
  repeat' (first|refine sy ?_|refine s2 ?_ ?_|intro)
  refine pF rp (λ_=>rfl) YF (λe=>by simp[G e]) YC YC (λ_=>rfl) (λo1 ho1=>?_)
  repeat' (first|refine sy ?_|refine s2 ?_ ?_|intro)
  refine pF rp (λ_=>rfl) YF (λe=>ho1 e) YC YC (λ_=>rfl) (λo2 E=>?_);have e1:(S w.conds.length).map av++w.futures.map av++w.threads.map av=(eD w u).map av:=by rw[<-D];simp
  have e2:(S w.conds.length).length+w.futures.length+w.threads.length=(eD w u).length:=by rw[<-D];simp;omega
  rw[e1]at E ⊢;rw[e2,Xr];exact hq _ _ (Fz.slot rfl E YG (λ_ _=>rfl) λ_ _ q a a2 h1 h2=>by rw[h1]at h2;cases h2;exact .refl _)
theorem Vq{u:List aO}(hns:u.length<=12)(hq:∀L v,Fz L v (.lst ((eD w u).map av))->Q (.tup [v,.bool true]) L){vs:List AV}{L:SH}(o:Option Nat)(B:o=none->u=[])(G:aE vs L [.pptr [w.enc] 0 0,ai o u.length,.YJ 0] (ab o 1 (u.map av))):W.loop (Bv Q) vs L:=by
 have D:=λvs L o B G=>Vp h4 h2 hf2 ht4 hns hq (vs:=vs) (L:=L) o B G
 obtain⟨S,Z⟩:∃S:Nat->List aO,S=λi=>u++(w.locks.take i).map bv.name:=⟨_,rfl⟩
 have Y:S 0=u:=by subst Z;simp
 have O:S w.locks.length=u++w.locks.map bv.name:=by subst Z;simp
 have E:∀i (h:i<w.locks.length),S (i+1)=S i++[w.locks[i].name]:=λi h=>by subst Z;simp only[LE h,WL,WU,WS,Xp]
 have M:∀i,(S i).length<=18:=λi=>by subst Z;rw[LT,Xd,Xb];omega
 rw[<-O]at D;rw[<-Y]at G B;clear Y Z hq;refine qc (α:=Nat×Option Nat) (λa=>([.pptr [w.enc] 0 0,ai a.2 (S a.1).length,.YJ (a.1:Int)],ab a.2 1 ((S a.1).map av))) (λa=>w.locks.length-a.1) (λa=>a.1<=w.locks.length/\(a.2=none->S a.1=[])) (0,o) ⟨Nat.zero_le _,B⟩ G ?_;rintro⟨i,o⟩ ⟨hi,B⟩ nx hnx;refine vw ?_;dsimp only at *;have hA:=M i;rcases Nat.lt_or_ge i w.locks.length with h|h
 .have d1:decide ((i:Int)<(w.locks.length:Int))=true:=a8 h;have hw1:IntKind.i64.wrap ((i:Int)+1)=((i+1:Nat):Int):=ax h YC;have hx:=aq (f:=bv.enc) h;have hgo:∀j L',dD L' [(j,⟨1,(S i).map av++[[.str w.locks[i].name]]⟩)]->nx [.pptr [w.enc] 0 0,.sl j 0 ((S i).length+1),.YJ ((i+1:Nat):Int)] L':=λj L' h3=>
   hnx (i+1,some j) ⟨h,nofun⟩ (by dsimp only;omega) _ _ (aE.pickE h3 (by simp[ai,E i h]) (by simp[ab,av,E i h]))
  clear hnx E O M G D;generalize w.locks[i]=c at *;generalize S i=C at *;obtain⟨nm,mx⟩:=c;unfold bv.enc at hx;dsimp only at *
  repeat' (first|refine sy ?_|refine bG mm rp YF (λe=>by simp[B e]) YE YF YH YH YE (λj hnb_=>?_)|refine s2 ?_ ?_|intro)
  exact hgo _ _ rp
 .have d1:decide ((i:Int)<(w.locks.length:Int))=false:=bq h;obtain rfl:i=w.locks.length:=by omega
  repeat' (first|refine sy ?_|refine s2 ?_ ?_|intro)
  exact D _ _ o B (.refl _ _)
include hc12
theorem Vr(hy:∀G L v,dT w.cells G->Fz L v (.lst ((eD w G).map av))->Q (.tup [v,.bool true]) L)(hn:(∀G,¬dT w.cells G)->∀L,Q (.tup [.nils,.bool false]) L):sJ (.agg w.enc) [] Q:=by
  refine vw ?_
  repeat' (first|refine sx ?_|refine sb λu M=>?_|refine s2 (λh=>?_) λh=>?_|fail)
  refine qc (α:=Nat×List aO×Option Nat) (λa=>([.pptr [w.enc] 0 0,ai a.2.2 a.2.1.length,.YJ (a.1:Int)],ab a.2.2 1 (a.2.1.map av))) (λa=>w.cells.length-a.1) (λa=>gC w.cells a.1 a.2.1/\(a.2.2=none->a.2.1=[])) (0,[],none) ⟨.zero _,λ_=>rfl⟩ (aE.drop (K:=[]) (.refl _) rfl ((fi.cons (.refl _) (.cons .nile (.cons (.refl _) .nil))).at_.2)) ?_;rintro⟨i,B,o⟩ ⟨S,ho⟩ nx hnx;refine vw ?_;dsimp only at *;have hva:=S.2.1;have hva2:=S.1;rcases Nat.lt_or_ge i w.cells.length with h|h
  · have hx:=aq (f:=aH.enc) h
    have d1:decide ((i:Int)<(w.cells.length:Int))=true:=a8 h;have hw1:IntKind.i64.wrap ((i:Int)+1)=((i+1:Nat):Int):=ax h YC;have hw2:IntKind.i64.wrap ((w.cells.length:Int)-(i:Int))=((w.cells.length-i:Nat):Int):=by rw[WY _ YC];omega
    have hs0:w.cells[i].size=0->w.cells[i].index≠0->∀G,¬dT w.cells G:=S.no1 h;have Z:w.cells[i].size=0->w.cells[i].index=0->gC w.cells (i+1) (B++[w.cells[i].name]):=S.step h;have D:w.cells[i].size≠0->¬tD w.cells[i] (w.cells.drop i)->∀G,¬dT w.cells G:=S.no2 h;have Y:w.cells[i].size≠0->tD w.cells[i] (w.cells.drop i)->gC w.cells (i+w.cells[i].size.toNat) (B++[w.cells[i].name]):=S.jump h;have hgo:∀j u L',gC w.cells j (B++[w.cells[i].name])->i<j->dD L' [(u,⟨1,B.map av++[[.str w.cells[i].name]]⟩)]->nx [.pptr [w.enc] 0 0,.sl u 0 (B.length+1),.YJ (j:Int)] L':=λj u L' h1 h2 h3=>
      hnx (j,B++[w.cells[i].name],some u) ⟨h1,nofun⟩ (by have:=h1.1;dsimp only;omega) _ _ (aE.pickE h3 (by simp[ai]) (by simp[ab,av]))
    clear hnx S;have E:=λh1 h4' hf hno x L hgo=>Vo (Q:=Q) (n5:=nx) (c:=w.cells[i]'h) (i:=i) hc12 h1 h4' hf hno x L hgo
    generalize w.cells[i]=c at *;obtain⟨nm,ix,sz,vo,ini⟩:=c;have he:aH.enc ⟨nm,ix,sz,vo,ini⟩=[.str nm,.YJ ix,.YJ sz,.bool vo,.YJ ini]:=rfl;rw[he]at hx E;clear he;dsimp only at *
    repeat' (first|refine sx ?_|refine bG mm rp YF (λe=>by simp[ho e]) YE YF YH YH YE (λu M=>?_)|refine sb λu M=>?_|refine s2 (λh=>?_) λh=>?_|fail)
    all_goals first
      |exact hn (hs0 (of_decide_eq_true YD) (of_decide_eq_true YD)) _
      |(refine hgo (i+1) _ _ (Z (of_decide_eq_true YD) ?_) (Nat.lt_succ_self _) rp;clear E hgo hn hy hs0 Z D Y;simp only[ne_eq,decide_eq_false_iff_not,Decidable.not_not]at *;assumption)
      | (refine hn (D (of_decide_eq_false YD) fun O => ?_) _
         have hb1:=O.lo;have hb2:=O.hi;have hb3:=O.fits
         rw[List.length_drop]at hb3;clear E hgo hn hy hs0 Z D Y O;dsimp only at hb1 hb2 hb3
         (simp only[decide_eq_true_eq,decide_eq_false_iff_not]at *;omega))
      |skip
    rename_i g1 g2 g3;simp only[decide_eq_false_iff_not]at g1 g2 g3 h;exact E YC YC YC (λO=>hn (D YC O)) _ _ (λO=>hgo _ _ _ (Y YC O) YC rp)
  · have d1:decide ((i:Int)<(w.cells.length:Int))=false:=bq h
    have hv:=S.done h
    repeat' (first|refine sy ?_|refine s2 ?_ ?_|intro)
    exact Vq h4 h2 hf2 ht4 YC (λL v hf=>hy B L v hv hf) o ho (.refl _ _)
end
theorem LB{w:aK}(hc12:w.cells.length<=12)(h4:w.locks.length<=4)(h2:w.conds.length<=2)(hf2:w.futures.length<=2)(ht4:w.threads.length<=4){j:List aO}(h:dT w.cells j):ao Tryz.prog 117 [.agg w.enc] (.tup [.lst ((eD w j).map av),.bool true]):=
 ac.fz (ql _ _ _ (Vr hc12 h4 h2 hf2 ht4 (λu L v h1 h2=>⟨_,[],aE.all (.tups (.cons h2 (.cons (.refl _) .nil))),by rw[h.uniq h1],rfl⟩) λh2=>absurd h (h2 j)))
theorem NW{w:aK}(hc12:w.cells.length<=12)(h4:w.locks.length<=4)(h2:w.conds.length<=2)(hf2:w.futures.length<=2)(ht4:w.threads.length<=4)(h:∀u,¬dT w.cells u):ao Tryz.prog 117 [.agg w.enc] (.tup [.nils,.bool false]):=
 ac.fz (ql _ _ _ (Vr hc12 h4 h2 hf2 ht4 (λj L v h1 h2=>absurd h1 (h j)) λ_ L=>⟨_,[],aE.all (.refl _),rfl,rfl⟩))
end
def Jb(s:aO):ao Tryz.prog 92 [.str s] (.bool (cY s)):=by
 rcases Fn 12 s.length with h|h
 .have j:(s.length:Int)<1->False:=by omega
  refine oI _ _ _ ?_;refine vw ?_;have B:decide ((s.length:Int)<1)=false:=decide_eq_false YC;have u:decide ((s.length:Int) > 12)=true:=decide_eq_true YC;have e:cY s=false:=by unfold cY;rw[show decide ((s.length:Int)<=12)=false from decide_eq_false YC];simp
  rw[e]
  repeat' (first|refine sy ?_|refine s2 ?_ ?_|intro)
  all_goals exact⟨rfl,rfl⟩
 .exact ii s YC
section
theorem yd{α:Type}{f:α->List AV}{l:List α}{n i:Nat}{k:IntKind}{L:SH}{K:AV->Prop}(h:K (.lst ((l.take i).map f)))(B:i<=l.length:=by omega)(u:∀x,(f x).length=n:=by intro x;rfl):W.slice n (.lst (l.map f)) none (some (.int k (i:Int))) none L K:=by
 refine qH (l:=0) (h:=i) rfl rfl (Xq _) (by simpa using B) (λr j=>?_) ?_
 .obtain⟨x,_,rfl⟩:=Xi.1 (List.mem_of_mem_head? j);exact u x
 .rw[List.drop_zero,Nat.sub_zero,<-List.map_take];exact h
theorem Qd{l:List aO}{s:aO}:decide (jx l s≥0)=iz (s∈l):=by
  unfold jx;by_cases h:s∈l
  · rw[fM h]
    refine decide_eq_true ?_;have:∀(l:List aO) (k:Nat),s∈l→0≤iy (λx=>decide (x=s)) l k:=by
      intro l
      induction l with
      |nil=>intro k h;simp at h
      |cons x l ih=>
        intro k h;rw[iy];by_cases hx:x=s
        · rw[if_pos (decide_eq_true hx)];omega
        · rw[if_neg (by simpa using hx)]
          exact ih _ (by rcases WX.1 h with h | h; · exact absurd h.symm hx
                         · exact h)
    exact this l 0 h
  · rw[eh h,eU (λx hx=>decide_eq_false λ(e:x=s)=>h (e▸hx))]
    rfl
def jO(l:List bM):Nat->Int×Int
 |0=>(0,0)
 | i+1=>match l[i]? with
  |some s=>(s.thread,s.stmt+1)
  |none=>(0,0)
section
variable (w:aK) {Q:R} (h60:w.sites.length<=60) (h4:w.locks.length<=4) (h2:w.conds.length<=2) (ht4:w.threads.length<=4)
include h60 ht4
theorem Vt(Z:∀b,iz (mL w.threads.length 0 0 w.sites)=b->Q (.bool b) []):W.loop (rJ Q) [.pptr [w.enc] 0 0,.YJ 0] []:=by
 refine cS w.sites.length (λi=>0<=(jO w.sites i).1/\0<=(jO w.sites i).2/\(jO w.sites i).2<=i/\(mL w.threads.length 0 0 w.sites↔mL w.threads.length (jO w.sites i).1 (jO w.sites i).2 (w.sites.drop i))) (λi=>[.pptr [w.enc] 0 0,.YJ (i:Int)]) YC ⟨Int.le_refl _,Int.le_refl _,Int.le_refl _,Iff.rfl⟩ rfl (λi h d1 hw1 E nx D=>?_) (λi h d1 E nx=>?_)
 all_goals refine vw ?_
 .obtain⟨g1,g2,g3,E⟩:=E;have hx:=aq (f:=bM.enc) h;have ha:jO w.sites (i+1)=(w.sites[i].thread,w.sites[i].stmt+1):=by simp only[jO,mt h]
  rw[List.drop_eq_getElem_cons h,NL]at E;rw[ha]at D;dsimp only at D;generalize w.sites[i]=s at *;obtain⟨M,sm,ln⟩:=s;unfold bM.enc at hx;dsimp only at *;have u:¬((jO w.sites i).1<=M/\M<w.threads.length/\sm=if(jO w.sites i).1<M then 0 else(jO w.sites i).2)->Q (.bool false) []:=λG=>Z _ (eh λh2=>G (by have:=E.1 h2;exact⟨this.1,this.2.1,this.2.2.1⟩))
  have B:((jO w.sites i).1<=M/\M<w.threads.length/\sm=if(jO w.sites i).1<M then 0 else(jO w.sites i).2)->nx [.pptr [w.enc] 0 0,.YJ ((i+1:Nat):Int)] []:=λG=>
   D ⟨YC,by have:=G.2.2;split at this<;>omega,by have:=G.2.2;split at this<;>omega,by
    rw[E];exact⟨λh=>h.2.2.2,λh=>⟨G.1,G.2.1,G.2.2,h⟩⟩⟩
  clear D E Z;cases i with
  |zero=>
   generalize hA:jO w.sites 0=A at u B g1 g2 g3;obtain rfl:A=(0,0):=hA.symm;dsimp only at u B g1 g2 g3
   repeat' (first|refine sy ?_|refine s2 ?_ ?_|intro)
   all_goals first
    |(refine u λh2=>?_;have h3:=h2.1;have h4:=h2.2.1;have h5:=h2.2.2;clear h2 u B;split at h5<;>simp only[decide_eq_true_eq,decide_eq_false_iff_not,ge_iff_le,ne_eq,Decidable.not_not]at * <;>omega)
    |(refine B ?_;clear u B;simp only[decide_eq_true_eq,decide_eq_false_iff_not,ge_iff_le,ne_eq,Decidable.not_not]at *;refine⟨YC,YC,?_⟩;first|(split<;>omega)|(rw[ite_self];omega))
  |succ j=>
   have Y:=aq (f:=bM.enc) (show j<w.sites.length by omega);have S:w.sites[j]? =some (w.sites[j]'YC):=mt YC;generalize w.sites[j]'YC=s2 at Y S;have ha:jO w.sites (j+1)=(s2.thread,s2.stmt+1):=by simp only[jO,S]
   rw[ha]at u B g1 g2 g3;obtain⟨th2,O,ln2⟩:=s2;unfold bM.enc at Y;dsimp only at *;have hw2:IntKind.i64.wrap (((j+1:Nat):Int)-1)=(j:Int):=by rw[IntWalk.i64_in _ YC];omega
   have hw3:IntKind.i64.wrap (O+1)=O+1:=WY _ YC;have hz:decide (((j+1:Nat):Int)=0)=false:=decide_eq_false YC;have hp:decide (((j+1:Nat):Int) > 0)=true:=decide_eq_true YC
   repeat' (first|refine sy ?_|refine s2 ?_ ?_|intro)
   all_goals first
    |(refine u λh2=>?_;have h3:=h2.1;have h4:=h2.2.1;have h5:=h2.2.2;clear h2 u B;split at h5<;>simp only[decide_eq_true_eq,decide_eq_false_iff_not,ge_iff_le,ne_eq,Decidable.not_not]at * <;>omega)
    |(refine B ?_;clear u B;simp only[decide_eq_true_eq,decide_eq_false_iff_not,ge_iff_le,ne_eq,Decidable.not_not]at *;refine⟨YC,YC,?_⟩;first|(split<;>omega)|(rw[ite_self];omega))
 .subst h;rw[List.drop_length]at E
  repeat' (first|refine sy ?_|refine s2 ?_ ?_|intro)
  exact Z _ (fM (E.2.2.2.2 trivial))
end
end
def mP(i:Int)(n:Nat):ao Tryz.prog 120 [.YJ i,.YJ n] (.bool (inB i n)):=by
 refine Hz _ _ _ _ ?_;refine vw ?_;generalize j:(λ(u:AV) (K:SH)=>u=AV.bool (inB i n)/\K=[])=Q
 repeat' (first|refine sy ?_|refine s2 ?_ ?_|intro)
 all_goals
  subst j;refine⟨?_,rfl⟩;simp_all[inB]<;>omega
def Jc(op:Int):ao Tryz.prog 167 [.YJ op] (.bool (pe op)):=by
 refine oS _ _ _ ?_;refine vw ?_;generalize j:(λ(u:AV) (K:SH)=>u=AV.bool (pe op)/\K=[])=Q
 repeat' (first|refine sy ?_|refine s2 ?_ ?_|intro)
 all_goals
  subst j;refine⟨?_,rfl⟩;simp_all[pe]<;>omega
def NX(w:aK)(i n:Int):ao Tryz.prog 166 [.agg w.enc,.YJ i,.YJ n] (.bool (uE w i n)):=by
 have D:=mP i w.cells.length;refine Bx _ _ _ _ _ ?_;refine vw ?_;generalize G:(λ(u:AV) (K:SH)=>u=AV.bool (uE w i n)/\K=[])=Q;have E:∀b,uE w i n=b->Q (.bool b) []:=λb M=>by subst G;exact⟨by rw[M],rfl⟩
 clear G;cases j:inB i w.cells.length with
 |false=>
  rw[j]at D
  repeat' (first|refine sy ?_|refine s2 ?_ ?_|intro)
  exact E _ (by simp[uE,j])
 |true=>
  rw[j]at D;have B:=co (f:=aH.enc) j;obtain⟨k,rfl⟩:=Xg (cT j);unfold aH.enc at B;rw[Xx]at B
  repeat' (first|refine sy ?_|refine s2 ?_ ?_|intro)
  all_goals exact E _ (by simp_all[uE])
def Jd(w:aK)(i:az):ao Tryz.prog 118 [.agg w.enc,.agg i.enc] (.bool (jh w i)):=by
 obtain⟨op,B,ib,ic,m,D⟩:=i;refine xi _ _ _ _ ?_;refine vw ?_;generalize hQ:(λ(u:AV) (K:SH)=>u=AV.bool (jh w ⟨op,B,ib,ic,m,D⟩)/\K=[])=Q;have M:∀b:Bool,jh w ⟨op,B,ib,ic,m,D⟩=b->Q (.bool b) []:=λb hb=>by subst hb;subst hQ;exact⟨rfl,rfl⟩
 clear hQ;have hlk:∀rw,(op=11\/op=12)/\rw=false\/(op=13\/op=14\/op=15\/op=16)/\rw=true->jh w ⟨op,B,ib,ic,m,D⟩=jB w B rw:=λrw h=>by
  rcases h with⟨h,rfl⟩|⟨h,rfl⟩
  .rcases h with rfl|rfl<;>rfl
  .rcases h with rfl|rfl|rfl|rfl<;>rfl
 have hlr:∀rw (k:Nat) (h:k<w.locks.length),B=(k:Int)->jB w B rw=(w.locks[k].rw==rw):=λrw k h e=>by subst e;have hb:inB (k:Int) w.locks.length=true:=aw.2 ⟨YC,YC⟩;unfold jB;rw[hb,Xx,XP,mt h];rfl
 by_cases h6:op=6
 .subst h6;have E:=mP ib w.cells.length;cases j:inB ib w.cells.length with
  |false=>
   rw[j]at E
   repeat' (first|refine sy ?_|refine s2 ?_ ?_|intro)
   all_goals exact M _ (by simp[jh,pM,j])
  |true=>
   rw[j]at E;have O:=co (f:=aH.enc) j;obtain⟨k,rfl⟩:=Xg (cT j);unfold aH.enc at O;rw[Xx]at O
   repeat' (first|refine sy ?_|refine s2 ?_ ?_|intro)
   all_goals exact M _ (by simp_all[jh,pM])
 by_cases h8:op=8
 .subst h8;have E:=mP B w.cells.length;cases j:inB B w.cells.length with
  |false=>
   rw[j]at E
   repeat' (first|refine sy ?_|refine s2 ?_ ?_|intro)
   all_goals exact M _ (by simp[jh,pM,j])
  |true=>
   rw[j]at E;have O:=co (f:=aH.enc) j;obtain⟨k,rfl⟩:=Xg (cT j);unfold aH.enc at O;rw[Xx]at O
   repeat' (first|refine sy ?_|refine s2 ?_ ?_|intro)
   all_goals exact M _ (by simp_all[jh,pM])
 have e6:decide (op=6)=false:=decide_eq_false h6;have e8:decide (op=8)=false:=decide_eq_false h8;by_cases hl:op=11\/op=12
 .have G:=hlk false (.inl ⟨hl,rfl⟩);have E:=mP B w.locks.length;cases j:inB B w.locks.length with
  |false=>
   rw[j]at E;have S:jB w B false=false:=by simp[jB,j]
   rw[S]at G;rcases hl with rfl|rfl
   all_goals
    repeat' (first|refine sy ?_|refine s2 ?_ ?_|intro)
    all_goals exact M _ G
  |true=>
   rw[j]at E;obtain⟨k,rfl⟩:=Xg (cT j);have hk:k<w.locks.length:=by have:=(aw.1 j).2;omega
   have O:=aq (f:=bv.enc) hk;have S:=hlr false k hk rfl;rw[S]at G;generalize w.locks[k]=c at *;obtain⟨nm,r⟩:=c;unfold bv.enc at O;dsimp only at *;have Z:(!r)=(r==false):=by cases r<;>rfl
   rw[<-Z]at G;rcases hl with rfl|rfl
   all_goals
    repeat' (first|refine sy ?_|refine s2 ?_ ?_|intro)
    all_goals exact M _ G
 by_cases Y:op=13\/op=14\/op=15\/op=16
 .have G:=hlk true (.inr ⟨Y,rfl⟩);have E:=mP B w.locks.length;cases j:inB B w.locks.length with
  |false=>
   rw[j]at E;have S:jB w B true=false:=by simp[jB,j]
   rw[S]at G;rcases Y with rfl|rfl|rfl|rfl
   all_goals
    repeat' (first|refine sy ?_|refine s2 ?_ ?_|intro)
    all_goals exact M _ G
  |true=>
   rw[j]at E;obtain⟨k,rfl⟩:=Xg (cT j);have hk:k<w.locks.length:=by have:=(aw.1 j).2;omega
   have O:=aq (f:=bv.enc) hk;have S:=hlr true k hk rfl;rw[S]at G;generalize w.locks[k]=c at *;obtain⟨nm,r⟩:=c;unfold bv.enc at O;dsimp only at *;have Z:r=(r==true):=by cases r<;>rfl
   rw[<-Z]at G;rcases Y with rfl|rfl|rfl|rfl
   all_goals
    repeat' (first|refine sy ?_|refine s2 ?_ ?_|intro)
    all_goals exact M _ G
 have e11:decide (op=11)=false:=decide_eq_false λh=>hl (.inl h)
 have e12:decide (op=12)=false:=decide_eq_false λh=>hl (.inr h)
 have e13:decide (op=13)=false:=decide_eq_false λh=>Y (.inl h)
 have e14:decide (op=14)=false:=decide_eq_false λh=>Y (.inr (.inl h))
 have e15:decide (op=15)=false:=decide_eq_false λh=>Y (.inr (.inr (.inl h)))
 have e16:decide (op=16)=false:=decide_eq_false λh=>Y (.inr (.inr (.inr h)))
 have hc:=mP B w.conds.length;have ht:=mP B w.threads.length;have hf:=mP B w.futures.length;have hg:=mP ib w.futures.length;have ha:=NX w;clear hlk hlr
 repeat' (first|refine sy ?_|(refine pf 166 ?_;refine pm (ha _ _) ?_)|refine s2 ?_ ?_|intro)
 all_goals
  refine M _ ?_;clear M hc ht hf hg ha e6 e8 e11 e12 e13 e14 e15 e16;simp only[decide_eq_true_eq,decide_eq_false_iff_not]at *;unfold jh
  first
   |(subst_vars;rfl)
   |(subst_vars;simp;done)
   |(simp_all;done)
   |(subst_vars;simp;omega)
def NY(B:List az)(k:Nat)(hl:B.length<2^48):ao Tryz.prog 119 [.lst (B.map az.enc),.YJ (k:Int)] (.bool (iz (eu B k))):=by
 refine By _ _ _ _ ?_;refine vw ?_;generalize hQ:(λ(u:AV) (K:SH)=>u=AV.bool (iz (eu B k))/\K=[])=Q;have hq:∀b,iz (eu B k)=b->Q (.bool b) []:=λb Y=>by subst hQ;exact⟨by rw[Y],rfl⟩
 clear hQ;refine wN (α:=Nat×Int) (λa=>([.lst (B.map az.enc),.YJ a.2,.YJ (a.1:Int)],[])) (λa=>B.length+1-a.1) (λa=>a.1<=B.length+1/\(∀m,vT B k m->a.1<=m/\∃j:Nat,a.2=(j:Int)/\vT B j (m-a.1))/\∀(j m:Nat),a.2=(j:Int)->vT B j m->eu B k) (0,(k:Int)) ⟨Xq _,λm h=>⟨Xq _,k,rfl,h⟩,λj m e h=>by
  have:j=k:=by have:(k:Int)=(j:Int):=e;omega
  subst this;exact⟨m,h⟩⟩ rfl rfl ?_
 rintro⟨n,t⟩ ⟨hn,hA,hB⟩ nx hnx;refine vw ?_;dsimp only at *;by_cases h:n<=B.length
 .have d1:decide ((n:Int)<=(B.length:Int))=true:=decide_eq_true YC;have hw1:IntKind.i64.wrap ((n:Int)+1)=((n+1:Nat):Int):=by rw[WY _ YC];omega
  by_cases hr:0<=t/\t<B.length
  .obtain⟨j,rfl⟩:=Xg hr.1;have hj:j<B.length:=by omega
   have hx:=aq (f:=az.enc) hj;have G:B[j]? =some B[j]:=mt hj;have d2:decide ((j:Int)<0)=false:=decide_eq_false YC;have d3:decide ((j:Int)>=(B.length:Int))=false:=decide_eq_false YC;have hw2:IntKind.i64.wrap ((j:Int)+1)=((j+1:Nat):Int):=ax hj YC;have hsi:=Jc B[j].op;generalize B[j]=i at *;have hsl:pe i.op=true↔i.sil:=by unfold pe az.sil;simp
   cases Y:pe i.op with
   |false=>
    rw[Y]at hsi;have hl:eu B k:=hB j 0 rfl (.ev j i G λh=>by rw[hsl.2 h]at Y;cases Y);obtain⟨op,ia,ib,ic,m,site⟩:=i;unfold az.enc at hx;dsimp only at *
    repeat' (first|refine sy ?_|refine s2 ?_ ?_|intro)
    all_goals exact hq _ (fM hl)
   |true=>
    rw[Y]at hsi;have hs:=hsl.1 Y;have hgo:∀t':Int,(i.op=5->t'=i.a)->(i.op≠5->t'=((j+1:Nat):Int))->nx [.lst (B.map az.enc),.YJ t',.YJ ((n+1:Nat):Int)] []:=λt' h5 hn5=>hnx (n+1,t') ⟨by dsimp only;omega,λm O=>by
      obtain⟨h1,j2,e2,h2⟩:=hA m O;obtain rfl:j=j2:=by omega
      dsimp only;generalize hd:m-n=d at h2;cases h2 with
      |ev _ i' E hs'=>rw[G]at E;cases E;exact absurd hs hs'
      |go _ d' i' E hs' Z S=>rw[G]at E;cases E;exact⟨YC,j+1,hn5 Z,by rw[show m-(n+1)=d' by omega];exact S⟩
      |jump _ d' j' i' E Z ha' S=>rw[G]at E;cases E;exact⟨YC,j',by rw[h5 Z];exact ha',by rw[show m-(n+1)=d' by omega];exact S⟩,λj' m e O=>by
      dsimp only at e;by_cases D:i.op=5
      .exact hB j (m+1) rfl (.jump j m j' i G D (by rw[<-h5 D];exact e) O)
      .have:j'=j+1:=by have:=hn5 D;omega
       subst this;exact hB j (m+1) rfl (.go j m i G hs D O)⟩ (by dsimp only;omega)
    clear hnx hA hB hq;obtain⟨op,ia,ib,ic,m,site⟩:=i;unfold az.enc at hx;dsimp only at *;by_cases D:op=5
    .subst D
     repeat' (first|refine sy ?_|refine s2 ?_ ?_|intro)
     all_goals exact hgo _ (λ_=>rfl) (λh=>absurd rfl h)
    .have d5:decide (op=5)=false:=decide_eq_false D
     repeat' (first|refine sy ?_|refine s2 ?_ ?_|intro)
     all_goals exact hgo _ (λh=>absurd h D) (λ_=>rfl)
  .have M:¬eu B k:=λ⟨m,O⟩=>by obtain⟨_,j,rfl,h2⟩:=hA m O;have:=h2.lt;exact hr ⟨YC,YC⟩
   repeat' (first|refine sy ?_|refine s2 ?_ ?_|intro)
   all_goals first
    |exact hq _ (eh M)
    |(exfalso;refine hr ?_;clear hnx hA hB hq M;simp only[decide_eq_true_eq,decide_eq_false_iff_not,ge_iff_le]at *;omega)
 .have d1:decide ((n:Int)<=(B.length:Int))=false:=decide_eq_false YC;have M:¬eu B k:=λ⟨m,O⟩=>by have:=(hA m O).1;have:=O.bound;omega
  repeat' (first|refine sy ?_|refine s2 ?_ ?_|intro)
  all_goals exact hq _ (eh M)
