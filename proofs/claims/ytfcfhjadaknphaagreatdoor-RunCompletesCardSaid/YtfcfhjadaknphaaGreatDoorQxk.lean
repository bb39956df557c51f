/- part -/
import Derived.Test.YtfcfhjadaknphaaGreatDoorQxi
import Derived.Test.YtfcfhjadaknphaaGreatDoorQxj
set_option linter.all false
set_option maxRecDepth 100000
set_option maxHeartbeats 0
namespace Go.Proofs.YtfcfhjadaknphaaGreatDoor.Am
section
def dP(s:SyncD)(i:Int)(f:ThrD->ThrD):List ThrD:=s.threads.set i.toNat (f (a7 s i))
def cN(s:SyncD)(i:Int)(f:LockD->LockD):List LockD:=s.locks.set i.toNat (f (aP s i))
def DQ(s:SyncD)(o:Int):List ThrD:=dq s.threads o s.threads.length
def uF(l:List Int)(t:Int):List Int:=Lib.compact (wu (l++[t]))
def bn(w:aK)(s:SyncD)(t k o wake:Int):SyncD×Int:=
 if k=1 then({s with threads:=dP s t λx=>{x with status:=2}},0)
 else if k=2 then({s with threads:=dP s t λx=>{x with status:=5}},0)
 else if k=6\/k=10 then({s with locks:=cN s o λx=>{x with owner:=t}},0)
 else if k=7\/k=11 then({s with locks:=cN s o λx=>{x with owner:=-1}},0)
 else if k=8 then({s with locks:=cN s o λx=>{x with readers:=uF x.readers t}},0)
 else if k=9 then({s with locks:=cN s o λx=>{x with readers:=x.readers.filter λy=>!decide (y=t)}},0)
 else if k=12 then({s with tx:=t},0)
 else if k=13 then({s with tx:=-1},0)
 else if k=14 then({s with threads:=dP s t λx=>{x with atomic:=true}},0)
 else if k=15 then({s with threads:=dP s t λx=>{x with atomic:=false}},0)
 else if k=16 then({s with locks:=cN s (jC w o) λx=>{x with owner:=-1},threads:=dP s t λx=>{x with status:=3,cond:=o}},0)
 else if k=17 then({s with locks:=cN s (jC w o) λx=>{x with owner:=t},threads:=dP s t λx=>{x with status:=2,cond:=0}},0)
 else if k=18 then({s with threads:=fj s.threads o wake},cm s.threads o wake)
 else if k=19 then({s with threads:=DQ s o},(aM s.threads o s.threads.length).length)
 else if k=20 then({s with threads:=dP s o λx=>{x with status:=1}},0)
 else if k=22 then({s with done:=s.done.set o.toNat true},0)
 else(s,0)
theorem mD{s:SyncD}{t:Int}{f:ThrD->ThrD}{r:List AV}(h:r=(f (a7 s t)).enc):(s.threads.map ThrD.enc).set (0+t.toNat) r=(dP s t f).map ThrD.enc:=by rw[h,Xn,dP,XI]
theorem qK{s:SyncD}{t:Int}{f:LockD->LockD}{r:List AV}(h:r=(f (aP s t)).enc):(s.locks.map LockD.enc).set (0+t.toNat) r=(cN s t f).map LockD.enc:=by rw[h,Xn,cN,XI]
theorem nQ{s:SyncD}{t:Int}(h:inB t s.threads.length=true):(s.threads.map ThrD.enc)[0+t.toNat]? =some (a7 s t).enc:=by rw[Xn];exact co h
theorem uG{s:SyncD}{t:Int}(h:inB t s.locks.length=true):(s.locks.map LockD.enc)[0+t.toNat]? =some (aP s t).enc:=by rw[Xn];exact co h
theorem uH{bl n bt m:Nat}{tx:Int}{dv:AV}(h:dv.one=true):([.sl bl 0 n,.YJ tx,dv,.sl bt 0 m]:List AV).all AV.one=true:=by show(true&&(true&&(dv.one&&(true&&true))))=true;rw[h];rfl
theorem wE(T:List ThrD)(c wake:Int):(fj T c wake).length=T.length:=by unfold fj gB;split<;>simp
theorem Nk{α:Type}{l:List α}{i:Nat}{x y:α}(h:l[i]? =some y):(l.set i x)[i]? =some x:=by have:=(Xm.1 h).1;simp[this]
section
variable (w:aK) (s:SyncD) (t o wake:Int) (b7 b12 bl bt:Nat)
def Io(R:SH):SH:=(bl,⟨2,s.locks.map LockD.enc⟩)::(bt,⟨3,s.threads.map ThrD.enc⟩)::(b12,⟨4,[[.nils,.YJ 0,.nils,.nils]]⟩)::(b7,⟨4,[s.enc]⟩)::R
def Ki(k:Int)(Q:R)(dv:AV)(L:SH):Prop:=oA Q (.YJ k) (.YJ o) (.YJ wake) (.ptr b7 0 0) (.pptr [[.YJ t]] 0 0) (.ptr b12 0 0) (.pptr [w.enc] 0 0) (.agg [.sl bl 0 s.locks.length,.YJ s.tx,dv,.sl bt 0 s.threads.length]) L
def pO(k:Int)(R:SH)(dv:AV)(Q:AV->SH->Prop):Prop:=∀L:SH,Fz L (.sl bl 0 s.locks.length) (.lst ((bn w s t k o wake).1.locks.map LockD.enc))->Fz L (.sl bt 0 s.threads.length) (.lst ((bn w s t k o wake).1.threads.map ThrD.enc))->(∀p∈R,p∈L)->
 Q (.tup [.agg [.sl bl 0 s.locks.length,.YJ (bn w s t k o wake).1.tx,dv,.sl bt 0 s.threads.length],.YJ (bn w s t k o wake).2,.bool true]) L
variable (R:SH) (dv:AV) (hone:dv.one=true) (Q:AV->SH->Prop) (hf:yE w s) (ht:inB t s.threads.length=true) (hnd:(Io s b7 b12 bl bt R).names.Nodup)
include hone hf ht hnd
theorem UW(k:Int)(G:allowedS w k o=true)(M:k=1\/k=2\/k=3\/k=4\/k=5\/k=12\/k=13\/k=14\/k=15\/k=20\/k=21\/k=23\/k=6\/k=7\/k=10\/k=11)(D:pO w s t o wake bl bt k R dv Q):Ki w s t o wake b7 b12 bl bt k Q dv (Io s b7 b12 bl bt R):=by
 unfold Ki;refine vw ?_;simp only[SH.names,Io,WS,Xw,WX,not_or]at hnd;obtain⟨⟨n1,n2,n3,n4⟩,⟨n5,n6,n7⟩,⟨n8,n9⟩,n10,n11⟩:=hnd;unfold Io;have hy:=nQ ht;obtain⟨t0,t1⟩:=aw.1 ht;have B:k=20->inB o s.threads.length=true:=λh=>by subst h;rw[hf.threads];simpa[allowedS]using G
 have u:k=6\/k=7\/k=10\/k=11->inB o s.locks.length=true:=λh=>by rw[hf.locks];rcases h with rfl|rfl|rfl|rfl<;>(simp[allowedS]at G;exact G.1)
 have E:∀O:Int,([.sl bl 0 s.locks.length,.YJ O,dv,.sl bt 0 s.threads.length]:List AV).all AV.one=true:=λO=>uH hone
 unfold pO bn at D;clear G;by_cases S:k=6\/k=7\/k=10\/k=11
 .have j:=u S;have hx:=uG j;obtain⟨o0,Z⟩:=aw.1 j;clear B u M hf;rcases S with rfl|rfl|rfl|rfl
  all_goals
   simp only[Int.reduceEq,Int.reduceNeg,if_true,if_false,or_self,or_true,true_or,or_false,false_or,reduceIte,reduceCtorEq]at D
   repeat' (first|refine sy ?_|refine bI rp rfl rfl (E _) rfl ?_|refine s2 ?_ ?_|intro)
   exact D _ (Fz.sls mm (qK rfl) YF (by simp[cN])) (Fz.sls mm rfl YF rfl) (λp hp=>by simp only[WX];simp[hp])
 by_cases Y:k=20
 .have j:=B Y;subst Y;have hx:=nQ j;obtain⟨o0,Z⟩:=aw.1 j;clear B u M hf;simp only[Int.reduceEq,Int.reduceNeg,if_true,if_false,or_self,or_true,true_or,or_false,false_or,reduceIte,reduceCtorEq]at D
  repeat' (first|refine sy ?_|refine bI rp rfl rfl (E _) rfl ?_|refine s2 ?_ ?_|intro)
  exact D _ (Fz.sls mm rfl YF rfl) (Fz.sls mm (mD rfl) YF (by simp[dP])) (λp hp=>by simp only[WX];simp[hp])
 clear B u hf;rcases M with rfl|rfl|rfl|rfl|rfl|rfl|rfl|rfl|rfl|rfl|rfl|rfl|h
 all_goals try (exfalso;omega)
 all_goals
  simp only[Int.reduceEq,Int.reduceNeg,if_true,if_false,or_self,or_true,true_or,or_false,false_or,reduceIte,reduceCtorEq]at D
  repeat' (first|refine sy ?_|refine bI rp rfl rfl (E _) rfl ?_|refine s2 ?_ ?_|intro)
  first
   |exact D _ (Fz.sls mm rfl YF rfl) (Fz.sls mm (mD rfl) YF (by simp[dP])) (λp hp=>by simp only[WX];simp[hp])
   |exact D _ (Fz.sls mm rfl YF rfl) (Fz.sls mm rfl YF rfl) (λp hp=>by simp only[WX];simp[hp])
theorem UX(k:Int)(O:allowedS w k o=true)(M:k=16\/k=17)(u:pO w s t o wake bl bt k R dv Q):Ki w s t o wake b7 b12 bl bt k Q dv (Io s b7 b12 bl bt R):=by
 unfold Ki;refine vw ?_;simp only[SH.names,Io,WS,Xw,WX,not_or]at hnd;obtain⟨⟨n1,n2,n3,n4⟩,⟨n5,n6,n7⟩,⟨n8,n9⟩,n10,n11⟩:=hnd;unfold Io;have hy:=nQ ht;obtain⟨t0,t1⟩:=aw.1 ht;have B:inB o w.conds.length=true:=by rcases M with rfl|rfl<;>simpa[allowedS]using O
 have G:=DK hf B;have hx:=uG G;obtain⟨Y,S⟩:=aw.1 G;have hcx:=co (f:=bO.enc) B;obtain⟨c0,c1⟩:=aw.1 B;unfold jC at hx Y S;have D:∀E:Int,([.sl bl 0 s.locks.length,.YJ E,dv,.sl bt 0 s.threads.length]:List AV).all AV.one=true:=λE=>uH hone
 have j:∀v,((s.threads.map ThrD.enc).set (0+t.toNat) ((a7 s t).enc.set 0 v))[0+t.toNat]? =some ((a7 s t).enc.set 0 v):=λv=>Nk hy
 have hy3:=j (.YJ 3);have Z:=j (.YJ 2);clear j;unfold pO bn jC at u;clear O hf;rcases M with rfl|rfl
 all_goals
  simp only[Int.reduceEq,Int.reduceNeg,if_true,if_false,or_self,or_true,true_or,or_false,false_or,reduceIte,reduceCtorEq]at u
  repeat' (first|refine sy ?_|refine bI rp rfl rfl (D _) rfl ?_|refine s2 ?_ ?_|intro)
  exact u _ (Fz.sls mm (qK rfl) YF (by simp[cN])) (Fz.sls mm (by rw[List.set_set];exact mD rfl) YF (by simp[dP])) (λp hp=>by simp only[WX];simp[hp])
theorem UY(k:Int)(E:k=18\/k=19)(D:s.threads.length<2^40)(u:pO w s t o wake bl bt k R dv Q):Ki w s t o wake b7 b12 bl bt k Q dv (Io s b7 b12 bl bt R):=by
 unfold Ki;refine vw ?_;simp only[SH.names,Io,WS,Xw,WX,not_or]at hnd;obtain⟨⟨n1,n2,n3,Z⟩,⟨Y,S,O⟩,⟨M,G⟩,n10,n11⟩:=hnd;have j:∀B:Int,([.sl bl 0 s.locks.length,.YJ B,dv,.sl bt 0 s.threads.length]:List AV).all AV.one=true:=λB=>uH hone
 unfold Io;unfold pO bn at u;rcases E with rfl|rfl
 all_goals
  simp only[Int.reduceEq,Int.reduceNeg,if_true,if_false,or_self,or_true,true_or,or_false,false_or,reduceIte,reduceCtorEq]at u
  repeat' (first|refine sy ?_|refine bI rp rfl rfl (j _) rfl ?_|((with_reducible refine aU 159 ?_);(refine gq (Lf _ _ _ bt s.threads o wake D (j _)) rp ?_;rintro _ _ ⟨rfl,rfl⟩))|((with_reducible refine aU 160 ?_);(refine gq (EN _ _ _ bt s.threads o D (j _)) rp ?_;rintro _ _ ⟨rfl,rfl⟩))|refine s2 ?_ ?_|intro)
  exact u _ (Fz.sls mm rfl YF rfl) (Fz.sls mm rfl YF (by first|exact(wE _ _ _).symm|simp[DQ,cX])) (λp hp=>by simp only[WX,WM];simp[hp])
def Rp(bd:Nat)(Q:AV->SH->Prop):Prop:=∀(L:SH),Fz L (.sl bl 0 s.locks.length) (.lst (s.locks.map LockD.enc))->Fz L (.sl bt 0 s.threads.length) (.lst (s.threads.map ThrD.enc))->Fz L (.sl bd 0 s.done.length) (.lst ((s.done.set o.toNat true).map aD))->
 Q (.tup [.agg [.sl bl 0 s.locks.length,.YJ s.tx,.sl bd 0 s.done.length,.sl bt 0 s.threads.length],.YJ 0,.bool true]) L
omit hone hnd in
theorem Sn(j:Nat)(hnd:(Io s b7 b12 bl bt [(j,⟨1,s.done.map aD⟩)]).names.Nodup)(D:allowedS w 22 o=true)(B:Rp s o bl bt j Q):Ki w s t o wake b7 b12 bl bt 22 Q (.sl j 0 s.done.length) (Io s b7 b12 bl bt [(j,⟨1,s.done.map aD⟩)]):=by
 unfold Ki Io;refine vw ?_;have u:inB o s.done.length=true:=by rw[hf.done];simpa[allowedS]using D
 obtain⟨G,E⟩:=aw.1 u;have M:(s.done.map aD)[0+o.toNat]? =some (aD (s.done.getD o.toNat default)):=by rw[Xn];exact co u
 repeat' (first|refine sy ?_|refine s2 ?_ ?_|intro)
 refine B _ (Fz.sls mm rfl YF rfl) (Fz.sls mm rfl YF rfl) (Fz.sls mm ?_ YF YF);rw[XI,Xn];rfl
end
end
section
theorem GU{K:SH}{bl:Nat}{rows:List (List AV)}{u:List LockD}{n:Nat}(hm:(bl,⟨2,rows⟩)∈K)(Z:n=u.length)(hl:rows.length=u.length)
  (h:∀(j:Nat) (r:List AV) (x:LockD),rows[j]? =some r->u[j]? =some x->∃a,r=[.YJ x.owner,a]/\Fz K a (.lst (x.readers.map ah))):Fz K (.sl bl 0 n) (.lst (u.map LockD.enc)):=by
 subst Z;rcases XH u.length with O|O
 .have:u=[]:=XA.1 O;subst this;exact .sl0 bl 0
 .have get:∀(j:Nat) (r D:List AV),rows[0+j]? =some r->(u.map LockD.enc)[j]? =some D->∃x:LockD,u[j]? =some x/\D=x.enc/\∃a,r=[.YJ x.owner,a]/\Fz K a (.lst (x.readers.map ah)):=λj r D E B=>by
   rw[Xn]at E;rw[W6]at B;cases G:u[j]? with
   |none=>rw[G]at B;cases B
   |some x=>rw[G]at B;cases B;exact⟨x,rfl,rfl,h j r x E G⟩
  refine .sl bl 0 _ ⟨2,rows⟩ _ hm YF O YF YH (λj r D E B=>?_) (λj r D q a a2 E B M S=>?_)
  .obtain⟨x,_,rfl,a,rfl,_⟩:=get j r D E B;rfl
  .obtain⟨x,_,rfl,a',rfl,Y⟩:=get j r D E B
   match q with
   |0=>cases M;cases S;exact .refl _
   |1=>cases M;cases S;exact Y
   |q+2=>simp at M
theorem enc_row(x:LockD){K:SH}:∃a,x.enc=[.YJ x.owner,a]/\Fz K a (.lst (x.readers.map ah)):=⟨_,rfl,.refl _⟩
theorem Kj{K:SH}{s:SyncD}{o:Int}{ro:Option Nat}{f:LockD->LockD}{a:AV}(hl:inB o s.locks.length=true)(M:∀x,(f x).owner=x.owner)(O:Fz K a (.lst ((f (aP s o)).readers.map ah))):
  ∀(j:Nat) (r:List AV) (x:LockD),((cL o.toNat ro s.locks).set (0+o.toNat) [.YJ (aP s o).owner,a])[j]? =some r->(cN s o f)[j]? =some x->∃a,r=[.YJ x.owner,a]/\Fz K a (.lst (x.readers.map ah)):=by
 intro j r x B u;obtain⟨Y,S⟩:=aw.1 hl;have D:o.toNat<s.locks.length:=by omega
 unfold cN at u;rw[Xn]at B;by_cases G:o.toNat=j
 .subst G;rw[List.getElem?_set_self (by rw[cU];exact D)]at B;rw[List.getElem?_set_self D]at u;cases B;cases u;exact⟨a,by rw[M],O⟩
 .rw[List.getElem?_set_ne G]at B u;have E:j<s.locks.length:=(Xm.1 u).1;rw[ie _ _ _ _ E]at B;rw[mt E]at u;cases B;cases u;unfold oE;rw[if_neg (λe=>G e.symm)];exact enc_row _
theorem GV{s:SyncD}{o:Int}{ro:Option Nat}(hl:inB o s.locks.length=true):(cL o.toNat ro s.locks)[0+o.toNat]? =some [.YJ (aP s o).owner,ai ro (aP s o).readers.length]:=by
 obtain⟨B,u⟩:=aw.1 hl;have j:o.toNat<s.locks.length:=by omega
 rw[Xn,ie _ _ _ _ j];unfold oE;rw[if_pos rfl];simp[aP,j]
section
variable (w:aK) (s:SyncD) (t o wake:Int) (b7 b12 bl bt:Nat)
def Nl(ro:Option Nat)(R:SH):SH:=(bl,⟨2,cL o.toNat ro s.locks⟩)::(bt,⟨3,s.threads.map ThrD.enc⟩)::(b12,⟨4,[[.nils,.YJ 0,.nils,.nils]]⟩)::(b7,⟨4,[s.enc]⟩)::(ab ro 1 ((aP s o).readers.map ah)++R)
variable (R:SH) (dv:AV) (hone:dv.one=true) (Q:AV->SH->Prop) (hl:inB o s.locks.length=true) (hrd:(aP s o).readers.length<2^40)
include hone hl hrd
theorem UZ(B:Nat)(j:(Nl s o b7 b12 bl bt (some B) R).names.Nodup)(D:pO w s t o wake bl bt 9 R dv Q):Ki w s t o wake b7 b12 bl bt 9 Q dv (Nl s o b7 b12 bl bt (some B) R):=by
 unfold Ki;refine vw ?_;unfold pO bn at D;simp only[Int.reduceEq,Int.reduceNeg,if_true,if_false,or_self,or_true,true_or,or_false,false_or,reduceIte,reduceCtorEq]at D;simp only[SH.names,Nl,ab,WS,Xw,WX,not_or,XS,XM]at j;obtain⟨⟨n1,n2,n3,n4,n12⟩,⟨n5,n6,n7,n13⟩,⟨n8,n9,Z⟩,⟨Y,S⟩,n10,n11⟩:=j;have E:∀O:Int,([.sl bl 0 s.locks.length,.YJ O,dv,.sl bt 0 s.threads.length]:List AV).all AV.one=true:=λO=>uH hone
 obtain⟨o0,o1⟩:=aw.1 hl;have hx:=GV (ro:=some B) hl;have u:=Ct 158 [.pptr [[.YJ t]] 0 0] (λx=>decide (x=t)) (Lh t 0 []) B (aP s o).readers YC;unfold Nl;simp only[ab,XS,XM]
 repeat' (first|refine sy ?_|refine bI rp rfl rfl (E _) rfl ?_|((with_reducible refine dR 157 ?_);(refine uz u rp (by(simp only[rm,rc,rz,W.free,c8,↓reduceIte,Nat.reduceEqDiff,am,gE,Yl,Xk,Xv,not_false_eq_true,implies_true,and_true,true_and,and_self,W7,reduceCtorEq,forall_const,false_implies,WP,forall_eq,Xr,XM,WX,or_false,false_or,forall_eq_or_imp,not_or])<;>(repeat' constructor)<;>first|assumption|(exact Ne.symm YD)|(intro e_;subst e_;simp[SH.names]at *;done)) ?_;rintro _ _ ⟨R',rfl,rfl,M,G⟩))|refine s2 ?_ ?_|intro)
 refine D _ (GU rp (by simp[cN]) (by simp[cN,cU]) (Kj hl (λ_=>rfl) ?_)) (Fz.sls rp rfl YF rfl) (λp hp=>by simp only[WX,WM];simp[hp]);rw[<-As M];exact Fz.rows (x:=⟨1,R'.map ah⟩) rp YF (by simp[G];exact X2 _ _)
theorem U0(ro:Option Nat)(M:ro=none->(aP s o).readers=[])(E:(Nl s o b7 b12 bl bt ro R).names.Nodup)(O:pO w s t o wake bl bt 8 R dv Q):Ki w s t o wake b7 b12 bl bt 8 Q dv (Nl s o b7 b12 bl bt ro R):=by
 unfold Ki;refine vw ?_;unfold pO bn at O;simp only[Int.reduceEq,Int.reduceNeg,if_true,if_false,or_self,or_true,true_or,or_false,false_or,reduceIte,reduceCtorEq]at O;simp only[SH.names,Nl,WS,Xw,WX,not_or]at E;obtain⟨⟨n1,n2,n3,n4⟩,⟨n5,n6,n7⟩,⟨n8,n9⟩,n10,n11⟩:=E;have S:∀tx:Int,([.sl bl 0 s.locks.length,.YJ tx,dv,.sl bt 0 s.threads.length]:List AV).all AV.one=true:=λtx=>uH hone
 obtain⟨o0,o1⟩:=aw.1 hl;have hx:=GV (ro:=ro) hl;have B:∀j,ac Tryz.prog 155 [.sl j 0 ((aP s o).readers.length+1)] [(j,⟨1,(aP s o).readers.map ah++[[.YJ t]]⟩)] λv L=>v=.tup []/\L=[(j,⟨1,(wu ((aP s o).readers++[t])).map ah⟩)]:=λj=>by have:=Kf j ((aP s o).readers++[t]) YH;rw[LT,WL]at this;exact this
 have D:∀j,ac Tryz.prog 156 [.sl j 0 ((aP s o).readers.length+1)] [(j,⟨1,(wu ((aP s o).readers++[t])).map ah⟩)] λv L=>∃G:List Int,v=.sl j 0 (uF (aP s o).readers t).length/\L=[(j,⟨1,G.map ah⟩)]/\G.take (uF (aP s o).readers t).length=uF (aP s o).readers t/\(uF (aP s o).readers t).length<=G.length:=λj=>by
  have:=At j (wu ((aP s o).readers++[t])) (by rw[qJ];simp;omega);rw[qJ,LT]at this;refine this.mono λv L ⟨h1,h2⟩=>⟨_,h1,h2,?_,?_⟩
  .exact List.take_left' rfl
  .simp[uF]
 unfold Nl
 repeat' (first|refine sy ?_|refine bI rp rfl rfl (S _) rfl ?_|(refine GA [_,_,_,_] YF (λe=>by rw[M e];rfl) rfl (Yv 0) YH YH rfl ?_;intro nb_ u;simp only[WX,Xv,or_false,forall_eq_or_imp,forall_eq]at u;obtain⟨q1,q2,q3,q4⟩:=u)|((with_reducible refine aU 155 ?_);(refine gq (B _) rp ?_;rintro _ _ ⟨rfl,rfl⟩))|((with_reducible refine dR 156 ?_);(refine uz (D _) rp (by(simp only[rm,rc,rz,W.free,c8,↓reduceIte,Nat.reduceEqDiff,am,gE,Yl,Xk,Xv,not_false_eq_true,implies_true,and_true,true_and,and_self,W7,reduceCtorEq,forall_const,false_implies,WP,forall_eq,Xr,XM,WX,or_false,false_or,forall_eq_or_imp,not_or])<;>(repeat' constructor)<;>first|assumption|(exact Ne.symm YD)|(intro e_;subst e_;simp[SH.names]at *;done)) ?_;rintro _ _ ⟨G,rfl,rfl,Z,Y⟩))|refine s2 ?_ ?_|intro)
 refine O _ (GU rp (by simp[cN]) (by simp[cN,cU]) (Kj hl (λ_=>rfl) ?_)) (Fz.sls rp rfl YF rfl) (λp hp=>by simp only[WX,WM];simp[hp]);rw[<-As Z];exact Fz.rows (x:=⟨1,G.map ah⟩) rp YF (by simp;exact Y)
end
end
section
def Kk:SyncD:=⟨[],0,[],[]⟩
def ef(w:aK)(s:SyncD)(t k o wake:Int):SyncD×Int×Bool:=if aI w s t k o then((bn w s t k o wake).1,(bn w s t k o wake).2,true)else(Kk,0,false)
def Nm(r:SyncD×Int×Bool):AV:=.tup [.agg r.1.enc,.YJ r.2.1,.bool r.2.2]
theorem EP(ro:Option Nat)(u:List LockD):cL u.length ro u=u.map LockD.enc:=by
 apply XW;intro i;rcases Fn i u.length with j|j
 .rw[ie _ _ _ _ j,oE,if_neg YC];simp[j]
 .rw[ST (by rw[cU];exact j),ST (by simpa using j)]
section
variable (s:SyncD) (h1:s.locks.length<2^40) (h2:s.done.length<=140737488351232) (h3:s.threads.length<2^40) (hrd:∀l∈s.locks,l.readers.length<2^40) (hne:s.threads≠[])
include h1 h2 h3 hrd hne
theorem GW:ac Tryz.prog 154 [.agg s.enc] [] λv L=>∃u bt j,v=.agg [.sl u 0 s.locks.length,.YJ s.tx,aQ j s.done.length,.sl bt 0 s.threads.length]/\L=(u,⟨2,s.locks.map LockD.enc⟩)::(ab j 1 (s.done.map aD)++[(bt,⟨3,s.threads.map ThrD.enc⟩)])/\(j=none->s.done=[]):=by
 refine(GS s s.locks.length h1 h2 h3 hrd).mono ?_;rintro v L ⟨u,M,j,E,rfl,rfl,D,B,G⟩;cases E with
 |none=>exact absurd (B rfl) hne
 |some bt=>exact⟨u,bt,j,rfl,by rw[EP,FT,if_neg (Nat.lt_irrefl _)];rfl,D⟩
theorem Nn(o:Int)(O:inB o s.locks.length=true):ac Tryz.prog 154 [.agg s.enc] [] λv L=>∃B bt ro j,v=.agg [.sl B 0 s.locks.length,.YJ s.tx,aQ j s.done.length,.sl bt 0 s.threads.length]/\L=(B,⟨2,cL o.toNat ro s.locks⟩)::(ab ro 1 ((aP s o).readers.map ah)++(ab j 1 (s.done.map aD)++[(bt,⟨3,s.threads.map ThrD.enc⟩)]))/\(j=none->s.done=[])/\(ro=none->(aP s o).readers=[]):=by
 obtain⟨Y,S⟩:=aw.1 O;have u:o.toNat<s.locks.length:=by omega
 refine(GS s o.toNat h1 h2 h3 hrd).mono ?_;rintro v L ⟨B,ro,j,M,rfl,rfl,G,E,D⟩;cases M with
 |none=>exact absurd (E rfl) hne
 |some bt=>exact⟨B,bt,ro,j,rfl,by rw[FT,if_pos u];rfl,G,λe=>D e u⟩
end
theorem No{α:Type}(a b c d:α)(X:List α):((a::(X++[b]))++[c,d]).Perm (a::b::c::d::X):=by refine List.Perm.cons a ?_;show((X++[b])++[c,d]).Perm _;rw[WU];exact W1 (l₁:=X) (l₂:=[b,c,d])
theorem So{α:Type}(a b c d:α)(X Y:List α):((a::(X++(Y++[b])))++[c,d]).Perm (a::b::c::d::(X++Y)):=by rw[<-List.append_assoc];exact No a b c d (X++Y)
theorem iW(j:Option Nat)(n:Nat):(aQ j n).one=true:=by cases j<;>rfl
theorem PX{s:SyncD}{j:Option Nat}(u:j=none->s.done=[]){L:SH}(B:∀p∈ab j 1 (s.done.map aD),p∈L):Fz L (aQ j s.done.length) (.lst (s.done.map aD)):=by
 cases j with
 |none=>rw[u rfl];exact .refl _
 |some D=>exact Fz.sls (B _ (WP.2 rfl)) rfl YF rfl
structure GX(w:aK)(s:SyncD):Prop where
 conds:w.conds.length<2^40
 locks:s.locks.length<2^40
 done:s.done.length<=140737488351232
 threads:s.threads.length<2^40
 rd:∀l∈s.locks,l.readers.length<2^40
section
variable (w:aK) (s:SyncD) (t k o wake:Int)
def yF(v:AV)(L:SH):Prop:=∃v2 L2,aE [v] L [v2] L2/\v2=Nm (ef w s t k o wake)/\L2=[]
theorem IQ(j:k≠22):(bn w s t k o wake).1.done=s.done:=by
 unfold bn
 repeat' refine iteInduction (motive:=λp:SyncD×Int=>p.1.done=s.done) (λ_=>?_) (λ_=>?_)
 all_goals first
  |rfl
  |(exfalso;omega)
theorem U1(B:aI w s t k o=true)(D:k≠22)(O bt:Nat)(j:Option Nat)(u:j=none->s.done=[]):pO w s t o wake O bt k (ab j 1 (s.done.map aD)) (aQ j s.done.length) (yF w s t k o wake):=by intro L M G E;refine⟨_,[],aE.all (Fz.tups (.cons (Fz.aggs (.cons M (.cons (.refl _) (.cons (PX u E) (.cons G .nil))))) (.cons (.refl _) (.cons (.refl _) .nil)))),?_,rfl⟩;unfold ef;rw[if_pos B];show _=AV.tup [.agg (bn w s t k o wake).1.enc,.YJ _,.bool true];unfold SyncD.enc;rw[IQ w s t k o wake D]
theorem U2(j:aI w s t 22 o=true)(E bt G:Nat):Rp s o E bt G (yF w s t 22 o wake):=by intro L D B u;refine⟨_,[],aE.all (Fz.tups (.cons (Fz.aggs (.cons D (.cons (.refl _) (.cons u (.cons B .nil))))) (.cons (.refl _) (.cons (.refl _) .nil)))),?_,rfl⟩;unfold ef;rw[if_pos j];rfl
def Kl(b7 b12:Nat):Prop:=W.callM Tryz.prog 154 [.agg s.enc] [(b12,⟨4,[[.nils,.YJ 0,.nils,.nils]]⟩),(b7,⟨4,[s.enc]⟩)] (oA (yF w s t k o wake) (.YJ k) (.YJ o) (.YJ wake) (.ptr b7 0 0) (.pptr [[.YJ t]] 0 0) (.ptr b12 0 0) (.pptr [w.enc] 0 0))
theorem Np(hs:GX w s)(hen:aI w s t k o=true)(O u:Nat):
  Kl w s t k o wake O u:=by
 have Z:=hen;unfold aI at Z;simp only[WZ]at Z;obtain⟨⟨⟨hfi,hth⟩,hal⟩,hkd⟩:=Z;have hf:=fE.1 hfi;have ht:inB t s.threads.length=true:=by rw[hf.threads];exact hth
 obtain⟨t0,t1⟩:=aw.1 ht;have hne:s.threads≠[]:=λe=>by rw[e]at t1;simp at t1;omega
 have M:(∀D B E,(E=none->s.done=[])->(Io s O u D B (ab E 1 (s.done.map aD))).names.Nodup->Ki w s t o wake O u D B k (yF w s t k o wake) (aQ E s.done.length) (Io s O u D B (ab E 1 (s.done.map aD))))->
   Kl w s t k o wake O u:=λh=>by
  refine zu (GW s hs.locks hs.done hs.threads hs.rd hne) ?_;rintro v K ⟨D,B,E,rfl,rfl,j⟩;exact⟨Io s O u D B (ab E 1 (s.done.map aD)),No _ _ _ _ _,h D B E j⟩
 have readers:inB o s.locks.length=true->(∀D B ro E,(E=none->s.done=[])->(ro=none->(aP s o).readers=[])->(Nl s o O u D B ro (ab E 1 (s.done.map aD))).names.Nodup->Ki w s t o wake O u D B k (yF w s t k o wake) (aQ E s.done.length) (Nl s o O u D B ro (ab E 1 (s.done.map aD))))->
   Kl w s t k o wake O u:=λY h=>by
  refine zu (Nn s hs.locks hs.done hs.threads hs.rd hne o Y) ?_;rintro v K ⟨D,B,ro,E,rfl,rfl,j,S⟩;exact⟨Nl s o O u D B ro (ab E 1 (s.done.map aD)),So _ _ _ _ _ _,h D B ro E j S⟩
 have hrl:∀o,inB o s.locks.length=true->(aP s o).readers.length<2^40:=λo h=>by
  obtain⟨o0,o1⟩:=aw.1 h;have hlt:o.toNat<s.locks.length:=by omega
  unfold aP;rw[show s.locks.getD o.toNat default=s.locks[o.toNat] by simp[hlt]];exact hs.rd _ (WN hlt)
 by_cases h22:k=22
 .subst h22;refine M λD B E j G=>?_
  cases E with
  |none=>
   have Y:inB o s.done.length=true:=by rw[hf.done];simpa[allowedS]using hal
   obtain⟨o0,o1⟩:=aw.1 Y;rw[j rfl]at o1;simp at o1;omega
  |some bd=>exact Sn w s t o wake O u D B _ hf ht bd G hal (U2 w s t o wake hen D B bd)
 have e1:=λD B E j=>U1 w s t k o wake hen h22 D B E j
 by_cases h8:k=8
 .subst h8;have Y:inB o s.locks.length=true:=by rw[hf.locks];simp[allowedS]at hal;exact hal.1
  exact readers Y λD B ro E j S G=>U0 w s t o wake O u D B _ _ (iW _ _) _ Y (hrl o Y) ro S G (e1 D B E j)
 by_cases h9:k=9
 .subst h9;have Y:inB o s.locks.length=true:=by rw[hf.locks];simp[allowedS]at hal;exact hal.1
  refine readers Y λD B ro E j S G=>?_
  cases ro with
  |none=>
   have hc:(aP s o).readers.contains t=true:=by have:=hkd;simp[c9]at this;simpa using this.2
   rw[S rfl]at hc;cases hc
  |some br=>exact UZ w s t o wake O u D B _ _ (iW _ _) _ Y (hrl o Y) br G (e1 D B E j)
 by_cases h16:k=16\/k=17
 .exact M λD B E j G=>UX w s t o wake O u D B _ _ (iW _ _) _ hf ht G k hal h16 (e1 D B E j)
 by_cases h18:k=18\/k=19
 .exact M λD B E j G=>UY w s t o wake O u D B _ _ (iW _ _) _ hf ht G k h18 hs.threads (e1 D B E j)
 rcases kinds k with hk|hk
 .rw[fZ hk]at hal;cases hal
 .exact M λD B E j G=>UW w s t o wake O u D B _ _ (iW _ _) _ hf ht G k hal YC (e1 D B E j)
theorem Nq(B:GX w s):ao Tryz.prog 110 [.agg w.enc,.agg s.enc,.YJ t,.YJ k,.YJ o,.YJ wake] (Nm (ef w s t k o wake)):=by
 refine ac.fz (yu _ _ _ _ _ _ _ _ ?_);show pE _ _ _ _ _ _ _ (yF w s t k o wake);refine vw ?_;have D:w.conds.length<2^62:=by have:=B.conds;omega
 have E:=AC w s t k o D B.rd;have j:=Np w s t k o wake B;unfold Kl at j;have fin:aI w s t k o=false->∀L,yF w s t k o wake (.tup [.agg [.nils,.YJ 0,.nils,.nils],.YJ 0,.bool false]) L:=λG L=>by refine⟨_,[],aE.all (Fz.tups (.cons (Fz.aggs (.cons .nils (.cons (.refl _) (.cons .nils (.cons .nils .nil))))) (.cons (.refl _) (.cons (.refl _) .nil)))),?_,rfl⟩;unfold ef;rw[G];rfl
 generalize yF w s t k o wake=Q at *;cases u:aI w s t k o with
 |false=>
  rw[u]at E;have M:(!false)=true:=rfl;have fin:=fin u;clear j
  repeat' (first|refine sy ?_|refine s2 ?_ ?_|intro)
  exact fin _
 |true=>
  rw[u]at E;have j:=j u;clear fin
  repeat' (first|exact j _ _|refine sy ?_|refine s2 ?_ ?_|intro)
end
end
structure bH where
 thread:Int
 kind:Int
 obj:Int
 value:Int
 site:Int
 deps:List Int
 frm:List Int
def bH.enc(e:bH):List AV:=[.YJ e.thread,.YJ e.kind,.YJ e.obj,.YJ e.value,.YJ e.site,.lst (e.deps.map ah),.lst (e.frm.map ah)]
structure bU where
 sync:SyncD
 cells:List Int
 futures:List Int
 threads:List aG
def bU.enc(s:bU):List AV:=[.lst (s.sync.locks.map LockD.enc),.YJ s.sync.tx,.lst (s.sync.done.map aD),.lst (s.sync.threads.map ThrD.enc),.lst (s.cells.map ah),.lst (s.futures.map ah),.lst (s.threads.map aG.enc)]
def gF(op:Int):Int:=iP.getD op.toNat 0
def ixS(i n:Int):Int:=if n<1 then 0 else if i.tmod n<0 then IntKind.i64.wrap (i.tmod n+n)else i.tmod n
def dM(i:az)(s:aG)(t:Int):bH:=
 let e:bH:=⟨t,gF i.op,i.a,0,i.site,[],[]⟩
 if i.op=6\/i.op=27 then {e with obj:=i.b}
 else if i.op=7 then {e with obj:=IntKind.i64.wrap (i.b+ixS (s.reg i.c) i.n),deps:=s.tnt i.c}
 else if i.op=8\/i.op=26 then {e with frm:=s.tnt i.b}
 else if i.op=9 then {e with obj:=IntKind.i64.wrap (i.a+ixS (s.reg i.c) i.n),deps:=s.tnt i.c,frm:=s.tnt i.b}
 else if i.op=10 then {e with obj:=-1,deps:=s.tnt i.a}
 else if i.op=28\/i.op=17\/i.op=18\/i.op=19\/i.op=20 then {e with obj:=-1}
 else e
def au(c:aL)(t:Int):eG:=c.ts.getD t.toNat ⟨0,[]⟩
def aB(s:bU)(t:Int):aG:=s.threads.getD t.toNat aG.zero
def bV(c:eG)(k:Int):az:=c.ins.getD k.toNat default
def gX(c:aL)(s:bU)(t:Int):Bool:=
 inB t c.ts.length&&inB t s.threads.length&&inB t s.sync.threads.length&&inB (aB s t).pc (au c t).ins.length&&decide (((aB s t).regs.length:Int)=(au c t).regs)&&decide (((aB s t).taint.length:Int)=(au c t).regs)
def bS(c:aL)(s:bU)(t:Int):Option bH:=
 if gX c s t then
  let i:=bV (au c t) (aB s t).pc
  if(a7 s.sync t).status=1 then some ⟨t,1,-1,0,-1,[],[]⟩
  else if(a7 s.sync t).status=4 then some ⟨t,17,(a7 s.sync t).cond,0,i.site,[],[]⟩
  else if(a7 s.sync t).status=2 then(if gF i.op≠0 then some (dM i (aB s t) t)else none)
  else none
 else none
structure P6 where
 value:Int
 cells:List Int
 futures:List Int
 thread:aG
def jW(l:List Int)(o:Int):Int:=l.getD o.toNat 0
def cG(i:az)(e:bH)(s:bU)(th:aG)(sv:Int):P6:=
 let nx:Int:=IntKind.i64.wrap (th.pc+1)
 let ev:Int:=IntKind.i64.wrap (th.ev+1)
 if e.kind=3 then⟨jW s.cells e.obj,s.cells,s.futures,⟨nx,th.regs.set i.a.toNat (jW s.cells e.obj),th.taint.set i.a.toNat [th.ev],ev⟩⟩
 else if e.kind=23 then⟨jW s.futures e.obj,s.cells,s.futures,⟨nx,th.regs.set i.a.toNat (jW s.futures e.obj),th.taint.set i.a.toNat [th.ev],ev⟩⟩
 else if e.kind=4 then⟨th.reg i.b,s.cells.set e.obj.toNat (th.reg i.b),s.futures,⟨nx,th.regs,th.taint,ev⟩⟩
 else if e.kind=22 then⟨th.reg i.b,s.cells,s.futures.set e.obj.toNat (th.reg i.b),⟨nx,th.regs,th.taint,ev⟩⟩
 else if e.kind=5 then(if th.reg i.a≠0 then⟨1,s.cells,s.futures,⟨nx,th.regs,th.taint,ev⟩⟩else⟨e.value,s.cells,s.futures,⟨i.b,th.regs,th.taint,ev⟩⟩)
 else if e.kind=18\/e.kind=19 then⟨sv,s.cells,s.futures,⟨nx,th.regs,th.taint,ev⟩⟩
 else if e.kind=1\/e.kind=16\/e.kind=2 then⟨e.value,s.cells,s.futures,⟨th.pc,th.regs,th.taint,ev⟩⟩
 else⟨e.value,s.cells,s.futures,⟨nx,th.regs,th.taint,ev⟩⟩
def cB(c:aL)(s:bU)(t wake:Int):Option (bU×bH):=
 match bS c s t with
 |none=>none
 |some e=>
  if s.cells.length=c.w.cells.length/\s.futures.length=c.w.futures.length then
   let r:=ef c.w s.sync t e.kind e.obj wake
   if r.2.2 then
    let a:=cG (bV (au c t) (aB s t).pc) e s (aB s t) r.2.1
    let e':={e with value:=a.value}
    if e.kind≠16/\e.kind≠2 then
     let z:=bu (au c t) a.thread
     if z.2 then some (⟨r.1,a.cells,a.futures,s.threads.set t.toNat z.1⟩,e')else none
    else some (⟨r.1,a.cells,a.futures,s.threads.set t.toNat a.thread⟩,e')
   else none
  else none
def bC(c:aL):bU:=⟨bK c.w,c.w.cells.map aH.init,List.replicate c.w.futures.length 0,c.ts.map λt=>⟨0,List.replicate t.regs.toNat 0,List.replicate t.regs.toNat [],0⟩⟩
def zB(c:aL)(p:List bH×bU)(ch:bW):List bH×bU:=
 if 400<=p.1.length then p else match cB c p.2 ch.thread ch.wake with
  |none=>p
  |some (n,e)=>(p.1++[e],n)
def fN(c:aL)(l:List bW):List bH×bU:=l.foldl (zB c) ([],bC c)
section
theorem fl{K:SH}{l m:List AV}(h:fi K l m:=by repeat' first|exact .nil|refine .cons ?_ ?_|exact .refl _|exact .nils):fi K l m:=h
theorem Hg(i n:Int):ao Tryz.prog 174 [.YJ i,.YJ n] (.YJ (ixS i n)):=by
 refine CK _ _ _ _ ?_;refine vw ?_;generalize D:(λ(u:AV) (K:SH)=>u=AV.YJ (ixS i n)/\K=[])=Q;have hq:∀b,ixS i n=b->Q (.YJ b) []:=λb E=>by subst D;exact⟨by rw[E],rfl⟩
 clear D;by_cases h:n<1
 .have M:decide (n<1)=true:=decide_eq_true h
  repeat' (first|refine sy ?_|refine s2 (λh=>?_) λh=>?_|intro)
  exact hq _ (by rw[ixS,if_pos h])
 .have M:decide (n<1)=false:=decide_eq_false h;have j:n≠0:=by omega
  by_cases B:i.tmod n<0
  .have G:decide (i.tmod n<0)=true:=decide_eq_true B
   repeat' (first|refine sy ?_|refine ep (Gw j ?_)|refine s2 (λh=>?_) λh=>?_|intro)
   exact hq _ (by rw[ixS,if_neg h,if_pos B])
  .have G:decide (i.tmod n<0)=false:=decide_eq_false B
   repeat' (first|refine sy ?_|refine ep (Gw j ?_)|refine s2 (λh=>?_) λh=>?_|intro)
   exact hq _ (by rw[ixS,if_neg h,if_neg B])
theorem ops(k:Int)(j:1<=k)(h2:k<=28):k=1\/k=2\/k=3\/k=4\/k=5\/k=6\/k=7\/k=8\/k=9\/k=10\/k=11\/k=12\/k=13\/k=14\/k=15\/k=16\/k=17\/k=18\/k=19\/k=20\/k=21\/k=22\/k=23\/k=24\/k=25\/k=26\/k=27\/k=28:=by omega
theorem ky{s:aG}{r:Int}(u:0<=r)(j:r<s.regs.length):(s.regs.map ah)[r.toNat]? =some [.YJ (s.reg r)]:=by
 have:r.toNat<s.regs.length:=by omega
 simp[aG.reg,this,ah]
theorem nX{s:aG}{r:Int}(u:0<=r)(j:r<s.taint.length):(s.taint.map bP)[r.toNat]? =some [.lst ((s.tnt r).map ah)]:=by
 have:r.toNat<s.taint.length:=by omega
 simp[aG.tnt,this,bP]
theorem qf:TZ 0=.pptr [iP.map (.YJ ·)] 0 0:=rfl
section
variable {s:aG} {t op ia ib ic m site:Int} (hr:∀r∈aC ⟨op,ia,ib,ic,m,site⟩,0<=r/\r<s.regs.length) (ht:s.taint.length=s.regs.length) (hs:∀r,(s.tnt r).length*8<=140737488355328) {Q:R} (hq:∀v L,(∀K,fi K v (dM ⟨op,ia,ib,ic,m,site⟩ s t).enc)->Q (.agg v) L)
include hr ht hs hq
omit hr ht hs in
theorem Ve(j:1<=op)(h2:op<=28)(u:¬(7<=op/\op<=10)/\op≠26):dE (.agg (az.enc ⟨op,ia,ib,ic,m,site⟩)) (.agg s.enc) (.YJ t) [] Q:=by
 refine vw ?_;rw[show az.enc ⟨op,ia,ib,ic,m,site⟩=[.YJ op,.YJ ia,.YJ ib,.YJ ic,.YJ m,.YJ site]from rfl,qf];unfold aG.enc;rcases ops op j h2 with rfl|rfl|rfl|rfl|rfl|rfl|rfl|rfl|rfl|rfl|rfl|rfl|rfl|rfl|rfl|rfl|rfl|rfl|rfl|rfl|rfl|rfl|rfl|rfl|rfl|rfl|rfl|rfl
 all_goals first
  |(exfalso;omega)
  |skip
 all_goals
  clear j h2 u
  repeat' (first|refine sy ?_|refine Al YG YG ?_|refine s2 ?_ ?_|intro)
  exact hq _ _ (λK=>by simp[dM,bH.enc,gF,iP,bL];exact fl)
theorem Vf(h:op=8\/op=26):dE (.agg (az.enc ⟨op,ia,ib,ic,m,site⟩)) (.agg s.enc) (.YJ t) [] Q:=by
 refine vw ?_;rw[show az.enc ⟨op,ia,ib,ic,m,site⟩=[.YJ op,.YJ ia,.YJ ib,.YJ ic,.YJ m,.YJ site]from rfl,qf];unfold aG.enc;rcases h with rfl|rfl
 all_goals
  obtain⟨j,D⟩:=hr ib (by simp[aC]);have u:=nX (s:=s) j YC;have B:=dS (s.tnt ib) (hs ib);clear hr ht hs
  repeat' (first|refine sy ?_|refine s2 ?_ ?_|intro)
  exact hq _ _ (λK=>by simp[dM,bH.enc,gF,iP,bL];exact fl)
theorem Vg(h:op=10):dE (.agg (az.enc ⟨op,ia,ib,ic,m,site⟩)) (.agg s.enc) (.YJ t) [] Q:=by
 refine vw ?_;rw[show az.enc ⟨op,ia,ib,ic,m,site⟩=[.YJ op,.YJ ia,.YJ ib,.YJ ic,.YJ m,.YJ site]from rfl,qf];unfold aG.enc;subst h;obtain⟨j,D⟩:=hr ia (by simp[aC]);have u:=nX (s:=s) j YC;have B:=dS (s.tnt ia) (hs ia);clear hr ht hs
 repeat' (first|refine sy ?_|refine s2 ?_ ?_|intro)
 exact hq _ _ (λK=>by simp[dM,bH.enc,gF,iP,bL];exact fl)
theorem Vh(h:op=7):dE (.agg (az.enc ⟨op,ia,ib,ic,m,site⟩)) (.agg s.enc) (.YJ t) [] Q:=by
 refine vw ?_;rw[show az.enc ⟨op,ia,ib,ic,m,site⟩=[.YJ op,.YJ ia,.YJ ib,.YJ ic,.YJ m,.YJ site]from rfl,qf];unfold aG.enc;subst h;obtain⟨j,u⟩:=hr ic (by simp[aC]);have D:=nX (s:=s) j YC;have B:=ky (s:=s) j u;have G:=dS (s.tnt ic) (hs ic);have E:=Hg (s.reg ic) m;clear hr ht hs
 repeat' (first|refine sy ?_|refine s2 ?_ ?_|intro)
 exact hq _ _ (λK=>by simp[dM,bH.enc,gF,iP,bL];exact fl)
theorem Vi(h:op=9):dE (.agg (az.enc ⟨op,ia,ib,ic,m,site⟩)) (.agg s.enc) (.YJ t) [] Q:=by
 refine vw ?_;rw[show az.enc ⟨op,ia,ib,ic,m,site⟩=[.YJ op,.YJ ia,.YJ ib,.YJ ic,.YJ m,.YJ site]from rfl,qf];unfold aG.enc;subst h;obtain⟨j,B⟩:=hr ic (by simp[aC]);obtain⟨u,Y⟩:=hr ib (by simp[aC]);have G:=nX (s:=s) j YC;have D:=nX (s:=s) u YC;have E:=ky (s:=s) j B;have S:=dS (s.tnt ic) (hs ic);have M:=dS (s.tnt ib) (hs ib);have O:=Hg (s.reg ic) m;clear hr ht hs
 repeat' (first|refine sy ?_|refine s2 ?_ ?_|intro)
 exact hq _ _ (λK=>by simp[dM,bH.enc,gF,iP,bL];exact fl)
end
theorem NM(i:az)(s:aG)(t:Int)(u:1<=i.op)(h2:i.op<=28)(hr:∀r∈aC i,0<=r/\r<s.regs.length)(ht:s.taint.length=s.regs.length)(hs:∀r,(s.tnt r).length*8<=140737488355328):ao Tryz.prog 131 [.agg i.enc,.agg s.enc,.YJ t] (.agg (dM i s t).enc):=by
 obtain⟨op,ia,ib,ic,m,site⟩:=i;refine ac.fz (tF _ _ _ _ _ ?_);dsimp only at u h2;by_cases E:op=7
 .exact Vh hr ht hs (λv L h=>⟨_,[],aE.all (.aggs (h _)),rfl,rfl⟩) E
 by_cases B:op=9
 .exact Vi hr ht hs (λv L h=>⟨_,[],aE.all (.aggs (h _)),rfl,rfl⟩) B
 by_cases j:op=10
 .exact Vg hr ht hs (λv L h=>⟨_,[],aE.all (.aggs (h _)),rfl,rfl⟩) j
 by_cases D:op=8\/op=26
 .exact Vf hr ht hs (λv L h=>⟨_,[],aE.all (.aggs (h _)),rfl,rfl⟩) D
 exact Ve (λv L h=>⟨_,[],aE.all (.aggs (h _)),rfl,rfl⟩) u h2 YC
end
def bH.zero:bH:=⟨0,0,0,0,0,[],[]⟩
def gM(e:Option bH):AV:=match e with
 |some e=>.tup [.agg e.enc,.bool true]
 |none=>.tup [.agg bH.zero.enc,.bool false]
def u3(c:eG):Prop:=∀i∈c.ins,1<=i.op/\i.op<=28/\∀r∈aC i,0<=r/\r<c.regs
def iC{α:Type}{f:α->List AV}{l:List α}{i:Int}{d:α}(h:inB i l.length=true):(l.map f)[i.toNat]? =some (f (l.getD i.toNat d)):=by
 obtain⟨u,j⟩:=aw.1 h;have:i.toNat<l.length:=by omega
 simp[this]
def fO{α:Type}{l:List α}{i:Int}{d:α}(h:inB i l.length=true):l.getD i.toNat d∈l:=by
 obtain⟨u,j⟩:=aw.1 h;have:i.toNat<l.length:=by omega
 simp[this]
def SC{op:Int}(j:1<=op)(h2:op<=28):(iP.map (AV.YJ ·))[0+op.toNat*1]? =some (AV.YJ (gF op)):=by rcases ops op j h2 with rfl|rfl|rfl|rfl|rfl|rfl|rfl|rfl|rfl|rfl|rfl|rfl|rfl|rfl|rfl|rfl|rfl|rfl|rfl|rfl|rfl|rfl|rfl|rfl|rfl|rfl|rfl|rfl<;>rfl
def Ks(c:aL)(s:bU)(t:Int)(hi:∀x∈c.ts,u3 x)(hs:∀x∈s.threads,∀r,(x.tnt r).length*8<=140737488355328):ao Tryz.prog 81 [.agg c.enc,.agg s.enc,.YJ t] (gM (bS c s t)):=by
 refine ac.fz (A5 _ _ _ _ _ ?_);refine vw ?_;generalize hQ:(λ(v:AV) (L:SH)=>∃v2 L2,aE [v] L [v2] L2/\v2=gM (bS c s t)/\L2=[])=Q;have no:gX c s t=false->∀L,Q (.tup [.agg [.YJ 0,.YJ 0,.YJ 0,.YJ 0,.YJ 0,.nils,.nils],.bool false]) L:=λh L=>by subst hQ;exact⟨_,[],aE.all (Fz.tups (.cons (Fz.aggs (m:=bH.zero.enc) (by exact fl)) (.cons (.refl _) .nil))),by rw[bS,h];rfl,rfl⟩
 have B:bS c s t=none->∀L,Q (.tup [.agg [.YJ 0,.YJ 0,.YJ 0,.YJ 0,.YJ 0,.nils,.nils],.bool false]) L:=λh L=>by subst hQ;exact⟨_,[],aE.all (Fz.tups (.cons (Fz.aggs (m:=bH.zero.enc) (by exact fl)) (.cons (.refl _) .nil))),by rw[h];rfl,rfl⟩
 have j:∀e v,bS c s t=some e->(∀K,fi K v e.enc)->∀L,Q (.tup [.agg v,.bool true]) L:=λe v h hv L=>by subst hQ;exact⟨_,[],aE.all (Fz.tups (.cons (Fz.aggs (hv _)) (.cons (.refl _) .nil))),by rw[h];rfl,rfl⟩
 clear hQ;by_cases h0:inB t c.ts.length=true/\inB t s.threads.length=true/\inB t s.sync.threads.length=true
 .obtain⟨O,M,Z⟩:=h0;have x1:(c.ts.map eG.enc)[t.toNat]? =some (au c t).enc:=iC O;have x2:(s.threads.map aG.enc)[t.toNat]? =some (aB s t).enc:=iC M;have x3:(s.sync.threads.map ThrD.enc)[t.toNat]? =some (a7 s.sync t).enc:=iC Z;have G:u3 (au c t):=hi _ (fO O);have D:=hs _ (fO (d:=aG.zero) M);rw[show s.threads.getD t.toNat aG.zero=aB s t from rfl]at D;have hr:gX c s t=(inB (aB s t).pc (au c t).ins.length&&decide (((aB s t).regs.length:Int)=(au c t).regs)&&decide (((aB s t).taint.length:Int)=(au c t).regs)):=by simp only[gX,O,M,Z,X8]
  have i1':=aw.1 O;have i2':=aw.1 M;have i3':=aw.1 Z;have d1:decide (t<0)=false:=decide_eq_false YC;have d2:decide (t>=c.ts.length)=false:=decide_eq_false YC;have d3:decide (t>=s.threads.length)=false:=decide_eq_false YC;have d4:decide (t>=s.sync.threads.length)=false:=decide_eq_false YC;clear O M Z;unfold aL.enc bU.enc;by_cases S:gX c s t=true
  .have E:=S;rw[hr]at E;simp only[WZ,decide_eq_true_eq]at E;obtain⟨⟨Y,j2⟩,j3⟩:=E;have x4:((au c t).ins.map az.enc)[(aB s t).pc.toNat]? =some (bV (au c t) (aB s t).pc).enc:=co Y;have j1':=aw.1 Y;have d5:decide ((aB s t).pc<0)=false:=decide_eq_false YC;have d6:decide ((aB s t).pc>=(au c t).ins.length)=false:=decide_eq_false YC;have d7:decide (((aB s t).regs.length:Int)≠(au c t).regs)=false:=decide_eq_false (by simpa using j2);have d8:decide (((aB s t).taint.length:Int)≠(au c t).regs)=false:=decide_eq_false (by simpa using j3);obtain⟨o1,o2,o3⟩:=G _ (fO (d:=default) Y);rw[show(au c t).ins.getD (aB s t).pc.toNat default=bV (au c t) (aB s t).pc from rfl]at o1 o2 o3;have hp:bS c s t=(if(a7 s.sync t).status=1 then some ⟨t,1,-1,0,-1,[],[]⟩
    else if(a7 s.sync t).status=4 then some ⟨t,17,(a7 s.sync t).cond,0,(bV (au c t) (aB s t).pc).site,[],[]⟩
    else if(a7 s.sync t).status=2 then(if gF (bV (au c t) (aB s t).pc).op≠0 then some (dM (bV (au c t) (aB s t).pc) (aB s t) t)else none)
    else none):=by rw[bS,if_pos S]
   rw[hp]at j B;have hin:=NM (bV (au c t) (aB s t).pc) (aB s t) t o1 o2 (λr hr2=>by have:=o3 r hr2;omega) YC D;clear hp hr S no hs hi Y j2 j3 G D o3;have kd:=SC o1 o2;have h29:(bV (au c t) (aB s t).pc).op.toNat<29:=by omega
   have h00:0<=(bV (au c t) (aB s t).pc).op:=by omega
   generalize bV (au c t) (aB s t).pc=i at *;generalize au c t=ct at *;generalize aB s t=ts at *;generalize a7 s.sync t=th at *;obtain⟨op,ia,ib,ic,m,u⟩:=i;rw[show az.enc ⟨op,ia,ib,ic,m,u⟩=[.YJ op,.YJ ia,.YJ ib,.YJ ic,.YJ m,.YJ u]from rfl]at *;dsimp only at *;unfold eG.enc aG.enc ThrD.enc at *
   repeat' (first|refine sy ?_|refine Al h00 h29 ?_|refine Aj rfl kd ?_|refine s2 ?_ ?_|intro)
   .exact j _ _ (if_pos (by simpa using ‹decide (th.status=1)=true›)) (λK=>by exact fl) _
   .exact j _ _ (by rw[if_neg (by simpa using ‹decide (th.status=1)=false›),if_pos (by simpa using ‹decide (th.status=4)=true›)]) (λK=>by exact fl) _
   .refine j _ _ (by rw[if_neg (by simpa using ‹decide (th.status=1)=false›),if_neg (by simpa using ‹decide (th.status=4)=false›),if_pos (by simpa using ‹decide (th.status=2)=true›),if_pos (by simp_all)]) (λK=>?_) _;exact fl
   .refine B ?_ _;rw[if_neg (by simpa using ‹decide (th.status=1)=false›),if_neg (by simpa using ‹decide (th.status=4)=false›),if_pos (by simpa using ‹decide (th.status=2)=true›),if_neg (by simp_all)]
   .refine B ?_ _;rw[if_neg (by simpa using ‹decide (th.status=1)=false›),if_neg (by simpa using ‹decide (th.status=4)=false›),if_neg (by simpa using ‹decide (th.status=2)=false›)]
  .have hz:=no (by simpa using S);rw[hr]at S;generalize au c t=ct at *;generalize aB s t=ts at *;generalize a7 s.sync t=th at *;unfold eG.enc aG.enc ThrD.enc at *
   repeat' (first|refine sy ?_|refine s2 ?_ ?_|intro)
   all_goals first
    |exact hz _
    |(exfalso;simp_all[inB]<;>omega)
 .have hn:gX c s t=false:=by unfold gX;simp only[Bool.and_eq_false_iff];simp only[not_and,YB]at h0;cases h1:inB t c.ts.length<;>cases h2:inB t s.threads.length<;>simp_all
  have hz:=no hn;unfold aL.enc bU.enc
  repeat' (first|refine sy ?_|refine s2 ?_ ?_|intro)
  all_goals first
   |exact hz _
   |(exfalso;simp_all[inB]<;>omega)
def qg{b B i k n by_:Nat}{rows m:List (List AV)}{L D:SH}{KL:AV->SH->Prop}(O:(B,(⟨n,m⟩:Blk))∈L)(u:fQ b ⟨n,rows⟩ L D)(E:rows.length=i)(G:k=m.length)(h2:2*(i+m.length)*by_<=2^48)(S:2*(i+m.length)<=2^62)(h4:(m.all λr=>r.all AV.one)=true)
  (h:∀j,j∉L.names->KL (.sl j 0 (i+m.length)) ((j,⟨n,rows++m⟩)::D)):W.append n by_ (.sl b 0 i) (.sl B 0 k) L KL:=by
 subst G;subst E;exact lm (y:=⟨n,rows⟩) (l:=rows) u.mem' rfl YF YF (lq O rfl rfl) h2 S h4 u (λj M=>h j M)
def Rr(pc ev:Int)(g:AV)(t:List (List Int))(h1:t.length<=2^30)(Y:∀l∈t,l.length<=2^30)(x1 x2 x4 x5 x6:AV)(b bt:Nat)(R:SH)(E:W.Kn)
  (G:∀D,wU E ((D,⟨1,t.map bP⟩)::(b,⟨4,[[.YJ pc,g,.sl D 0 t.length,.YJ ev]]⟩)::R) x2 (.ptr b 0 0) x6 x1 x4 x5) :
  W.loop (wV E) [x1,x2,.ptr b 0 0,x4,x5,x6,.lst (t.map bP),.YJ t.length,.YJ (0:Nat)] ((bt,⟨1,[]⟩)::(b,⟨4,[[.YJ pc,g,.sl bt 0 0,.YJ ev]]⟩)::R):=by
 refine bF t.length (λk (D:Nat)=>([x1,x2,.ptr b 0 0,x4,x5,x6,.lst (t.map bP),.YJ t.length,.YJ k],(D,⟨1,(t.take k).map bP⟩)::(b,⟨4,[[.YJ pc,g,.sl D 0 k,.YJ ev]]⟩)::R)) (λ_ _=>True) bt trivial (.refl _ _) ?_;intro k D hk _;dsimp only;refine vw ?_;rcases Nat.lt_or_ge k t.length with B|B
 .have S:=a8 B;have Z:=aq (f:=bP) B;have M:(t[k]).length*8<=140737488355328:=by have:=Y _ (WN B);omega
  repeat' (first|refine st ?_|(refine pf 162 ?_;refine pm (dS _ M) ?_)|refine qg rp rp YH rfl YH YH rfl (λu j=>?_)|refine sb λu j=>?_|refine s2 (λh=>?_) λh=>?_|fail)
  refine⟨k+1,u,YC,YC,trivial,?_⟩;rw[ax B YC,LE B,WL];exact aE.forget (K:=[(_,_)]) (List.Perm.swap _ _ _)
 .have S:=bq B;have O:k=t.length:=by omega
  subst O;have:=G D;rw[W9 (Fd _)]
  repeat' (first|exact this|refine st ?_|refine sb λu j=>?_|refine s2 (λh=>?_) λh=>?_|fail)
def CL(q:Nat)(o:Option Nat)(tb:Nat)(j:Nat)(s:aG):List AV:=if j=q then [.YJ s.pc,aQ o s.regs.length,.sl tb 0 s.taint.length,.YJ s.ev]else s.enc
def jN(q:Nat)(o:Option Nat)(tb:Nat)(l:List aG):List (List AV):=l.zipIdx.map λp=>CL q o tb p.2 p.1
def ew(q:Nat)(o:Option Nat)(j:Nat)(l:List aG):(jN q o j l).length=l.length:=by simp[jN]
def u5(q:Nat)(o:Option Nat)(u:Nat)(l:List aG)(j:Nat)(B:j<l.length):(jN q o u l)[j]? =some (CL q o u j l[j]):=by simp[jN,B]
def A6(q:Nat)(o D:Option Nat)(E u:Nat)(l:List aG)(k:Nat)(G:k<l.length)(h:k<=q\/(o=D/\E=u)):(jN q D u l).take (k+1)=(jN q o E l).take k++[CL q D u k l[k]]:=by
 apply XW;intro j;rcases Nat.lt_trichotomy j k with B|B|B
 .rw[WW (by simp[ew];omega),Xt B,Xt YC,u5 _ _ _ _ _ YC,u5 _ _ _ _ _ YC];rcases h with h|⟨rfl,rfl⟩
  .simp[CL,show j≠q by omega]
  .rfl
 .subst B;rw[Xt YC,u5 _ _ _ _ _ G,WQ (by simp[ew];omega)];simp[ew,XF (Nat.le_of_lt G)]
 .rw[ST YH,ST (by simp[ew];omega)]
def qh(q:Nat)(o:Option Nat)(tb:Nat)(l:List aG)(k:Nat):SH:=if q<k then ab o 1 ((l.getD q aG.zero).regs.map ah)++[(tb,⟨1,(l.getD q aG.zero).taint.map bP⟩)]else []
structure SD(s:bU)(q:Nat)(v:AV)(L:SH):Prop where
 ex:∃(oc of:Option Nat) (bt:Nat) (o:Option Nat) (tb:Nat),v=.agg [.nils,.YJ 0,.nils,.nils,aQ oc s.cells.length,aQ of s.futures.length,.sl bt 0 s.threads.length]/\
  L=(bt,⟨4,jN q o tb s.threads⟩)::(qh q o tb s.threads s.threads.length++(ab oc 1 (s.cells.map ah)++ab of 1 (s.futures.map ah)))/\(oc=none->s.cells=[])/\(of=none->s.futures=[])/\(o=none->q<s.threads.length->(s.threads.getD q aG.zero).regs=[])
def ay:List AV:=[.nils,.YJ 0,.nils,.nils,.nils,.nils,.nils]
def P7(l:List aG)(q S b2 bt:Nat)(x y:AV)(hx:x=.lst []\/∃b n,x=.sl b 0 n)(hy:y=.lst []\/∃b n,y=.sl b 0 n)(E L0:SH)(hL0:L0.Perm ((bt,⟨4,[]⟩)::(b2,⟨7,[[.nils,.YJ 0,.nils,.nils,x,y,.sl bt 0 0]]⟩)::(S,⟨7,[ay]⟩)::E))(h1:l.length<=2^30)(hr:∀s∈l,s.regs.length<2^40/\s.taint.length<=2^30/\∀r∈s.taint,r.length<=2^30)(Q:R)
  (hend:∀(o:Option Nat) (D bt:Nat) (z:List AV),(o=none->q<l.length->(l.getD q aG.zero).regs=[])->Q (.agg [.nils,.YJ 0,.nils,.nils,x,y,.sl bt 0 l.length]) ((bt,⟨4,jN q o D l⟩)::(b2,⟨7,[[.nils,.YJ 0,.nils,.nils,x,y,.sl bt 0 l.length]]⟩)::(S,⟨7,[z]⟩)::(qh q o D l l.length++E))) :
  W.loop (mN Q) [.ptr S 0 0,.ptr b2 0 0,.lst (l.map aG.enc),.YJ l.length,.YJ (0:Nat)] L0:=by
 refine bF l.length (λk (p:Nat×Option Nat×Nat)=>([.ptr S 0 0,.ptr b2 0 0,.lst (l.map aG.enc),.YJ l.length,.YJ k],(p.1,⟨4,(jN q p.2.1 p.2.2 l).take k⟩)::(b2,⟨7,[[.nils,.YJ 0,.nils,.nils,x,y,.sl p.1 0 k]]⟩)::(S,⟨7,[ay]⟩)::(qh q p.2.1 p.2.2 l k++E))) (λk p=>p.2.1=none->q<k->(l.getD q aG.zero).regs=[]) (bt,none,0) (λ_ h=>by omega) (aE.forget (K:=[]) (by simpa[qh]using hL0)) ?_;rintro k ⟨bt,o,D⟩ hk ho;dsimp only at ho ⊢;refine vw ?_;rcases Nat.lt_or_ge k l.length with M|M
 .have hd:=a8 M;have hxx:=aq (f:=aG.enc) M;obtain⟨r1,r2,r3⟩:=hr _ (WN M);generalize hT:qh q o D l k++E=T;clear hx hy
  repeat' (first|refine st ?_|refine sb λB u=>?_|fail)
  refine AA (qL _ YC) (by simp[rm,rz,W.free,am]) ?_;rintro v K ⟨O,rfl,rfl,ho'⟩
  skip
  have fin:∀(Z Y nb G:Nat) (xa xb:Blk) (L:SH),wq L ((Z,xa)::(Y,xb)::(ab O 1 ((l[k]).regs.map ah)++[(G,⟨1,(l[k]).taint.map bP⟩)])) ((nb,⟨4,(jN q o D l).take k++[[.YJ (l[k]).pc,aQ O (l[k]).regs.length,.sl G 0 (l[k]).taint.length,.YJ (l[k]).ev]]⟩)::(b2,⟨7,[[.nils,.YJ 0,.nils,.nils,x,y,.sl nb 0 (k+1)]]⟩)::(S,⟨7,[ay]⟩)::T)->
    ∃(j:Nat) (p:Nat×Option Nat×Nat),k<j/\j<=l.length/\(p.2.1=none->q<j->(l.getD q aG.zero).regs=[])/\aE [.ptr S 0 0,.ptr b2 0 0,.lst (l.map aG.enc),.YJ l.length,.YJ (IntKind.i64.wrap ((k:Int)+1))] L
     [.ptr S 0 0,.ptr b2 0 0,.lst (l.map aG.enc),.YJ l.length,.YJ j] ((p.1,⟨4,(jN q p.2.1 p.2.2 l).take j⟩)::(b2,⟨7,[[.nils,.YJ 0,.nils,.nils,x,y,.sl p.1 0 j]]⟩)::(S,⟨7,[ay]⟩)::(qh q p.2.1 p.2.2 l j++E)):=by
   intro Z Y nb G xa xb L h;have hp:=h.perm.trans W1;subst hT;rw[ax M YC];by_cases hkq:k=q
   .subst hkq;refine⟨k+1,(nb,O,G),YC,YC,λe _=>by simpa[List.getD,M]using ho' e,?_⟩;dsimp only;rw[A6 k o O D G l k M (.inl (Nat.le_refl _))];have e1:qh k o D l k=[]:=by simp[qh]
    have e2:qh k O G l (k+1)=ab O 1 ((l[k]).regs.map ah)++[(G,⟨1,(l[k]).taint.map bP⟩)]:=by simp[qh,List.getD,M]
    have e3:CL k O G k l[k]=[.YJ (l[k]).pc,aQ O (l[k]).regs.length,.sl G 0 (l[k]).taint.length,.YJ (l[k]).ev]:=by simp[CL]
    rw[e1]at hp;rw[e2,e3];refine aE.forget (K:=[(Z,xa),(Y,xb)]) (hp.trans ?_);refine List.Perm.append_left [(Z,xa),(Y,xb)] ?_;exact List.perm_append_comm_assoc _ [_,_,_] E
   .refine⟨k+1,(nb,o,D),YC,YC,λe hq=>ho e YC,?_⟩;dsimp only;have e1:qh q o D l (k+1)=qh q o D l k:=by
     by_cases hq:q<k
     .simp[qh,hq,show q<k+1 by omega]
     .simp[qh,hq,show¬q<k+1 by omega]
    rw[e1,A6 q o o D D l k M (.inr ⟨rfl,rfl⟩)];refine aE.row hp YF ?_;intro j r r' q1 q2;rcases Fn j ((jN q o D l).take k).length with hj|hj
    .rw[WW hj]at q1 q2;rw[q1]at q2;cases q2;exact fi.refl _ _
    .rw[WQ hj]at q1 q2;rcases hm:j-((jN q o D l).take k).length with _|m
     .rw[hm]at q1 q2;cases q1;cases q2;rw[show CL q o D k l[k]=(l[k]).enc by simp[CL,hkq]];refine .cons (.refl _) (.cons ?_ (.cons ?_ (.cons (.refl _) .nil)))
      .exact gL rfl ho' λb e=>by subst e;simp[ab]
      .exact gL (o:=some G) rfl nofun λb e=>by cases e;simp
     .rw[hm]at q1;simp at q1
  cases O with
  |none=>
   dsimp only[aQ,ab,List.nil_append]
   repeat' (first|refine st ?_|refine sb λB u=>?_|fail)
   refine fY (i:=0) (j:=l[k].taint.length) YC YC YC (λbt2 _=>?_)
   repeat' (first|refine st ?_|refine sb λB u=>?_|fail)
   refine Rr l[k].pc l[k].ev _ l[k].taint r2 r3 _ _ _ _ _ _ bt2 _ _ (λG=>?_);refine vw ?_
   repeat' (first|refine st ?_|refine qg rp rp (by simp[ew];omega) rfl (by simp[ew];omega) (by simp[ew];omega) rfl (λB u=>?_)|refine sb λB u=>?_|fail)
   rename_i Z _ _ Y _;exact fin Z Y B G _ _ _ rp
  |some c'=>
   dsimp only[aQ,ab,List.cons_append,List.nil_append]
   repeat' (first|refine st ?_|refine sb λB u=>?_|fail)
   refine fY (i:=0) (j:=l[k].taint.length) YC YC YC (λbt2 _=>?_)
   repeat' (first|refine st ?_|refine sb λB u=>?_|fail)
   refine Rr l[k].pc l[k].ev _ l[k].taint r2 r3 _ _ _ _ _ _ bt2 _ _ (λG=>?_);refine vw ?_
   repeat' (first|refine st ?_|refine qg rp rp (by simp[ew];omega) rfl (by simp[ew];omega) (by simp[ew];omega) rfl (λB u=>?_)|refine sb λB u=>?_|fail)
   rename_i Z _ _ Y _;exact fin Z Y B G _ _ _ rp
 .have hd:=bq M;have hk0:k=l.length:=by omega
  subst hk0;have:=λz=>hend o D bt z ho
  rw[W9 (by rw[ew];exact Fd _)];unfold ay;rcases hx with rfl|⟨_,_,rfl⟩<;>rcases hy with rfl|⟨_,_,rfl⟩
  all_goals
   repeat' (first|refine st ?_|refine sb λB u=>?_|refine s2 (λh=>?_) λh=>?_|fail)
   exact this _
def u6(o:Option Nat)(n:Nat):aQ o n=.lst []\/∃b m,aQ o n=.sl b 0 m:=by
 cases o with
 |none=>exact .inl rfl
 |some b=>exact .inr ⟨b,n,rfl⟩
def P8(s:bU)(q:Nat)(h1:s.threads.length<=2^30)(h2:s.cells.length<2^40)(h3:s.futures.length<2^40)(hr:∀e∈s.threads,e.regs.length<2^40/\e.taint.length<=2^30/\∀r∈e.taint,r.length<=2^30):
  ac Tryz.prog 111 [.agg s.enc] [] (SD s q):=by
 refine ac.fz (wW _ _ _ ?_);refine vw ?_;generalize hQ:(λ(v:AV) (L:SH)=>∃v2 L2,aE [v] L [v2] L2/\SD s q v2 L2)=Q;unfold bU.enc
 repeat' (first|refine st ?_|refine sb λu D=>?_|fail)
 revert u;intro Z _;refine AA (qL s.cells YC) (by simp[rm,rz,W.free,am]) ?_;rintro v K ⟨O,rfl,rfl,hoc⟩
 skip
 have S:∀(G:Option Nat) (Y M:Nat) (L:SH),(G=none->s.futures=[])->wq L ((M,⟨4,[]⟩)::(Y,⟨7,[[.nils,.YJ 0,.nils,.nils,aQ O s.cells.length,aQ G s.futures.length,.sl M 0 0]]⟩)::(Z,⟨7,[ay]⟩)::(ab O 1 (s.cells.map ah)++ab G 1 (s.futures.map ah))) []->
   W.loop (mN Q) [.ptr Z 0 0,.ptr Y 0 0,.lst (s.threads.map aG.enc),.YJ s.threads.length,.YJ (0:Nat)] L:=by
  intro G Y M L B hL;refine P7 s.threads q Z Y M _ _ (u6 _ _) (u6 _ _) _ L (by simpa using hL.perm) h1 hr Q ?_;intro o tb M z ho;subst hQ;refine⟨_,_,aE.forget (K:=[(Y,_),(Z,_)]) (R:=(M,⟨4,jN q o tb s.threads⟩)::(qh q o tb s.threads s.threads.length++(ab O 1 (s.cells.map ah)++ab G 1 (s.futures.map ah)))) ((List.Perm.swap _ _ _).trans ((List.Perm.swap _ _ _).cons _)),⟨O,G,M,o,tb,rfl,rfl,hoc,B,ho⟩⟩
 cases O
 all_goals
  dsimp only[aQ,ab,List.nil_append,List.cons_append]at S ⊢
  repeat' (first|refine st ?_|refine sb λu D=>?_|fail)
  refine AA (qL s.futures YC) (by simp[rm,rc,rz,W.free,am]) ?_;rintro v K ⟨G,rfl,rfl,B⟩
  skip
  cases G
  all_goals
   dsimp only[aQ,ab,List.nil_append,List.cons_append]
   repeat' (first|refine st ?_|refine sb λu D=>?_|fail)
   refine fY (i:=0) (j:=s.threads.length) YC YC YC (λE _=>?_)
   repeat' (first|refine st ?_|refine sb λu D=>?_|fail)
 .exact S none u E _ B rp
 .exact S (some _) u E _ B rp
 .exact S none u E _ B rp
 .exact S (some _) u E _ B rp
section
def cy:List AV:=[.YJ 0,.YJ 0,.YJ 0,.YJ 0,.YJ 0,.nils,.nils]
theorem eE{α:Type}{l:List α}{n:Nat}(r:α)(h:n<l.length):(l.set n r)[n]? =some r:=by simp[h]
theorem aE.rowV{vs u:List AV}{L K R:SH}{b n:Nat}{rows rows':List (List AV)}(Y:L.Perm (K++(b,⟨n,rows⟩)::R))(G:fi K vs u)(B:rows.length=rows'.length)(S:∀(j:Nat) (r E:List AV),rows[j]? =some r->rows'[j]? =some E->fi K r E):aE vs L u ((b,⟨n,rows'⟩)::R):=by
 refine⟨K,(b,⟨n,rows⟩)::R,Y,⟨G.at_.1,G.at_.2⟩,rfl,λi p q h1 D=>?_⟩
 match i with
 |0=>cases h1;cases D;exact⟨rfl,rfl,B,λj s s2 g1 g2=>(S j s s2 g1 g2).at_⟩
 |i+1=>simp only[X5]at h1 D;rw[h1]at D;cases D;exact⟨rfl,rfl,rfl,λj r r2 h3 O=>by rw[h3]at O;cases O;exact⟨rfl,λk a a2 Z M=>by rw[Z]at M;cases M;exact .refl _⟩⟩
theorem SE{α:Type}(B K j u:List α)(x:α)(h:u.Perm (K++j)):(B++x::u).Perm (K++x::(B++j)):=
 XV.trans ((((h.append_left B).trans (List.perm_append_comm_assoc _ _ _)).cons x).trans XV.symm)
theorem SF{α:Type}(A B K j u:List α)(x:α)(h:(A++u).Perm (K++j)):(A++(B++x::u)).Perm (K++x::(B++j)):=
 (List.perm_append_comm_assoc A B _).trans ((XV.append_left B).trans (SE B K j (A++u) x h))
section
variable (c:aL) (l:List aG) (t wake:Int) (h1:inB t l.length=true) (hc:inB t c.ts.length=true) (p pc0 ev0:Int) (rg:List Int) (tn:List (List Int)) (g1 g2:AV) (sy_:SyncD) (x y:AV) (hx:x=.lst []\/∃b n,x=.sl b 0 n) (hy:y=.lst []\/∃b n,y=.sl b 0 n)
 (e1 ek eo ev es:Int) (d f:List Int) (b132 b24 b8 b6 bt:Nat) (K RZ RR A:SH) (hA:A=[]\/∃q,A=[q]) (hR:(A++RR).Perm (K++RZ)) (hg:Fz K g1 (.lst (rg.map ah))) (hg2:Fz K g2 (.lst (tn.map bP)))
 (hn1:b24≠b6) (go1:g1.one=true) (go2:g2.one=true) (Q:R)
include h1 hc hn1 hx hy hA hR hg hg2
theorem Vj (zs : List AV) (hzs : zs = ay) (ze : List AV) (hze : ze = cy) (Y : ao Tryz.prog 112 [.agg (au c t).enc, .agg (aG.mk p rg tn (IntKind.i64.wrap (ev0 + 1))).enc] (nR (bu (au c t) ⟨p, rg, tn, IntKind.i64.wrap (ev0 + 1)⟩)))
    (G:(ek=16\/ek=2)->∀L,(bt,⟨4,(l.map aG.enc).set t.toNat [.YJ p,g1,g2,.YJ (IntKind.i64.wrap (ev0+1))]⟩)∈L->(∀q∈RR,q∈L)->Q (.tup [.agg [.lst (sy_.locks.map LockD.enc),.YJ sy_.tx,.lst (sy_.done.map aD),.lst (sy_.threads.map ThrD.enc),x,y,.sl bt 0 l.length],.agg [.YJ e1,.YJ ek,.YJ eo,.YJ ev,.YJ es,.lst (d.map ah),.lst (f.map ah)],.bool true]) L)
    (D:(ek≠16/\ek≠2)->∀th,bu (au c t) ⟨p,rg,tn,IntKind.i64.wrap (ev0+1)⟩=(th,true)->∀L,(bt,⟨4,(l.map aG.enc).set t.toNat th.enc⟩)∈L->(∀q∈RZ,q∈L)->Q (.tup [.agg [.lst (sy_.locks.map LockD.enc),.YJ sy_.tx,.lst (sy_.done.map aD),.lst (sy_.threads.map ThrD.enc),x,y,.sl bt 0 l.length],.agg [.YJ e1,.YJ ek,.YJ eo,.YJ ev,.YJ es,.lst (d.map ah),.lst (f.map ah)],.bool true]) L)
    (u:(ek≠16/\ek≠2)->(bu (au c t) ⟨p,rg,tn,IntKind.i64.wrap (ev0+1)⟩).2=false->∀L,Q (.tup [.agg ay,.agg cy,.bool false]) L) :
    cI Q [.pptr [c.enc] 0 0,.pptr [[.YJ t,.YJ wake]] 0 0,.ptr b6 0 0,.ptr b8 0 0,.ptr b24 0 0,.ptr b132 0 0,.ptr bt t.toNat 0,.YJ p]
      (A++(b132,⟨7,[[.lst (sy_.locks.map LockD.enc),.YJ sy_.tx,.lst (sy_.done.map aD),.lst (sy_.threads.map ThrD.enc),x,y,.sl bt 0 l.length]]⟩)::(b24,⟨7,[[.YJ e1,.YJ ek,.YJ eo,.YJ ev,.YJ es,.lst (d.map ah),.lst (f.map ah)]]⟩)::(b8,⟨7,[ze]⟩)::(b6,⟨7,[zs]⟩)::(bt,⟨4,(l.map aG.enc).set t.toNat [.YJ pc0,g1,g2,.YJ ev0]⟩)::RR):=by
  obtain⟨i1,i2⟩:=aw.1 h1;have E:t.toNat<(l.map aG.enc).length:=by simp;omega
  have x1:(c.ts.map eG.enc)[t.toNat]? =some (au c t).enc:=iC hc;have y1:=aw.1 hc;have s0:=eE [AV.YJ pc0,g1,g2,.YJ ev0] E;have s1:=eE (l:=(l.map aG.enc).set t.toNat [.YJ pc0,g1,g2,.YJ ev0]) [AV.YJ p,g1,g2,.YJ ev0] (by rw[Yd];exact E);have s2:=eE (l:=((l.map aG.enc).set t.toNat [.YJ pc0,g1,g2,.YJ ev0]).set t.toNat [.YJ p,g1,g2,.YJ ev0]) [AV.YJ p,g1,g2,.YJ (IntKind.i64.wrap (ev0+1))] (by rw[Yd,Yd];exact E);subst hzs;subst hze;unfold ay cy;refine vw ?_;unfold aL.enc;generalize hE:bu (au c t) ⟨p,rg,tn,IntKind.i64.wrap (ev0+1)⟩=z at *;by_cases hk:ek=16\/ek=2
  · have G:=G hk
    clear D u;have fin:∀(x y:AV) (L:SH),True:=λ_ _ _=>trivial
    rcases hk with rfl|rfl<;>rcases hA with rfl|⟨q,rfl⟩<;>rcases hx with rfl|⟨_,_,rfl⟩<;>rcases hy with rfl|⟨_,_,rfl⟩
    all_goals
      dsimp only[List.nil_append,List.cons_append]
      repeat' (first|refine sy ?_|refine s2 ?_ ?_|intro)
      refine G _ ?_ (λq Z=>by simp[Z]);simp[List.set_set]
  · have d1:decide (ek≠16)=true:=decide_eq_true YC
    have d2:decide (ek≠2)=true:=decide_eq_true YC;have D:=D YC;have u:=u YC;clear G;have hz : ∀ B : SH, aE [.agg (au c t).enc, .agg [.YJ p, g1, g2, .YJ (IntKind.i64.wrap (ev0 + 1))]] (A ++ (B ++ (bt, ⟨4, (((l.map aG.enc).set t.toNat [.YJ pc0, g1, g2, .YJ ev0]).set t.toNat [.YJ p, g1, g2, .YJ ev0]).set t.toNat [.YJ p, g1, g2, .YJ (IntKind.i64.wrap (ev0 + 1))]⟩) :: RR))
        [.agg (au c t).enc,.agg (aG.mk p rg tn (IntKind.i64.wrap (ev0+1))).enc] ((bt,⟨4,(l.map aG.enc).set t.toNat (aG.mk p rg tn (IntKind.i64.wrap (ev0+1))).enc⟩)::(B++RZ)):=λB=>by
      have M:fi K [.YJ p,g1,g2,.YJ (IntKind.i64.wrap (ev0+1))] (aG.mk p rg tn (IntKind.i64.wrap (ev0+1))).enc:=.cons (.refl _) (.cons hg (.cons hg2 (.cons (.refl _) .nil)));refine aE.rowV (SF A B K RZ RR _ hR) (.cons (.refl _) (.cons (Fz.aggs M) .nil)) YF ?_;intro j r r' S O;simp only[List.set_set]at S;rw[Xc]at S O;by_cases hj:t.toNat=j
      · rw[if_pos hj,if_pos E]at S O
        cases S;cases O;exact M
      · rw[if_neg hj]at S O
        rw[S]at O;cases O;exact fi.refl _ _
    have s3:=eE (aG.mk p rg tn (IntKind.i64.wrap (ev0+1))).enc E;obtain⟨th,ok⟩:=z;rcases hA with rfl|⟨q,rfl⟩
    · rcases ok with _|_<;>rcases hx with rfl|⟨_,_,rfl⟩<;>rcases hy with rfl|⟨_,_,rfl⟩
      all_goals
        dsimp only[List.nil_append,List.cons_append]
        repeat' (first|refine sy ?_|refine s2 ?_ ?_|intro)
        refine nM (ac.pre (hz [_,_,_,_]) (Y.call (KL:=λv K'=>v=_/\K'=_) ⟨rfl,rfl⟩)) ?_;rintro _ _ ⟨rfl,rfl⟩;unfold nR;dsimp only[List.nil_append,List.cons_append]
        repeat' (first|refine sy ?_|refine s2 ?_ ?_|intro)
        first
          |exact u rfl _
          | (refine D _ rfl _ ?_ (fun q Z => by simp [Z])
             simp[List.set_set])
    · rcases ok with _|_<;>rcases hx with rfl|⟨_,_,rfl⟩<;>rcases hy with rfl|⟨_,_,rfl⟩
      all_goals
        dsimp only[List.nil_append,List.cons_append]
        repeat' (first|refine sy ?_|refine s2 ?_ ?_|intro)
        refine nM (ac.pre (hz [_,_,_,_]) (Y.call (KL:=λv K'=>v=_/\K'=_) ⟨rfl,rfl⟩)) ?_;rintro _ _ ⟨rfl,rfl⟩;unfold nR;dsimp only[List.nil_append,List.cons_append]
        repeat' (first|refine sy ?_|refine s2 ?_ ?_|intro)
        first
          |exact u rfl _
          | (refine D _ rfl _ ?_ (fun q Z => by simp [Z])
             simp[List.set_set])
end
end
section
def bU.zero:bU:=⟨Kk,[],[],[]⟩
def jp(r:Option (bU×bH)):AV:=match r with
 |some r=>.tup [.agg r.1.enc,.agg r.2.enc,.bool true]
 |none=>.tup [.agg bU.zero.enc,.agg bH.zero.enc,.bool false]
def lY(c:aL)(s:bU)(t:Int)(r1:SyncD)(e:bH)(a:P6):Option (bU×bH):=
 if e.kind≠16/\e.kind≠2 then
  (if(bu (au c t) a.thread).2 then some (⟨r1,a.cells,a.futures,s.threads.set t.toNat (bu (au c t) a.thread).1⟩,{e with value:=a.value})else none)
 else some (⟨r1,a.cells,a.futures,s.threads.set t.toNat a.thread⟩,{e with value:=a.value})
theorem mO(K:SH):Fz K (.tup [.agg ay,.agg cy,.bool false]) (jp none):=
 Fz.tups (.cons (Fz.aggs (by unfold ay bU.zero bU.enc Kk;exact fl)) (.cons (Fz.aggs (by unfold cy bH.zero bH.enc;exact fl)) (.cons (.refl _) .nil)))
theorem E7{α:Type}{f:α->List AV}{L:SH}{bt n m:Nat}{l:List α}{k:Nat}{r:List AV}{y:α}(Z:0<n)(G:m=l.length)(hk:k<l.length)(hm:(bt,(⟨n,(l.map f).set k r⟩:Blk))∈L)(Y:fi L r (f y)):Fz L (.sl bt 0 m) (.lst ((l.set k y).map f)):=by
 subst G;have E:∀(j:Nat) (x D:List AV),((l.map f).set k r)[0+j]? =some x->((l.set k y).map f)[j]? =some D->fi L x D:=by
  intro j x D B u;rw[XI]at u;rw[Xn]at B;rw[Xc]at B u;by_cases M:k=j
  .rw[if_pos M,if_pos (by simpa using hk)]at B u;cases B;cases u;exact Y
  .rw[if_neg M]at B u;rw[B]at u;cases u;exact fi.refl _ _
 exact .sl bt 0 l.length _ _ hm Z YC YF YF (λj x D B u=>(E j x D B u).at_.1) (λj x D q a a2 B u S O=>(E j x D B u).at_.2 q a a2 S O)
theorem I0{L:SH}{bt:Nat}{l:List aG}{k:Nat}{r:List AV}{th:aG}(B:k<l.length)(u:(bt,(⟨4,(l.map aG.enc).set k r⟩:Blk))∈L)(j:fi L r th.enc):Fz L (.sl bt 0 l.length) (.lst ((l.set k th).map aG.enc)):=E7 YG rfl B u j
theorem Hj{L:SH}{o:Option Nat}{l:List Int}{n:Nat}(j:n=l.length)(D:o=none->l=[])(u:∀b,o=some b->∃rows,rows=l.map ah/\(b,(⟨1,rows⟩:Blk))∈L):Fz L (aQ o n) (.lst (l.map ah)):=
 gL j D λb B=>by obtain⟨rows,rfl,h⟩:=u b B;exact h
section
variable (c:aL) (s:bU) (t wake:Int) (h1:inB t s.threads.length=true) (hc:inB t c.ts.length=true) (sy:SyncD) (e:bH) (a:P6) (b132 b24 b8 b6 bt:Nat) (oc of:Option Nat) (K RZ RR A:SH) (hA:A=[]\/∃q,A=[q]) (hA0:e.kind=16\/e.kind=2->A=[]) (hR:(A++RR).Perm (K++RZ))
 (g1 g2:AV) (hg:∀L:SH,(∀q∈K,q∈L)->Fz L g1 (.lst (a.thread.regs.map ah))) (hg2:∀L:SH,(∀q∈K,q∈L)->Fz L g2 (.lst (a.thread.taint.map bP))) (hn1:b24≠b6)
 (hoc:oc=none->a.cells=[]) (hof:of=none->a.futures=[]) (hmc:∀b,oc=some b->∃rows,rows=a.cells.map ah/\(b,(⟨1,rows⟩:Blk))∈RZ) (hmf:∀b,of=some b->∃rows,rows=a.futures.map ah/\(b,(⟨1,rows⟩:Blk))∈RZ)
 (hse:ao Tryz.prog 112 [.agg (au c t).enc,.agg a.thread.enc] (nR (bu (au c t) a.thread))) (pc0 ev0:Int) (hev:a.thread.ev=IntKind.i64.wrap (ev0+1)) (Q:R) (hq:∀v L,Fz L v (jp (lY c s t sy e a))->Q v L)
include h1 hc hA hA0 hR hg hg2 hn1 hoc hof hmc hmf hse hev hq
theorem A7 : cI Q [.pptr [c.enc] 0 0, .pptr [[.YJ t, .YJ wake]] 0 0, .ptr b6 0 0, .ptr b8 0 0, .ptr b24 0 0, .ptr b132 0 0, .ptr bt t.toNat 0, .YJ a.thread.pc]
      (A++(b132,⟨7,[[.lst (sy.locks.map LockD.enc),.YJ sy.tx,.lst (sy.done.map aD),.lst (sy.threads.map ThrD.enc),aQ oc a.cells.length,aQ of a.futures.length,.sl bt 0 s.threads.length]]⟩)::(b24,⟨7,[{e with value:=a.value}.enc]⟩)::(b8,⟨7,[cy]⟩)::(b6,⟨7,[ay]⟩)::(bt,⟨4,(s.threads.map aG.enc).set t.toNat [.YJ pc0,g1,g2,.YJ ev0]⟩)::RR):=by
  obtain⟨i1,i2⟩:=aw.1 h1;have hlt:t.toNat<s.threads.length:=by omega
  obtain⟨va,ce,fu,⟨p,rg,tn,ev⟩⟩:=a;obtain⟨e1,ek,eo,v0,es,d,f⟩:=e;dsimp only at *;subst hev;have ends : ∀ (th : aG) (L : SH), lY c s t sy ⟨e1, ek, eo, v0, es, d, f⟩ ⟨va, ce, fu, ⟨p, rg, tn, IntKind.i64.wrap (ev0 + 1)⟩⟩ = some (⟨sy, ce, fu, s.threads.set t.toNat th⟩, ⟨e1, ek, eo, va, es, d, f⟩)→
      Fz L (.sl bt 0 s.threads.length) (.lst ((s.threads.set t.toNat th).map aG.enc))→(∀q∈RZ,q∈L)→
      Q (.tup [.agg [.lst (sy.locks.map LockD.enc),.YJ sy.tx,.lst (sy.done.map aD),.lst (sy.threads.map ThrD.enc),aQ oc ce.length,aQ of fu.length,.sl bt 0 s.threads.length],.agg [.YJ e1,.YJ ek,.YJ eo,.YJ va,.YJ es,.lst (d.map ah),.lst (f.map ah)],.bool true]) L:=by
    intro th L hf h2 hz;refine hq _ _ ?_;rw[hf];refine Fz.tups (.cons (Fz.aggs ?_) (.cons (.refl _) (.cons (.refl _) .nil)));refine .cons (.refl _) (.cons (.refl _) (.cons (.refl _) (.cons (.refl _) (.cons ?_ (.cons ?_ (.cons h2 .nil))))))
    · exact Hj rfl hoc λb hb=>by obtain⟨rows,e,h⟩:=hmc b hb;exact⟨rows,e,hz _ h⟩
    · exact Hj rfl hof λb hb=>by obtain⟨rows,e,h⟩:=hmf b hb;exact⟨rows,e,hz _ h⟩
  refine Vj c s.threads t wake h1 hc p pc0 ev0 rg tn g1 g2 sy _ _ (u6 _ _) (u6 _ _) e1 ek eo va es d f b132 b24 b8 b6 bt K RZ RR A hA hR (hg _ λq h=>h) (hg2 _ λq h=>h) hn1 Q _ rfl _ rfl hse ?_ ?_ ?_
  · intro hk L hm hL
    have hA1:=hA0 hk;subst hA1;have hsub:∀q∈K++RZ,q∈L:=λq h=>hL q (by simpa using hR.mem_iff.2 h)
    refine ends ⟨p,rg,tn,IntKind.i64.wrap (ev0+1)⟩ L (by unfold lY;rw[if_neg (by dsimp only;omega)]) (I0 hlt hm ?_) λq h=>hsub q (by simp[h])
    exact .cons (.refl _) (.cons (hg _ λq h=>hsub q (by simp[h])) (.cons (hg2 _ λq h=>hsub q (by simp[h])) (.cons (.refl _) .nil)))
  · intro hk th hth L hm hL
    refine ends th L (by unfold lY;rw[if_pos hk];dsimp only;rw[hth];rfl) (I0 hlt hm (fi.refl _ _)) hL
  · intro hk h2 L
    refine hq _ _ ?_;rw[show lY c s t sy ⟨e1,ek,eo,v0,es,d,f⟩ ⟨va,ce,fu,⟨p,rg,tn,IntKind.i64.wrap (ev0+1)⟩⟩=none by unfold lY;rw[if_pos hk];dsimp only;rw[h2];rfl];exact mO L
end
end
section
theorem cO{B:SH->Prop}{n b i j:Nat}{v:AV}{x:Blk}{r cs:List AV}{L u:SH}(D:zt b x ⟨x.size,x.rows.set i (bL r j cs)⟩ L u)(h1:x.rows[i]? =some r)(h2:v.cells? =some cs)(G:cs.length=n)(h4:cs.all AV.one=true)(E:j+n<=r.length)(h:B u):W.store n (.ptr b i j) v L B:=⟨x,r,cs,u,h1,h2,G,h4,E,D,h⟩
theorem bz{n b m:Nat}{k:IntKind}{i:Int}{y:Blk}{L:SH}{K:AV->Prop}(u:0<=i)(h1:i.toNat<m)(j:(b,y)∈L)(h2:y.size=n)(h:K (.ptr b i.toNat 0)):W.idx n (.sl b 0 m) (.int k i) L K:=Ew u h1 j h2 (by rw[Xn];exact h)
def jF(Q:R)(L168:SH)(x132 x24 x142 x167 x171 x10 x14 x6 x8 x177 x115:AV):Prop:=
 K9 1 x24 L168 λx269=>wb .eql 3 x269 (.YJ 3) λx270=>wk x270 (He (cI Q) L168 x132 x24 x142 x167 x171 x10 x14 x6 x8 x177) (E5 (cI Q) L168 x269 x132 x24 x142 x167 x171 x10 x14 x6 x8 x177 x115)
section
variable (c:aL) (s:bU) (t wake:Int) (h1:inB t s.threads.length=true) (hc:inB t c.ts.length=true) (th:aG) (hth:aB s t=th) (i:az) (hi:bV (au c t) th.pc=i) (hpc:inB th.pc (au c t).ins.length=true) (sy_:SyncD) (sv:Int) (e:bH) (b132 b24 b8 b6 bt tb:Nat) (o oc of:Option Nat) (hn1:b24≠b6) (hn2:b24∉SH.names ((b8,(⟨7,[cy]⟩:Blk))::[]) ) (ho:o=none->th.regs=[]) (hoc:oc=none->s.cells=[]) (hof:of=none->s.futures=[]) (Q:R)
def dF(th:aG)(tb:Nat)(o:Option Nat):List AV:=[.YJ th.pc,aQ o th.regs.length,.sl tb 0 th.taint.length,.YJ th.ev]
def jq(s:bU)(th:aG)(tb:Nat)(o oc of:Option Nat):SH:=ab o 1 (th.regs.map ah)++(tb,⟨1,th.taint.map bP⟩)::(ab oc 1 (s.cells.map ah)++ab of 1 (s.futures.map ah))
def kz(s:bU)(t:Int)(th:aG)(e:bH)(b24 b8 b6 bt tb:Nat)(o:Option Nat)(RR:SH):SH:=
 (b24,⟨7,[e.enc]⟩)::(b8,⟨7,[cy]⟩)::(b6,⟨7,[ay]⟩)::(bt,⟨4,(s.threads.map aG.enc).set t.toNat (dF th tb o)⟩)::RR
def iM(s:bU)(sy_:SyncD)(bt:Nat)(oc of:Option Nat):List AV:=[.lst (sy_.locks.map LockD.enc),.YJ sy_.tx,.lst (sy_.done.map aD),.lst (sy_.threads.map ThrD.enc),aQ oc s.cells.length,aQ of s.futures.length,.sl bt 0 s.threads.length]
include h1 hc hth hi hpc
theorem SG(E:SH)(h:∀b132,jF Q ((b132,⟨7,[iM s sy_ bt oc of]⟩)::kz s t th e b24 b8 b6 bt tb o E) (.ptr b132 0 0) (.ptr b24 0 0) (.ptr bt t.toNat 0) (.pptr [i.enc] 0 0) (.YJ th.ev) (.pptr [c.enc] 0 0) (.pptr [[.YJ t,.YJ wake]] 0 0) (.ptr b6 0 0) (.ptr b8 0 0) (.YJ (IntKind.i64.wrap (th.pc+1))) (.YJ sv)):
  xV Q (.pptr [sy_.enc] 0 0) (.pptr [[.YJ t,.YJ wake]] 0 0) (.pptr [c.enc] 0 0) (.ptr b24 0 0) (.ptr b6 0 0) (.ptr b8 0 0) (.YJ sv) (.agg [.nils,.YJ 0,.nils,.nils,aQ oc s.cells.length,aQ of s.futures.length,.sl bt 0 s.threads.length]) (kz s t th e b24 b8 b6 bt tb o E):=by
 obtain⟨O,i2⟩:=aw.1 h1;have u:t.toNat<(s.threads.map aG.enc).length:=by simp;omega
 have G:(c.ts.map eG.enc)[t.toNat]? =some (au c t).enc:=iC hc;have Y:=aw.1 hc;have Z:((au c t).ins.map az.enc)[th.pc.toNat]? =some i.enc:=by rw[<-hi];exact co hpc
 have S:=aw.1 hpc;have M:=eE (dF th tb o) u;unfold dF at M;unfold SyncD.enc;refine vw ?_;unfold kz dF iM at *;unfold jF at h;have D:c.enc=[.lst (c.w.cells.map aH.enc),.lst (c.w.locks.map bv.enc),.lst (c.w.conds.map bO.enc),.lst (c.w.futures.map av),.lst (c.w.threads.map av),.lst (c.w.sites.map bM.enc),.lst (c.ts.map eG.enc)]:=rfl;rw[D]at *;have B:(au c t).enc=[.YJ (au c t).regs,.lst ((au c t).ins.map az.enc)]:=rfl;rw[B]at G;cases oc
 all_goals cases of
 all_goals
  dsimp only[aQ]at *;have j:t.toNat<s.threads.length:=by omega
  repeat' (first|exact h _|refine bz O j rp rfl ?_|refine sy ?_|refine cO rp YE YE YE YE YF ?_|refine s2 ?_ ?_|intro)
end
end
section
section
variable (c:aL) (s:bU) (t wake:Int) (h1:inB t s.threads.length=true) (hc:inB t c.ts.length=true) (th:aG) (i:az) (sy_:SyncD) (sv:Int) (e:bH) (b132 b24 b8 b6 bt tb:Nat) (o oc of:Option Nat) (hn1:b24≠b6) (ho:o=none->th.regs=[]) (hoc:oc=none->s.cells=[]) (hof:of=none->s.futures=[])
 (htn:th.taint.length=th.regs.length) (hse:ao Tryz.prog 112 [.agg (au c t).enc,.agg (cG i e s th sv).thread.enc] (nR (bu (au c t) (cG i e s th sv).thread))) (Q:R) (hq:∀v L,Fz L v (jp (lY c s t sy_ e (cG i e s th sv)))->Q v L)
def kB(c:aL)(s:bU)(t wake:Int)(th:aG)(i:az)(sy_:SyncD)(sv:Int)(e:bH)(b132 b24 b8 b6 bt tb:Nat)(o oc of:Option Nat)(Q:R):Prop:=
 jF Q ((b132,⟨7,[iM s sy_ bt oc of]⟩)::kz s t th e b24 b8 b6 bt tb o (jq s th tb o oc of)) (.ptr b132 0 0) (.ptr b24 0 0) (.ptr bt t.toNat 0) (.pptr [i.enc] 0 0) (.YJ th.ev) (.pptr [c.enc] 0 0) (.pptr [[.YJ t,.YJ wake]] 0 0) (.ptr b6 0 0) (.ptr b8 0 0) (.YJ (IntKind.i64.wrap (th.pc+1))) (.YJ sv)
include h1 hc hn1 ho hoc hof htn hse hq
theorem Wp(hk:e.kind=3)(E:0<=i.a/\i.a<th.regs.length)(M:inB e.obj s.cells.length=true):kB c s t wake th i sy_ sv e b132 b24 b8 b6 bt tb o oc of Q:=by
 have O:cG i e s th sv=⟨jW s.cells e.obj,s.cells,s.futures,⟨IntKind.i64.wrap (th.pc+1),th.regs.set i.a.toNat (jW s.cells e.obj),th.taint.set i.a.toNat [th.ev],IntKind.i64.wrap (th.ev+1)⟩⟩:=by simp[cG,hk]
 rw[O]at hse hq;obtain⟨e1,ek,D,v0,es,d,f⟩:=e;obtain⟨op,B,ib,ic,m,site⟩:=i;dsimp only at *;subst hk;have j:=aw.1 M;have hi1:=aw.1 h1;cases o with
 |none=>rw[ho rfl]at E;simp at E;omega
 |some Y=>
  cases oc with
  |none=>rw[hoc rfl]at j;simp at j;omega
  |some G=>
   unfold kB jF kz jq iM dF;obtain⟨J,hJ⟩:∃J,J=cI Q:=⟨_,rfl⟩;rw[<-hJ];have s0:=eE (dF th tb (some Y)) (l:=s.threads.map aG.enc) (n:=t.toNat) YH;unfold dF at s0;dsimp only[aQ,ab,List.cons_append,List.nil_append]at *;have y1:=ky (s:=th) E.1 E.2;have y2:=nX (s:=th) E.1 YC;have y3:(s.cells.map ah)[D.toNat]? =some [.YJ (jW s.cells D)]:=iC M;have z1:B.toNat<th.regs.length:=by omega
   have z2:B.toNat<th.taint.length:=by omega
   have z3:D.toNat<s.cells.length:=by omega
   repeat' (first|refine bz E.1 z1 rp rfl ?_|refine bz E.1 z2 rp rfl ?_|refine bz j.1 z3 rp rfl ?_|refine DF (bz j.1 z3 rp rfl ?_)|refine sx ?_|refine sb λu hnb_=>?_|refine s2 ?_ ?_|intro)
   rw[hJ];refine A7 c s t wake h1 hc sy_ ⟨e1,3,D,v0,es,d,f⟩ ⟨jW s.cells D,s.cells,s.futures,⟨IntKind.i64.wrap (th.pc+1),th.regs.set B.toNat (jW s.cells D),th.taint.set B.toNat [th.ev],IntKind.i64.wrap (th.ev+1)⟩⟩ b132 b24 b8 b6 bt (some G) of [(u,⟨1,[[.YJ th.ev]]⟩),(Y,⟨1,(th.regs.map ah).set B.toNat [.YJ (jW s.cells D)]⟩),(tb,⟨1,(th.taint.map bP).set B.toNat [.sl u 0 1]⟩)]
    ((G,⟨1,s.cells.map ah⟩)::ab of 1 (s.futures.map ah)) ((Y,⟨1,(th.regs.map ah).set B.toNat [.YJ (jW s.cells D)]⟩)::(tb,⟨1,(th.taint.map bP).set B.toNat [.sl u 0 1]⟩)::(G,⟨1,s.cells.map ah⟩)::ab of 1 (s.futures.map ah)) [(u,⟨1,[[.YJ th.ev]]⟩)] (.inr ⟨_,rfl⟩) (by dsimp only;omega) (.refl _) (.sl Y 0 th.regs.length) (.sl tb 0 th.taint.length) ?_ ?_ hn1 nofun hof ?_ ?_ hse th.pc th.ev rfl Q hq
   .exact λL S=>Fz.sls (S _ (.tail _ (.head _))) (by simp[XI,ah]) YG YF
   .exact λL S=>E7 YG rfl z2 (S _ (.tail _ (.tail _ (.head _)))) (.cons (Fz.sls (l:=[th.ev]) (f:=ah) (S _ (.head _)) rfl YG rfl) .nil)
   .exact λb Z=>by cases Z;exact⟨_,rfl,.head _⟩
   .exact λb Z=>by subst Z;exact⟨_,rfl,.tail _ (.head _)⟩
theorem Vk(hk:e.kind=23)(G:0<=i.a/\i.a<th.regs.length)(O:inB e.obj s.futures.length=true):kB c s t wake th i sy_ sv e b132 b24 b8 b6 bt tb o oc of Q:=by
 have S:cG i e s th sv=⟨jW s.futures e.obj,s.cells,s.futures,⟨IntKind.i64.wrap (th.pc+1),th.regs.set i.a.toNat (jW s.futures e.obj),th.taint.set i.a.toNat [th.ev],IntKind.i64.wrap (th.ev+1)⟩⟩:=by simp[cG,hk]
 rw[S]at hse hq;obtain⟨e1,ek,B,v0,es,d,f⟩:=e;obtain⟨op,E,ib,ic,m,site⟩:=i;dsimp only at *;subst hk;have u:=aw.1 O;have hi1:=aw.1 h1;cases o with
 |none=>rw[ho rfl]at G;simp at G;omega
 |some M=>
  cases of with
  |none=>rw[hof rfl]at u;simp at u;omega
  |some D=>
   unfold kB jF kz jq iM dF;obtain⟨J,hJ⟩:∃J,J=cI Q:=⟨_,rfl⟩;rw[<-hJ];have s0:=eE (dF th tb (some M)) (l:=s.threads.map aG.enc) (n:=t.toNat) YH;unfold dF at s0;have y1:=ky (s:=th) G.1 G.2;have y2:=nX (s:=th) G.1 YC;have y3:(s.futures.map ah)[B.toNat]? =some [.YJ (jW s.futures B)]:=iC O;have z1:E.toNat<th.regs.length:=by omega
   have z2:E.toNat<th.taint.length:=by omega
   have z3:B.toNat<s.futures.length:=by omega
   have Y:∀(j:Nat) (A:SH),A=[(D,⟨1,s.futures.map ah⟩)]->J [.pptr [c.enc] 0 0,.pptr [[.YJ t,.YJ wake]] 0 0,.ptr b6 0 0,.ptr b8 0 0,.ptr b24 0 0,.ptr b132 0 0,.ptr bt t.toNat 0,.YJ (IntKind.i64.wrap (th.pc+1))]
     ((j,⟨1,[[.YJ th.ev]]⟩)::(b132,⟨7,[iM s sy_ bt oc (some D)]⟩)::(b24,⟨7,[(bH.mk e1 23 B (jW s.futures B) es d f).enc]⟩)::(b8,⟨7,[cy]⟩)::(b6,⟨7,[ay]⟩)::(bt,⟨4,(s.threads.map aG.enc).set t.toNat (dF th tb (some M))⟩)::(M,⟨1,(th.regs.map ah).set E.toNat [.YJ (jW s.futures B)]⟩)::(tb,⟨1,(th.taint.map bP).set E.toNat [.sl j 0 1]⟩)::(ab oc 1 (s.cells.map ah)++A)):=by
    rintro j A rfl;rw[hJ];refine A7 c s t wake h1 hc sy_ ⟨e1,23,B,v0,es,d,f⟩ ⟨jW s.futures B,s.cells,s.futures,⟨IntKind.i64.wrap (th.pc+1),th.regs.set E.toNat (jW s.futures B),th.taint.set E.toNat [th.ev],IntKind.i64.wrap (th.ev+1)⟩⟩ b132 b24 b8 b6 bt oc (some D) [(j,⟨1,[[.YJ th.ev]]⟩),(M,⟨1,(th.regs.map ah).set E.toNat [.YJ (jW s.futures B)]⟩),(tb,⟨1,(th.taint.map bP).set E.toNat [.sl j 0 1]⟩)]
     (ab oc 1 (s.cells.map ah)++[(D,⟨1,s.futures.map ah⟩)]) ((M,⟨1,(th.regs.map ah).set E.toNat [.YJ (jW s.futures B)]⟩)::(tb,⟨1,(th.taint.map bP).set E.toNat [.sl j 0 1]⟩)::(ab oc 1 (s.cells.map ah)++[(D,⟨1,s.futures.map ah⟩)])) [(j,⟨1,[[.YJ th.ev]]⟩)] (.inr ⟨_,rfl⟩) (by dsimp only;omega) (.refl _) (.sl M 0 th.regs.length) (.sl tb 0 th.taint.length) ?_ ?_ hn1 hoc nofun ?_ ?_ hse th.pc th.ev rfl Q hq
    .exact λL Z=>Fz.sls (Z _ (.tail _ (.head _))) (by simp[XI,ah]) YG YF
    .exact λL Z=>E7 YG rfl z2 (Z _ (.tail _ (.tail _ (.head _)))) (.cons (Fz.sls (l:=[th.ev]) (f:=ah) (Z _ (.head _)) rfl YG rfl) .nil)
    .exact λb hb=>by subst hb;exact⟨_,rfl,.head _⟩
    .exact λb hb=>by cases hb;exact⟨_,rfl,YF⟩
   cases oc
   all_goals
    dsimp only[aQ,ab,List.cons_append,List.nil_append]at *
    repeat' (first|refine bz G.1 z1 rp rfl ?_|refine bz G.1 z2 rp rfl ?_|refine bz u.1 z3 rp rfl ?_|refine DF (bz u.1 z3 rp rfl ?_)|refine sx ?_|refine sb λj hnb_=>?_|refine s2 ?_ ?_|intro)
    exact Y j _ rfl
end
end
section
section
variable (c:aL) (s:bU) (t wake:Int) (h1:inB t s.threads.length=true) (hc:inB t c.ts.length=true) (th:aG) (i:az) (sy_:SyncD) (sv:Int) (e:bH) (b132 b24 b8 b6 bt tb:Nat) (o oc of:Option Nat) (hn1:b24≠b6) (ho:o=none->th.regs=[]) (hoc:oc=none->s.cells=[]) (hof:of=none->s.futures=[])
 (htn:th.taint.length=th.regs.length) (hse:ao Tryz.prog 112 [.agg (au c t).enc,.agg (cG i e s th sv).thread.enc] (nR (bu (au c t) (cG i e s th sv).thread))) (Q:R) (hq:∀v L,Fz L v (jp (lY c s t sy_ e (cG i e s th sv)))->Q v L)
include h1 hc hn1 ho hoc hof htn hse hq
theorem Wq(hk:e.kind=4)(G:0<=i.b/\i.b<th.regs.length)(M:inB e.obj s.cells.length=true):kB c s t wake th i sy_ sv e b132 b24 b8 b6 bt tb o oc of Q:=by
 have O:cG i e s th sv=⟨th.reg i.b,s.cells.set e.obj.toNat (th.reg i.b),s.futures,⟨IntKind.i64.wrap (th.pc+1),th.regs,th.taint,IntKind.i64.wrap (th.ev+1)⟩⟩:=by simp[cG,hk]
 rw[O]at hse hq;obtain⟨e1,ek,B,v0,es,d,f⟩:=e;obtain⟨op,ia,D,ic,m,site⟩:=i;dsimp only at *;subst hk;have j:=aw.1 M;have hi1:=aw.1 h1;cases o with
 |none=>rw[ho rfl]at G;simp at G;omega
 |some E=>
  cases oc with
  |none=>rw[hoc rfl]at j;simp at j;omega
  |some u=>
   unfold kB jF kz jq iM dF;obtain⟨J,hJ⟩:∃J,J=cI Q:=⟨_,rfl⟩;rw[<-hJ];have s0:=eE (dF th tb (some E)) (l:=s.threads.map aG.enc) (n:=t.toNat) YH;unfold dF at s0;have y1:=ky (s:=th) G.1 G.2;have y3:(s.cells.map ah)[B.toNat]? =some [.YJ (jW s.cells B)]:=iC M;have z1:D.toNat<th.regs.length:=by omega
   have z3:B.toNat<s.cells.length:=by omega
   have S:∀(A:SH),A=[]->J [.pptr [c.enc] 0 0,.pptr [[.YJ t,.YJ wake]] 0 0,.ptr b6 0 0,.ptr b8 0 0,.ptr b24 0 0,.ptr b132 0 0,.ptr bt t.toNat 0,.YJ (IntKind.i64.wrap (th.pc+1))]
     ((b132,⟨7,[iM s sy_ bt (some u) of]⟩)::(b24,⟨7,[(bH.mk e1 4 B (th.reg D) es d f).enc]⟩)::(b8,⟨7,[cy]⟩)::(b6,⟨7,[ay]⟩)::(bt,⟨4,(s.threads.map aG.enc).set t.toNat (dF th tb (some E))⟩)::(E,⟨1,th.regs.map ah⟩)::(tb,⟨1,th.taint.map bP⟩)::((u,⟨1,(s.cells.map ah).set B.toNat [.YJ (th.reg D)]⟩)::(ab of 1 (s.futures.map ah)++A))):=by
    rintro A rfl;rw[hJ];have:=A7 c s t wake h1 hc sy_ ⟨e1,4,B,v0,es,d,f⟩ ⟨th.reg D,s.cells.set B.toNat (th.reg D),s.futures,⟨IntKind.i64.wrap (th.pc+1),th.regs,th.taint,IntKind.i64.wrap (th.ev+1)⟩⟩ b132 b24 b8 b6 bt (some u) of [(E,⟨1,th.regs.map ah⟩),(tb,⟨1,th.taint.map bP⟩)]
     ((u,⟨1,(s.cells.map ah).set B.toNat [.YJ (th.reg D)]⟩)::(ab of 1 (s.futures.map ah)++[])) ((E,⟨1,th.regs.map ah⟩)::(tb,⟨1,th.taint.map bP⟩)::((u,⟨1,(s.cells.map ah).set B.toNat [.YJ (th.reg D)]⟩)::(ab of 1 (s.futures.map ah)++[]))) [] (.inl rfl) (λ_=>rfl) (.refl _) (.sl E 0 th.regs.length) (.sl tb 0 th.taint.length) ?_ ?_ hn1 nofun hof ?_ ?_ hse th.pc th.ev rfl Q hq
    .simp only[Yd]at this;exact this
    .exact λL Z=>Fz.sls (Z _ (.head _)) rfl YG rfl
    .exact λL Z=>Fz.sls (Z _ (.tail _ (.head _))) rfl YG rfl
    .exact λb Y=>by cases Y;exact⟨_,by simp[XI,ah],.head _⟩
    .exact λb Y=>by subst Y;exact⟨_,rfl,.tail _ (.head _)⟩
   cases of
   all_goals
    dsimp only[aQ,ab,List.cons_append,List.nil_append]at *
    repeat' (first|refine bz G.1 z1 rp rfl ?_|refine bz j.1 z3 rp rfl ?_|refine DF (bz j.1 z3 rp rfl ?_)|refine sy ?_|refine s2 ?_ ?_|intro)
    exact S _ rfl
theorem Vl(hk:e.kind=22)(G:0<=i.b/\i.b<th.regs.length)(M:inB e.obj s.futures.length=true):kB c s t wake th i sy_ sv e b132 b24 b8 b6 bt tb o oc of Q:=by
 have O:cG i e s th sv=⟨th.reg i.b,s.cells,s.futures.set e.obj.toNat (th.reg i.b),⟨IntKind.i64.wrap (th.pc+1),th.regs,th.taint,IntKind.i64.wrap (th.ev+1)⟩⟩:=by simp[cG,hk]
 rw[O]at hse hq;obtain⟨e1,ek,B,v0,es,d,f⟩:=e;obtain⟨op,ia,D,ic,m,site⟩:=i;dsimp only at *;subst hk;have j:=aw.1 M;have hi1:=aw.1 h1;cases o with
 |none=>rw[ho rfl]at G;simp at G;omega
 |some E=>
  cases of with
  |none=>rw[hof rfl]at j;simp at j;omega
  |some u=>
   unfold kB jF kz jq iM dF;obtain⟨J,hJ⟩:∃J,J=cI Q:=⟨_,rfl⟩;rw[<-hJ];have s0:=eE (dF th tb (some E)) (l:=s.threads.map aG.enc) (n:=t.toNat) YH;unfold dF at s0;have y1:=ky (s:=th) G.1 G.2;have y3:(s.futures.map ah)[B.toNat]? =some [.YJ (jW s.futures B)]:=iC M;have z1:D.toNat<th.regs.length:=by omega
   have z3:B.toNat<s.futures.length:=by omega
   have S:∀(A:SH),A=[(u,⟨1,(s.futures.map ah).set B.toNat [.YJ (th.reg D)]⟩)]->J [.pptr [c.enc] 0 0,.pptr [[.YJ t,.YJ wake]] 0 0,.ptr b6 0 0,.ptr b8 0 0,.ptr b24 0 0,.ptr b132 0 0,.ptr bt t.toNat 0,.YJ (IntKind.i64.wrap (th.pc+1))]
     ((b132,⟨7,[iM s sy_ bt oc (some u)]⟩)::(b24,⟨7,[(bH.mk e1 22 B (th.reg D) es d f).enc]⟩)::(b8,⟨7,[cy]⟩)::(b6,⟨7,[ay]⟩)::(bt,⟨4,(s.threads.map aG.enc).set t.toNat (dF th tb (some E))⟩)::(E,⟨1,th.regs.map ah⟩)::(tb,⟨1,th.taint.map bP⟩)::(ab oc 1 (s.cells.map ah)++A)):=by
    rintro A rfl;rw[hJ];have:=A7 c s t wake h1 hc sy_ ⟨e1,22,B,v0,es,d,f⟩ ⟨th.reg D,s.cells,s.futures.set B.toNat (th.reg D),⟨IntKind.i64.wrap (th.pc+1),th.regs,th.taint,IntKind.i64.wrap (th.ev+1)⟩⟩ b132 b24 b8 b6 bt oc (some u) [(E,⟨1,th.regs.map ah⟩),(tb,⟨1,th.taint.map bP⟩)]
     (ab oc 1 (s.cells.map ah)++[(u,⟨1,(s.futures.map ah).set B.toNat [.YJ (th.reg D)]⟩)]) ((E,⟨1,th.regs.map ah⟩)::(tb,⟨1,th.taint.map bP⟩)::(ab oc 1 (s.cells.map ah)++[(u,⟨1,(s.futures.map ah).set B.toNat [.YJ (th.reg D)]⟩)])) [] (.inl rfl) (λ_=>rfl) (.refl _) (.sl E 0 th.regs.length) (.sl tb 0 th.taint.length) ?_ ?_ hn1 hoc nofun ?_ ?_ hse th.pc th.ev rfl Q hq
    .simp only[Yd]at this;exact this
    .exact λL Z=>Fz.sls (Z _ (.head _)) rfl YG rfl
    .exact λL Z=>Fz.sls (Z _ (.tail _ (.head _))) rfl YG rfl
    .exact λb Y=>by subst Y;exact⟨_,rfl,.head _⟩
    .exact λb Y=>by cases Y;exact⟨(s.futures.map ah).set B.toNat [.YJ (th.reg D)],by simp[XI,ah],YF⟩
   cases oc
   all_goals
    dsimp only[aQ,ab,List.cons_append,List.nil_append]at *
    repeat' (first|refine bz G.1 z1 rp rfl ?_|refine bz j.1 z3 rp rfl ?_|refine DF (bz j.1 z3 rp rfl ?_)|refine sy ?_|refine s2 ?_ ?_|intro)
    exact S _ rfl
end
end
section
section
variable (c:aL) (s:bU) (t wake:Int) (h1:inB t s.threads.length=true) (hc:inB t c.ts.length=true) (th:aG) (i:az) (sy_:SyncD) (sv:Int) (e:bH) (b132 b24 b8 b6 bt tb:Nat) (o oc of:Option Nat) (hn1:b24≠b6) (ho:o=none->th.regs=[]) (hoc:oc=none->s.cells=[]) (hof:of=none->s.futures=[])
 (htn:th.taint.length=th.regs.length) (hse:ao Tryz.prog 112 [.agg (au c t).enc,.agg (cG i e s th sv).thread.enc] (nR (bu (au c t) (cG i e s th sv).thread))) (Q:R) (hq:∀v L,Fz L v (jp (lY c s t sy_ e (cG i e s th sv)))->Q v L)
include h1 hc hn1 ho hoc hof htn hse hq
theorem Kt(v p:Int)(E:cG i e s th sv=⟨v,s.cells,s.futures,⟨p,th.regs,th.taint,IntKind.i64.wrap (th.ev+1)⟩⟩)(u:bH)(B:u={e with value:=v}):
  cI Q [.pptr [c.enc] 0 0,.pptr [[.YJ t,.YJ wake]] 0 0,.ptr b6 0 0,.ptr b8 0 0,.ptr b24 0 0,.ptr b132 0 0,.ptr bt t.toNat 0,.YJ p]
   ((b132,⟨7,[iM s sy_ bt oc of]⟩)::(b24,⟨7,[u.enc]⟩)::(b8,⟨7,[cy]⟩)::(b6,⟨7,[ay]⟩)::(bt,⟨4,(s.threads.map aG.enc).set t.toNat (dF th tb o)⟩)::jq s th tb o oc of):=by
 subst B;rw[E]at hse hq;refine A7 c s t wake h1 hc sy_ e ⟨v,s.cells,s.futures,⟨p,th.regs,th.taint,IntKind.i64.wrap (th.ev+1)⟩⟩ b132 b24 b8 b6 bt oc of (ab o 1 (th.regs.map ah)++[(tb,⟨1,th.taint.map bP⟩)]) (ab oc 1 (s.cells.map ah)++ab of 1 (s.futures.map ah)) (jq s th tb o oc of) [] (.inl rfl) (λ_=>rfl) (by unfold jq;simp) (aQ o th.regs.length) (.sl tb 0 th.taint.length) ?_ ?_ hn1 hoc hof ?_ ?_ hse th.pc th.ev rfl Q hq
 .exact λL D=>gL rfl ho λb j=>D _ (by subst j;simp[ab])
 .exact λL D=>Fz.sls (D _ (W8 _ (.head _))) rfl YG rfl
 .exact λb j=>by subst j;exact⟨_,rfl,by simp[ab]⟩
 .exact λb j=>by subst j;exact⟨_,rfl,by simp[ab]⟩
theorem Wr(D:e.kind=5)(j:0<=i.a/\i.a<th.regs.length):kB c s t wake th i sy_ sv e b132 b24 b8 b6 bt tb o oc of Q:=by
 have u:=Kt c s t wake h1 hc th i sy_ sv e b132 b24 b8 b6 bt tb o oc of hn1 ho hoc hof htn hse Q hq;by_cases E:th.reg i.a≠0
 .replace u:=u 1 (IntKind.i64.wrap (th.pc+1)) (by simp[cG,D,E]) _ rfl;have d1:decide (th.reg i.a≠0)=true:=decide_eq_true E;clear hse hq;obtain⟨e1,ek,eo,v0,es,d,f⟩:=e;obtain⟨op,O,ib,ic,m,B⟩:=i;dsimp only at *;subst D;have S:=aw.1 h1;cases o with
  |none=>rw[ho rfl]at j;simp at j;omega
  |some Z=>
   unfold kB jF kz jq iM dF;unfold jq iM dF at u;obtain⟨J,Y⟩:∃J,J=cI Q:=⟨_,rfl⟩;rw[<-Y]at u ⊢;have M:=eE (dF th tb (some Z)) (l:=s.threads.map aG.enc) (n:=t.toNat) YH;unfold dF at M;have y1:=ky (s:=th) j.1 j.2;have G:O.toNat<th.regs.length:=by omega
   generalize ab oc 1 (s.cells.map ah)++ab of 1 (s.futures.map ah)=T at *;dsimp only[aQ,ab,List.cons_append,List.nil_append]at *
   repeat' (first|refine bz j.1 G rp rfl ?_|refine sy ?_|refine s2 ?_ ?_|intro)
   exact u
 .replace u:=u e.value i.b (by simp[cG,D,E]) _ rfl;have d1:decide (th.reg i.a≠0)=false:=decide_eq_false E;clear hse hq;obtain⟨e1,ek,eo,v0,es,d,f⟩:=e;obtain⟨op,O,ib,ic,m,B⟩:=i;dsimp only at *;subst D;have S:=aw.1 h1;cases o with
  |none=>rw[ho rfl]at j;simp at j;omega
  |some Z=>
   unfold kB jF kz jq iM dF;unfold jq iM dF at u;obtain⟨J,Y⟩:∃J,J=cI Q:=⟨_,rfl⟩;rw[<-Y]at u ⊢;have M:=eE (dF th tb (some Z)) (l:=s.threads.map aG.enc) (n:=t.toNat) YH;unfold dF at M;have y1:=ky (s:=th) j.1 j.2;have G:O.toNat<th.regs.length:=by omega
   generalize ab oc 1 (s.cells.map ah)++ab of 1 (s.futures.map ah)=T at *;dsimp only[aQ,ab,List.cons_append,List.nil_append]at *
   repeat' (first|refine bz j.1 G rp rfl ?_|refine sy ?_|refine s2 ?_ ?_|intro)
   exact u
theorem Ws(hk:e.kind≠3/\e.kind≠23/\e.kind≠4/\e.kind≠22/\e.kind≠5):kB c s t wake th i sy_ sv e b132 b24 b8 b6 bt tb o oc of Q:=by
 obtain⟨S,u,O,B,M⟩:=hk;have j:=Kt c s t wake h1 hc th i sy_ sv e b132 b24 b8 b6 bt tb o oc of hn1 ho hoc hof htn hse Q hq;have d3:decide (e.kind=3)=false:=decide_eq_false S;have d23:decide (e.kind=23)=false:=decide_eq_false u;have d4:decide (e.kind=4)=false:=decide_eq_false O;have d22:decide (e.kind=22)=false:=decide_eq_false B;have d5:decide (e.kind=5)=false:=decide_eq_false M;have hi1:=aw.1 h1;have s0:=eE (dF th tb o) (l:=s.threads.map aG.enc) (n:=t.toNat) YH;have Y:e.enc=[.YJ e.thread,.YJ e.kind,.YJ e.obj,.YJ e.value,.YJ e.site,.lst (e.deps.map ah),.lst (e.frm.map ah)]:=rfl;by_cases D:e.kind=18\/e.kind=19
 .replace j:=j sv (IntKind.i64.wrap (th.pc+1)) (by unfold cG;rw[if_neg S,if_neg u,if_neg O,if_neg B,if_neg M,if_pos D]) _ rfl;unfold kB jF kz;unfold iM dF at *;obtain⟨J,E⟩:∃J,J=cI Q:=⟨_,rfl⟩;rw[<-E]at j ⊢;generalize jq s th tb o oc of=T at *;rw[Y];rcases D with D|D
  .have G:decide (e.kind=18)=true:=decide_eq_true D
   repeat' (first|refine sy ?_|refine s2 ?_ ?_|intro)
   exact j
  .have G:decide (e.kind=18)=false:=decide_eq_false YC;have Z:decide (e.kind=19)=true:=decide_eq_true D
   repeat' (first|refine sy ?_|refine s2 ?_ ?_|intro)
   exact j
 .have G:decide (e.kind=18)=false:=decide_eq_false YC;have Z:decide (e.kind=19)=false:=decide_eq_false YC;by_cases p2:e.kind=1\/e.kind=16\/e.kind=2
  .replace j:=j e.value th.pc (by unfold cG;rw[if_neg S,if_neg u,if_neg O,if_neg B,if_neg M,if_neg D,if_pos p2]) _ rfl;unfold kB jF kz;unfold iM dF at *;obtain⟨J,E⟩:∃J,J=cI Q:=⟨_,rfl⟩;rw[<-E]at j ⊢;generalize jq s th tb o oc of=T at *;rw[Y]
   repeat' (first|refine sy ?_|refine s2 ?_ ?_|intro)
   all_goals first
    |exact j
    |(exfalso;simp_all<;>omega)
  .replace j:=j e.value (IntKind.i64.wrap (th.pc+1)) (by unfold cG;rw[if_neg S,if_neg u,if_neg O,if_neg B,if_neg M,if_neg D,if_neg p2]) _ rfl;unfold kB jF kz;unfold iM dF at *;obtain⟨J,E⟩:∃J,J=cI Q:=⟨_,rfl⟩;rw[<-E]at j ⊢;generalize jq s th tb o oc of=T at *;rw[Y]
   repeat' (first|refine sy ?_|refine s2 ?_ ?_|intro)
   all_goals first
    |exact j
    |(exfalso;simp_all<;>omega)
end
end
def NN(q:Nat)(o:Option Nat)(B:Nat)(l:List aG)(D:q<l.length):jN q o B l=(l.map aG.enc).set q (dF (l.getD q aG.zero) B o):=by
 apply XW;intro j;rw[Xc];rcases Fn j l.length with u|u
 .rw[u5 _ _ _ _ _ u];by_cases e:q=j
  .subst e;rw[if_pos rfl,if_pos (by simpa using u)];simp[CL,dF,u]
  .rw[if_neg e];simp[CL,show¬j=q from λh=>e h.symm,u]
 .rw[ST (by rw[ew];exact u),if_neg YC,ST (by simpa using u)]
def DZ(i:az)(s:aG)(t:Int):(dM i s t).kind=gF i.op:=by
 unfold dM;dsimp only
 repeat' split
 all_goals rfl
def NO{i:az}{n:Int}(u:1<=i.op)(h2:i.op<=28)(G:∀r∈aC i,0<=r/\r<n):((gF i.op=3\/gF i.op=23\/gF i.op=5)->0<=i.a/\i.a<n)/\((gF i.op=4\/gF i.op=22)->0<=i.b/\i.b<n):=by obtain⟨op,E,D,B,m,j⟩:=i;dsimp only at *;rcases ops op u h2 with rfl|rfl|rfl|rfl|rfl|rfl|rfl|rfl|rfl|rfl|rfl|rfl|rfl|rfl|rfl|rfl|rfl|rfl|rfl|rfl|rfl|rfl|rfl|rfl|rfl|rfl|rfl|rfl<;>simp_all[gF,iP,aC]
structure Vm(c:aL)(s:bU)(t:Int)(e:bH):Prop where
 ready:gX c s t=true
 ra:(e.kind=3\/e.kind=23\/e.kind=5)->0<=(bV (au c t) (aB s t).pc).a/\(bV (au c t) (aB s t).pc).a<(aB s t).regs.length
 rb:(e.kind=4\/e.kind=22)->0<=(bV (au c t) (aB s t).pc).b/\(bV (au c t) (aB s t).pc).b<(aB s t).regs.length
def fe{c:aL}{s:bU}{t:Int}(h:gX c s t=true):inB t c.ts.length=true/\inB t s.threads.length=true/\inB t s.sync.threads.length=true/\inB (aB s t).pc (au c t).ins.length=true/\((aB s t).regs.length:Int)=(au c t).regs/\((aB s t).taint.length:Int)=(au c t).regs:=by unfold gX at h;simp only[WZ,decide_eq_true_eq]at h;obtain⟨⟨⟨⟨⟨a,b⟩,c⟩,d⟩,e⟩,f⟩:=h;exact⟨a,b,c,d,e,f⟩
def tG{c:aL}{s:bU}{t:Int}{e:bH}(O:∀x∈c.ts,u3 x)(h:bS c s t=some e):Vm c s t e:=by
 unfold bS at h;by_cases j:gX c s t=true
 .rw[if_pos j]at h;obtain⟨Y,a2,a3,S,a5,Z⟩:=fe j;obtain⟨G,E,D⟩:=O _ (fO (d:=⟨0,[]⟩) Y) _ (fO (d:=default) S);rw[show(c.ts.getD t.toNat ⟨0,[]⟩).ins.getD (aB s t).pc.toNat default=bV (au c t) (aB s t).pc from rfl]at G E D;have M:=NO (n:=(aB s t).regs.length) G E (λr j=>by have:=D r j;rw[show(c.ts.getD t.toNat ⟨0,[]⟩).regs=(au c t).regs from rfl]at this;omega);have u:e.kind=1\/e.kind=17\/e.kind=gF (bV (au c t) (aB s t).pc).op:=by
   dsimp only at h;split at h
   .cases h;exact .inl rfl
   .split at h
    .cases h;exact .inr (.inl rfl)
    .split at h
     .split at h
      .cases h;exact .inr (.inr (DZ _ _ _))
      .cases h
     .cases h
  refine⟨j,λB=>M.1 ?_,λB=>M.2 ?_⟩
  .rcases u with k|k|k
   .omega
   .omega
   .rw[<-k];exact B
  .rcases u with k|k|k
   .omega
   .omega
   .rw[<-k];exact B
 .rw[if_neg j]at h;cases h
def lC(c:aL)(s:bU)(t wake:Int):cB c s t wake=match bS c s t with
  |none=>none
  | some e=>if s.cells.length=c.w.cells.length/\s.futures.length=c.w.futures.length then
    (if(ef c.w s.sync t e.kind e.obj wake).2.2 then lY c s t (ef c.w s.sync t e.kind e.obj wake).1 e (cG (bV (au c t) (aB s t).pc) e s (aB s t) (ef c.w s.sync t e.kind e.obj wake).2.1)else none)else none:=by
 unfold cB lY;rfl
def xW{w:aK}{s:SyncD}{t k o wake:Int}(h:(ef w s t k o wake).2.2=true):allowedS w k o=true:=by
 unfold ef at h;split at h
 .rename_i j;unfold aI at j;simp only[WZ]at j;exact j.1.2
 .cases h
structure Rs(U:List Int)(c:aL)(s:bU):Prop where
 ins:∀x∈c.ts,u3 x
 len:∀x∈c.ts,x.ins.length<2^40
 u30:U.length<=2^30
 thr:∀x∈s.threads,ji U x/\x.ev∈U/\x.regs.length<=2^30
 sm:GX c.w s.sync
 nt:s.threads.length<=2^30
 nc:s.cells.length<2^40
 nf:s.futures.length<2^40
def A8{U:List Int}{i:az}{e:bH}{s:bU}{th:aG}{sv:Int}(h:ji U th)(E:th.ev∈U):ji U (cG i e s th sv).thread:=by
 obtain⟨B,u,M,G⟩:=h;have j:ji U ⟨th.pc,th.regs,th.taint.set i.a.toNat [th.ev],th.ev⟩:=by
  refine⟨by simpa using B,u,λl D=>?_,λl D x O=>?_⟩
  .rcases Yg D with h|rfl
   .exact M l h
   .simp
  .rcases Yg D with h|rfl
   .exact G l h x O
   .rw[WP.1 O];exact E
 unfold cG;dsimp only
 repeat' split
 all_goals first
  |exact⟨B,u,M,G⟩
  |exact⟨by simpa using B,by simpa using u,j.short,j.sub⟩
def E8(U:List Int)(c:aL)(s:bU)(t wake:Int)(H:Rs U c s):ao Tryz.prog 58 [.agg c.enc,.agg s.enc,.agg [.YJ t,.YJ wake]] (jp (cB c s t wake)):=by
 obtain⟨hi,hl,hu,S,hsm,hnt,hnc,hnf⟩:=H;have hp:=Ks c s t hi (λx hx r=>by
  have:=(S x hx).1.short;unfold aG.tnt;rcases Fn r.toNat x.taint.length with h|h
  .have:=this _ (WN h);simp[h];omega
  .simp[List.getD,ST h])
 rw[lC];refine ac.fz (Hf _ _ _ _ _ ?_);refine vw ?_;generalize hQ:(λ(v:AV) (L:SH)=>∃v2 L2,aE [v] L [v2] L2/\v2=_/\L2=[])=Q;have E:∀v L,Fz L v (jp (match bS c s t with
  |none=>none
  | some e=>if s.cells.length=c.w.cells.length/\s.futures.length=c.w.futures.length then
    (if(ef c.w s.sync t e.kind e.obj wake).2.2 then lY c s t (ef c.w s.sync t e.kind e.obj wake).1 e (cG (bV (au c t) (aB s t).pc) e s (aB s t) (ef c.w s.sync t e.kind e.obj wake).2.1)else none)else none))->Q v L:=λv L h=>by subst hQ;exact⟨_,[],aE.all h,rfl,rfl⟩
 clear hQ;have hce:c.enc=[.lst (c.w.cells.map aH.enc),.lst (c.w.locks.map bv.enc),.lst (c.w.conds.map bO.enc),.lst (c.w.futures.map av),.lst (c.w.threads.map av),.lst (c.w.sites.map bM.enc),.lst (c.ts.map eG.enc)]:=rfl;have hse:s.enc=[.lst (s.sync.locks.map LockD.enc),.YJ s.sync.tx,.lst (s.sync.done.map aD),.lst (s.sync.threads.map ThrD.enc),.lst (s.cells.map ah),.lst (s.futures.map ah),.lst (s.threads.map aG.enc)]:=rfl;cases hpe:bS c s t with
 |none=>
  rw[hpe]at hp E;unfold gM at hp;have hz:=λv L (h:v=_)=>E v L (by rw[h];exact mO L)
  unfold ay cy bH.zero bH.enc at *;dsimp only[List.map]at hp;rw[hce,hse]at *
  repeat' (first|refine st ?_|(refine pf 81 ?_;refine pm (hp) ?_)|refine sb λnb_ G=>?_|refine s2 (λh=>?_) λh=>?_|fail)
  exact hz _ _ rfl
 |some e=>
  rw[hpe]at hp E;unfold gM at hp;dsimp only at hp E;have M:=tG hi hpe;have ha:=Nq c.w s.sync t e.kind e.obj wake hsm;have hcp:=P8 s t.toNat hnt hnc hnf (λx hx=>⟨(S x hx).1.small,by have:=(S x hx).1.len;have:=(S x hx).2.2;omega,(S x hx).1.short⟩);have een:e.enc=[.YJ e.thread,.YJ e.kind,.YJ e.obj,.YJ e.value,.YJ e.site,.lst (e.deps.map ah),.lst (e.frm.map ah)]:=rfl;generalize hres:ef c.w s.sync t e.kind e.obj wake=r at *;obtain⟨sy,sv,ok⟩:=r;unfold Nm at ha;dsimp only at ha E;by_cases hln:s.cells.length=c.w.cells.length/\s.futures.length=c.w.futures.length
  .rw[if_pos hln]at E;have d1:decide ((s.cells.length:Int)≠c.w.cells.length)=false:=decide_eq_false YC;have d2:decide ((s.futures.length:Int)≠c.w.futures.length)=false:=decide_eq_false YC;cases ok with
   |false=>
    have hz:=λv L (h:v=_)=>E v L (by rw[h];exact mO L)
    unfold ay cy at hz;rw[hce,hse,een]at *
    repeat' (first|refine st ?_|(refine pf 81 ?_;refine pm (hp) ?_)|(refine pf 110 ?_;refine pm (ha) ?_)|refine sb λnb_ G=>?_|refine s2 (λh=>?_) λh=>?_|fail)
    exact hz _ _ rfl
   |true=>
    rw[if_pos rfl]at E;obtain⟨a1,a2,a3,a4,a5,a6⟩:=fe M.ready;have al:=xW (w:=c.w) (s:=s.sync) (t:=t) (k:=e.kind) (o:=e.obj) (wake:=wake) (by rw[hres]);have hmem:aB s t∈s.threads:=fO (d:=aG.zero) a2;have hT:=S _ hmem;have hobc:e.kind=3\/e.kind=4->inB e.obj s.cells.length=true:=λhk=>by unfold allowedS at al;rw[if_neg YC,if_pos hk]at al;rw[hln.1];exact al
    have hobf:e.kind=22\/e.kind=23->inB e.obj s.futures.length=true:=λhk=>by unfold allowedS at al;rw[if_neg YC,if_neg YC,if_neg YC,if_neg YC,if_neg YC,if_neg YC,if_pos hk]at al;rw[hln.2];exact al
    have B:=A8 (i:=bV (au c t) (aB s t).pc) (e:=e) (s:=s) (sv:=sv) hT.1 hT.2.1;have u:=Lj (au c t) _ U hu B.small (by rw[B.len];exact B.small) B.short B.sub (hl _ (show au c t∈c.ts from fO a1));have fin:∀(v:AV) (K:SH) (j b8 b6:Nat),j≠b6->SD s t.toNat v K->xV Q (.pptr [sy.enc] 0 0) (.pptr [[.YJ t,.YJ wake]] 0 0) (.pptr [c.enc] 0 0) (.ptr j 0 0) (.ptr b6 0 0) (.ptr b8 0 0) (.YJ sv) v ((j,⟨7,[e.enc]⟩)::(b8,⟨7,[cy]⟩)::(b6,⟨7,[ay]⟩)::K):=by
     rintro v K j b8 b6 hn ⟨oc,of,bt,o,tb,rfl,rfl,Z,Y,ho⟩;have hlt:t.toNat<s.threads.length:=by have:=aw.1 a2;omega
     have e1:(j,(⟨7,[e.enc]⟩:Blk))::(b8,⟨7,[cy]⟩)::(b6,⟨7,[ay]⟩)::((bt,⟨4,jN t.toNat o tb s.threads⟩)::(qh t.toNat o tb s.threads s.threads.length++(ab oc 1 (s.cells.map ah)++ab of 1 (s.futures.map ah))))=kz s t (aB s t) e j b8 b6 bt tb o (jq s (aB s t) tb o oc of):=by rw[NN _ _ _ _ hlt,qh,if_pos hlt];unfold kz jq;rw[WU];rfl
     rw[e1];refine SG c s t wake a2 a1 _ rfl _ rfl a4 sy sv e j b8 b6 bt tb o oc of Q _ λD=>?_
     have ho':o=none->(aB s t).regs=[]:=λh=>ho h hlt
     have O:(aB s t).taint.length=(aB s t).regs.length:=by omega
     by_cases k3:e.kind=3
     .exact Wp c s t wake a2 a1 _ _ sy sv e D j b8 b6 bt tb o oc of hn ho' Z Y O u Q E k3 (M.ra YC) (hobc YC)
     by_cases k23:e.kind=23
     .exact Vk c s t wake a2 a1 _ _ sy sv e D j b8 b6 bt tb o oc of hn ho' Z Y O u Q E k23 (M.ra YC) (hobf YC)
     by_cases k4:e.kind=4
     .exact Wq c s t wake a2 a1 _ _ sy sv e D j b8 b6 bt tb o oc of hn ho' Z Y O u Q E k4 (M.rb YC) (hobc YC)
     by_cases k22:e.kind=22
     .exact Vl c s t wake a2 a1 _ _ sy sv e D j b8 b6 bt tb o oc of hn ho' Z Y O u Q E k22 (M.rb YC) (hobf YC)
     by_cases k5:e.kind=5
     .exact Wr c s t wake a2 a1 _ _ sy sv e D j b8 b6 bt tb o oc of hn ho' Z Y O u Q E k5 (M.ra YC)
     exact Ws c s t wake a2 a1 _ _ sy sv e D j b8 b6 bt tb o oc of hn ho' Z Y O u Q E ⟨k3,k23,k4,k22,k5⟩
    unfold ay cy at fin;clear E u B hobc hobf al M hT hmem;rw[hce,hse,een]at *
    repeat' (first|refine st ?_|(refine pf 81 ?_;refine pm (hp) ?_)|(refine pf 110 ?_;refine pm (ha) ?_)|((with_reducible refine aU 111 ?_);(refine pG hcp ?_;intro v K hK;exact fin _ _ _ _ _ (λh_=>by subst h_;simp[SH.names]at G) hK))|refine sb λnb_ G=>?_|refine s2 (λh=>?_) λh=>?_|fail)
  .rw[if_neg hln]at E;have hz:=λv L (h:v=_)=>E v L (by rw[h];exact mO L)
   unfold ay cy at hz;rw[hce,hse,een]at *;by_cases hl1:s.cells.length=c.w.cells.length
   .have d1:decide ((s.cells.length:Int)≠c.w.cells.length)=false:=decide_eq_false YC;have d2:decide ((s.futures.length:Int)≠c.w.futures.length)=true:=decide_eq_true YC
    repeat' (first|refine st ?_|(refine pf 81 ?_;refine pm (hp) ?_)|refine sb λnb_ G=>?_|refine s2 (λh=>?_) λh=>?_|fail)
    exact hz _ _ rfl
   .have d1:decide ((s.cells.length:Int)≠c.w.cells.length)=true:=decide_eq_true YC
    repeat' (first|refine st ?_|(refine pf 81 ?_;refine pm (hp) ?_)|refine sb λnb_ G=>?_|refine s2 (λh=>?_) λh=>?_|fail)
    exact hz _ _ rfl
