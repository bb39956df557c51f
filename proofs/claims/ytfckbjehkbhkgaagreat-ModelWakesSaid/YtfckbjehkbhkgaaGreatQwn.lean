/- part -/
import Derived.Test.YtfckbjehkbhkgaaGreatQwl
import Derived.Test.YtfckbjehkbhkgaaGreatQwm
set_option linter.all false
set_option maxRecDepth 100000
set_option maxHeartbeats 0
namespace Go.Proofs.YtfckbjehkbhkgaaGreat.Am
section
def dZ(s:SyncD)(i:Int)(f:ThrD->ThrD):List ThrD:=s.threads.set i.toNat (f (a8 s i))
def cY(s:SyncD)(i:Int)(f:LockD->LockD):List LockD:=s.locks.set i.toNat (f (aQ s i))
def Gk(s:SyncD)(o:Int):List ThrD:=dt s.threads o s.threads.length
def wH(l:List Int)(t:Int):List Int:=Lib.compact (yr (l++[t]))
def bF(w:aF)(s:SyncD)(t k o wake:Int):SyncD×Int:=
 if k=1 then({s with threads:=dZ s t λx=>{x with status:=2}},0)
 else if k=2 then({s with threads:=dZ s t λx=>{x with status:=5}},0)
 else if k=6\/k=10 then({s with locks:=cY s o λx=>{x with owner:=t}},0)
 else if k=7\/k=11 then({s with locks:=cY s o λx=>{x with owner:=-1}},0)
 else if k=8 then({s with locks:=cY s o λx=>{x with readers:=wH x.readers t}},0)
 else if k=9 then({s with locks:=cY s o λx=>{x with readers:=x.readers.filter λy=>!decide (y=t)}},0)
 else if k=12 then({s with tx:=t},0)
 else if k=13 then({s with tx:=-1},0)
 else if k=14 then({s with threads:=dZ s t λx=>{x with atomic:=true}},0)
 else if k=15 then({s with threads:=dZ s t λx=>{x with atomic:=false}},0)
 else if k=16 then({s with locks:=cY s (jI w o) λx=>{x with owner:=-1},threads:=dZ s t λx=>{x with status:=3,cond:=o}},0)
 else if k=17 then({s with locks:=cY s (jI w o) λx=>{x with owner:=t},threads:=dZ s t λx=>{x with status:=2,cond:=0}},0)
 else if k=18 then({s with threads:=fI s.threads o wake},da s.threads o wake)
 else if k=19 then({s with threads:=Gk s o},(aJ s.threads o s.threads.length).length)
 else if k=20 then({s with threads:=dZ s o λx=>{x with status:=1}},0)
 else if k=22 then({s with done:=s.done.set o.toNat true},0)
 else(s,0)
theorem nr{s:SyncD}{t:Int}{f:ThrD->ThrD}{r:List AV}(h:r=(f (a8 s t)).enc):(s.threads.map ThrD.enc).set (0+t.toNat) r=(dZ s t f).map ThrD.enc:=by rw[h,abI,dZ,abT]
theorem rS{s:SyncD}{t:Int}{f:LockD->LockD}{r:List AV}(h:r=(f (aQ s t)).enc):(s.locks.map LockD.enc).set (0+t.toNat) r=(cY s t f).map LockD.enc:=by rw[h,abI,cY,abT]
theorem oJ{s:SyncD}{t:Int}(h:inB t s.threads.length=true):(s.threads.map ThrD.enc)[0+t.toNat]? =some (a8 s t).enc:=by rw[abI];exact cq h
theorem wI{s:SyncD}{t:Int}(h:inB t s.locks.length=true):(s.locks.map LockD.enc)[0+t.toNat]? =some (aQ s t).enc:=by rw[abI];exact cq h
theorem wJ{bl n bt m:Nat}{tx:Int}{dv:AV}(h:dv.one=true):([.sl bl 0 n,.acU tx,dv,.sl bt 0 m]:List AV).all AV.one=true:=by show(true&&(true&&(dv.one&&(true&&true))))=true;rw[h];rfl
theorem yw(T:List ThrD)(c wake:Int):(fI T c wake).length=T.length:=by unfold fI gj;split<;>simp
theorem Rg{α:Type}{l:List α}{i:Nat}{x y:α}(h:l[i]? =some y):(l.set i x)[i]? =some x:=by have:=(abL.1 h).1;simp[this]
section
variable (w:aF) (s:SyncD) (t o wake:Int) (b7 b12 bl bt:Nat)
def LA(R:SH):SH:=(bl,⟨2,s.locks.map LockD.enc⟩)::(bt,⟨3,s.threads.map ThrD.enc⟩)::(b12,⟨4,[[.nils,.acU 0,.nils,.nils]]⟩)::(b7,⟨4,[s.enc]⟩)::R
def NU(k:Int)(Q:R)(dv:AV)(L:SH):Prop:=pt Q (.acU k) (.acU o) (.acU wake) (.ptr b7 0 0) (.pptr [[.acU t]] 0 0) (.ptr b12 0 0) (.pptr [w.enc] 0 0) (.agg [.sl bl 0 s.locks.length,.acU s.tx,dv,.sl bt 0 s.threads.length]) L
def qL(k:Int)(R:SH)(dv:AV)(Q:AV->SH->Prop):Prop:=∀L:SH,Fz L (.sl bl 0 s.locks.length) (.lst ((bF w s t k o wake).1.locks.map LockD.enc))->Fz L (.sl bt 0 s.threads.length) (.lst ((bF w s t k o wake).1.threads.map ThrD.enc))->(∀p∈R,p∈L)->
 Q (.tup [.agg [.sl bl 0 s.locks.length,.acU (bF w s t k o wake).1.tx,dv,.sl bt 0 s.threads.length],.acU (bF w s t k o wake).2,.bool true]) L
variable (R:SH) (dv:AV) (hone:dv.one=true) (Q:AV->SH->Prop) (hf:Ar w s) (ht:inB t s.threads.length=true) (hnd:(LA s b7 b12 bl bt R).names.Nodup)
include hone hf ht hnd
theorem Zi(k:Int)(G:allowedS w k o=true)(M:k=1\/k=2\/k=3\/k=4\/k=5\/k=12\/k=13\/k=14\/k=15\/k=20\/k=21\/k=23\/k=6\/k=7\/k=10\/k=11)(D:qL w s t o wake bl bt k R dv Q):NU w s t o wake b7 b12 bl bt k Q dv (LA s b7 b12 bl bt R):=by
 unfold NU;refine vw ?_;simp only[SH.names,LA,aai,abG,aaj,not_or]at hnd;obtain⟨⟨n1,n2,n3,n4⟩,⟨n5,n6,n7⟩,⟨n8,n9⟩,n10,n11⟩:=hnd;unfold LA;have hy:=oJ ht;obtain⟨t0,t1⟩:=ao.1 ht;have B:k=20->inB o s.threads.length=true:=λh=>by subst h;rw[hf.threads];simpa[allowedS]using G
 have u:k=6\/k=7\/k=10\/k=11->inB o s.locks.length=true:=λh=>by rw[hf.locks];rcases h with rfl|rfl|rfl|rfl<;>(simp[allowedS]at G;exact G.1)
 have E:∀N:Int,([.sl bl 0 s.locks.length,.acU N,dv,.sl bt 0 s.threads.length]:List AV).all AV.one=true:=λN=>wJ hone
 unfold qL bF at D;clear G;by_cases O:k=6\/k=7\/k=10\/k=11
 .have j:=u O;have hx:=wI j;obtain⟨Z,Y⟩:=ao.1 j;clear B u M hf;rcases O with rfl|rfl|rfl|rfl
  all_goals
   simp only[Int.reduceEq,Int.reduceNeg,if_true,if_false,or_self,or_true,true_or,or_false,false_or,reduceIte,reduceCtorEq]at D
   repeat' (first|refine sy ?_|refine bD rp rfl rfl (E _) rfl ?_|refine s2 ?_ ?_|intro)
   exact D _ (Fz.sls mm (rS rfl) acQ (by simp[cY])) (Fz.sls mm rfl acQ rfl) (λp hp=>by simp only[aaj];simp[hp])
 by_cases S:k=20
 .have j:=B S;subst S;have hx:=oJ j;obtain⟨Z,Y⟩:=ao.1 j;clear B u M hf;simp only[Int.reduceEq,Int.reduceNeg,if_true,if_false,or_self,or_true,true_or,or_false,false_or,reduceIte,reduceCtorEq]at D
  repeat' (first|refine sy ?_|refine bD rp rfl rfl (E _) rfl ?_|refine s2 ?_ ?_|intro)
  exact D _ (Fz.sls mm rfl acQ rfl) (Fz.sls mm (nr rfl) acQ (by simp[dZ])) (λp hp=>by simp only[aaj];simp[hp])
 clear B u hf;rcases M with rfl|rfl|rfl|rfl|rfl|rfl|rfl|rfl|rfl|rfl|rfl|rfl|h
 all_goals try (exfalso;omega)
 all_goals
  simp only[Int.reduceEq,Int.reduceNeg,if_true,if_false,or_self,or_true,true_or,or_false,false_or,reduceIte,reduceCtorEq]at D
  repeat' (first|refine sy ?_|refine bD rp rfl rfl (E _) rfl ?_|refine s2 ?_ ?_|intro)
  first
   |exact D _ (Fz.sls mm rfl acQ rfl) (Fz.sls mm (nr rfl) acQ (by simp[dZ])) (λp hp=>by simp only[aaj];simp[hp])
   |exact D _ (Fz.sls mm rfl acQ rfl) (Fz.sls mm rfl acQ rfl) (λp hp=>by simp only[aaj];simp[hp])
theorem Zj(k:Int)(N:allowedS w k o=true)(M:k=16\/k=17)(u:qL w s t o wake bl bt k R dv Q):NU w s t o wake b7 b12 bl bt k Q dv (LA s b7 b12 bl bt R):=by
 unfold NU;refine vw ?_;simp only[SH.names,LA,aai,abG,aaj,not_or]at hnd;obtain⟨⟨n1,n2,n3,n4⟩,⟨n5,n6,n7⟩,⟨n8,n9⟩,n10,n11⟩:=hnd;unfold LA;have hy:=oJ ht;obtain⟨t0,t1⟩:=ao.1 ht;have B:inB o w.conds.length=true:=by rcases M with rfl|rfl<;>simpa[allowedS]using N
 have G:=Gf hf B;have hx:=wI G;obtain⟨S,O⟩:=ao.1 G;have hcx:=cq (f:=cM.enc) B;obtain⟨c0,c1⟩:=ao.1 B;unfold jI at hx S O;have D:∀E:Int,([.sl bl 0 s.locks.length,.acU E,dv,.sl bt 0 s.threads.length]:List AV).all AV.one=true:=λE=>wJ hone
 have j:∀v,((s.threads.map ThrD.enc).set (0+t.toNat) ((a8 s t).enc.set 0 v))[0+t.toNat]? =some ((a8 s t).enc.set 0 v):=λv=>Rg hy
 have Z:=j (.acU 3);have Y:=j (.acU 2);clear j;unfold qL bF jI at u;clear N hf;rcases M with rfl|rfl
 all_goals
  simp only[Int.reduceEq,Int.reduceNeg,if_true,if_false,or_self,or_true,true_or,or_false,false_or,reduceIte,reduceCtorEq]at u
  repeat' (first|refine sy ?_|refine bD rp rfl rfl (D _) rfl ?_|refine s2 ?_ ?_|intro)
  exact u _ (Fz.sls mm (rS rfl) acQ (by simp[cY])) (Fz.sls mm (by rw[List.set_set];exact nr rfl) acQ (by simp[dZ])) (λp hp=>by simp only[aaj];simp[hp])
theorem Zk(k:Int)(E:k=18\/k=19)(D:s.threads.length<2^40)(u:qL w s t o wake bl bt k R dv Q):NU w s t o wake b7 b12 bl bt k Q dv (LA s b7 b12 bl bt R):=by
 unfold NU;refine vw ?_;simp only[SH.names,LA,aai,abG,aaj,not_or]at hnd;obtain⟨⟨n1,Z,n3,Y⟩,⟨S,O,N⟩,⟨M,G⟩,n10,n11⟩:=hnd;have j:∀B:Int,([.sl bl 0 s.locks.length,.acU B,dv,.sl bt 0 s.threads.length]:List AV).all AV.one=true:=λB=>wJ hone
 unfold LA;unfold qL bF at u;rcases E with rfl|rfl
 all_goals
  simp only[Int.reduceEq,Int.reduceNeg,if_true,if_false,or_self,or_true,true_or,or_false,false_or,reduceIte,reduceCtorEq]at u
  repeat' (first|refine sy ?_|refine bD rp rfl rfl (j _) rfl ?_|((with_reducible refine aN 83 ?_);(refine cQ (O4 _ _ _ bt s.threads o wake D (j _)) rp ?_;rintro _ _ ⟨rfl,rfl⟩))|((with_reducible refine aN 84 ?_);(refine cQ (HR _ _ _ bt s.threads o D (j _)) rp ?_;rintro _ _ ⟨rfl,rfl⟩))|refine s2 ?_ ?_|intro)
  exact u _ (Fz.sls mm rfl acQ rfl) (Fz.sls mm rfl acQ (by first|exact(yw _ _ _).symm|simp[Gk,c9])) (λp hp=>by simp only[aaj,aak];simp[hp])
def V4(bd:Nat)(Q:AV->SH->Prop):Prop:=∀(L:SH),Fz L (.sl bl 0 s.locks.length) (.lst (s.locks.map LockD.enc))->Fz L (.sl bt 0 s.threads.length) (.lst (s.threads.map ThrD.enc))->Fz L (.sl bd 0 s.done.length) (.lst ((s.done.set o.toNat true).map au))->
 Q (.tup [.agg [.sl bl 0 s.locks.length,.acU s.tx,.sl bd 0 s.done.length,.sl bt 0 s.threads.length],.acU 0,.bool true]) L
omit hone hnd in
theorem WU(j:Nat)(hnd:(LA s b7 b12 bl bt [(j,⟨1,s.done.map au⟩)]).names.Nodup)(D:allowedS w 22 o=true)(B:V4 s o bl bt j Q):NU w s t o wake b7 b12 bl bt 22 Q (.sl j 0 s.done.length) (LA s b7 b12 bl bt [(j,⟨1,s.done.map au⟩)]):=by
 unfold NU LA;refine vw ?_;have u:inB o s.done.length=true:=by rw[hf.done];simpa[allowedS]using D
 obtain⟨G,E⟩:=ao.1 u;have M:(s.done.map au)[0+o.toNat]? =some (au (s.done.getD o.toNat default)):=by rw[abI];exact cq u
 repeat' (first|refine sy ?_|refine s2 ?_ ?_|intro)
 refine B _ (Fz.sls mm rfl acQ rfl) (Fz.sls mm rfl acQ rfl) (Fz.sls mm ?_ acQ acQ);rw[abT,abI];rfl
end
end
section
theorem J7{K:SH}{bl:Nat}{rows:List (List AV)}{u:List LockD}{n:Nat}(Z:(bl,⟨2,rows⟩)∈K)(Y:n=u.length)(hl:rows.length=u.length)
  (h:∀(j:Nat) (r:List AV) (x:LockD),rows[j]? =some r->u[j]? =some x->∃a,r=[.acU x.owner,a]/\Fz K a (.lst (x.readers.map aa))):Fz K (.sl bl 0 n) (.lst (u.map LockD.enc)):=by
 subst Y;rcases abZ u.length with N|N
 .have:u=[]:=abU.1 N;subst this;exact .sl0 bl 0
 .have get:∀(j:Nat) (r D:List AV),rows[0+j]? =some r->(u.map LockD.enc)[j]? =some D->∃x:LockD,u[j]? =some x/\D=x.enc/\∃a,r=[.acU x.owner,a]/\Fz K a (.lst (x.readers.map aa)):=λj r D E B=>by
   rw[abI]at E;rw[abn]at B;cases G:u[j]? with
   |none=>rw[G]at B;cases B
   |some x=>rw[G]at B;cases B;exact⟨x,rfl,rfl,h j r x E G⟩
  refine .sl bl 0 _ ⟨2,rows⟩ _ Z acQ N acQ acS (λj r D E B=>?_) (λj r D q a a2 E B M O=>?_)
  .obtain⟨x,_,rfl,a,rfl,_⟩:=get j r D E B;rfl
  .obtain⟨x,_,rfl,a',rfl,S⟩:=get j r D E B
   match q with
   |0=>cases M;cases O;exact .refl _
   |1=>cases M;cases O;exact S
   |q+2=>simp at M
theorem enc_row(x:LockD){K:SH}:∃a,x.enc=[.acU x.owner,a]/\Fz K a (.lst (x.readers.map aa)):=⟨_,rfl,.refl _⟩
theorem NV{K:SH}{s:SyncD}{o:Int}{ro:Option Nat}{f:LockD->LockD}{a:AV}(hl:inB o s.locks.length=true)(M:∀x,(f x).owner=x.owner)(N:Fz K a (.lst ((f (aQ s o)).readers.map aa))):
  ∀(j:Nat) (r:List AV) (x:LockD),((cV o.toNat ro s.locks).set (0+o.toNat) [.acU (aQ s o).owner,a])[j]? =some r->(cY s o f)[j]? =some x->∃a,r=[.acU x.owner,a]/\Fz K a (.lst (x.readers.map aa)):=by
 intro j r x B u;obtain⟨S,O⟩:=ao.1 hl;have D:o.toNat<s.locks.length:=by omega
 unfold cY at u;rw[abI]at B;by_cases G:o.toNat=j
 .subst G;rw[List.getElem?_set_self (by rw[dh];exact D)]at B;rw[List.getElem?_set_self D]at u;cases B;cases u;exact⟨a,by rw[M],N⟩
 .rw[List.getElem?_set_ne G]at B u;have E:j<s.locks.length:=(abL.1 u).1;rw[iq _ _ _ _ E]at B;rw[mt E]at u;cases B;cases u;unfold pw;rw[if_neg (λe=>G e.symm)];exact enc_row _
theorem J8{s:SyncD}{o:Int}{ro:Option Nat}(hl:inB o s.locks.length=true):(cV o.toNat ro s.locks)[0+o.toNat]? =some [.acU (aQ s o).owner,af ro (aQ s o).readers.length]:=by
 obtain⟨B,u⟩:=ao.1 hl;have j:o.toNat<s.locks.length:=by omega
 rw[abI,iq _ _ _ _ j];unfold pw;rw[if_pos rfl];simp[aQ,j]
section
variable (w:aF) (s:SyncD) (t o wake:Int) (b7 b12 bl bt:Nat)
def Rh(ro:Option Nat)(R:SH):SH:=(bl,⟨2,cV o.toNat ro s.locks⟩)::(bt,⟨3,s.threads.map ThrD.enc⟩)::(b12,⟨4,[[.nils,.acU 0,.nils,.nils]]⟩)::(b7,⟨4,[s.enc]⟩)::(ab ro 1 ((aQ s o).readers.map aa)++R)
variable (R:SH) (dv:AV) (hone:dv.one=true) (Q:AV->SH->Prop) (hl:inB o s.locks.length=true) (hrd:(aQ s o).readers.length<2^40)
include hone hl hrd
theorem Zl(B:Nat)(j:(Rh s o b7 b12 bl bt (some B) R).names.Nodup)(D:qL w s t o wake bl bt 9 R dv Q):NU w s t o wake b7 b12 bl bt 9 Q dv (Rh s o b7 b12 bl bt (some B) R):=by
 unfold NU;refine vw ?_;unfold qL bF at D;simp only[Int.reduceEq,Int.reduceNeg,if_true,if_false,or_self,or_true,true_or,or_false,false_or,reduceIte,reduceCtorEq]at D;simp only[SH.names,Rh,ab,aai,abG,aaj,not_or,abX,abK]at j;obtain⟨⟨n1,n2,n3,n4,n12⟩,⟨n5,n6,n7,Z⟩,⟨n8,n9,Y⟩,⟨S,O⟩,n10,n11⟩:=j;have E:∀N:Int,([.sl bl 0 s.locks.length,.acU N,dv,.sl bt 0 s.threads.length]:List AV).all AV.one=true:=λN=>wJ hone
 obtain⟨o0,o1⟩:=ao.1 hl;have hx:=J8 (ro:=some B) hl;have u:=EU 82 [.pptr [[.acU t]] 0 0] (λx=>decide (x=t)) (O6 t 0 []) B (aQ s o).readers acN;unfold Rh;simp only[ab,abX,abK]
 repeat' (first|refine sy ?_|refine bD rp rfl rfl (E _) rfl ?_|((with_reducible refine cy 81 ?_);(refine ee u rp (by(simp only[rm,rc,rz,W.free,co,↓reduceIte,Nat.reduceEqDiff,ai,dV,aco,abz,abA,not_false_eq_true,implies_true,and_true,true_and,and_self,abj,reduceCtorEq,forall_const,false_implies,aag,forall_eq,aby,abK,aaj,or_false,false_or,forall_eq_or_imp,not_or])<;>(repeat' constructor)<;>first|assumption|(exact Ne.symm acO)|(intro e_;subst e_;simp[SH.names]at *;done)) ?_;rintro _ _ ⟨R',rfl,rfl,M,G⟩))|refine s2 ?_ ?_|intro)
 refine D _ (J7 rp (by simp[cY]) (by simp[cY,dh]) (NV hl (λ_=>rfl) ?_)) (Fz.sls rp rfl acQ rfl) (λp hp=>by simp only[aaj,aak];simp[hp]);rw[<-J2 M];exact Fz.rows (x:=⟨1,R'.map aa⟩) rp acQ (by simp[G];exact aci _ _)
theorem Zm(ro:Option Nat)(M:ro=none->(aQ s o).readers=[])(E:(Rh s o b7 b12 bl bt ro R).names.Nodup)(N:qL w s t o wake bl bt 8 R dv Q):NU w s t o wake b7 b12 bl bt 8 Q dv (Rh s o b7 b12 bl bt ro R):=by
 unfold NU;refine vw ?_;unfold qL bF at N;simp only[Int.reduceEq,Int.reduceNeg,if_true,if_false,or_self,or_true,true_or,or_false,false_or,reduceIte,reduceCtorEq]at N;simp only[SH.names,Rh,aai,abG,aaj,not_or]at E;obtain⟨⟨n1,n2,n3,n4⟩,⟨n5,n6,n7⟩,⟨n8,n9⟩,n10,n11⟩:=E;have O:∀Z:Int,([.sl bl 0 s.locks.length,.acU Z,dv,.sl bt 0 s.threads.length]:List AV).all AV.one=true:=λZ=>wJ hone
 obtain⟨o0,o1⟩:=ao.1 hl;have hx:=J8 (ro:=ro) hl;have B:∀j,ac Tryz.prog 79 [.sl j 0 ((aQ s o).readers.length+1)] [(j,⟨1,(aQ s o).readers.map aa++[[.acU t]]⟩)] λv L=>v=.tup []/\L=[(j,⟨1,(yr ((aQ s o).readers++[t])).map aa⟩)]:=λj=>by have:=T6 j ((aQ s o).readers++[t]) acS;rw[aal,ST]at this;exact this
 have D:∀j,ac Tryz.prog 80 [.sl j 0 ((aQ s o).readers.length+1)] [(j,⟨1,(yr ((aQ s o).readers++[t])).map aa⟩)] λv L=>∃G:List Int,v=.sl j 0 (wH (aQ s o).readers t).length/\L=[(j,⟨1,G.map aa⟩)]/\G.take (wH (aQ s o).readers t).length=wH (aQ s o).readers t/\(wH (aQ s o).readers t).length<=G.length:=λj=>by
  have:=Mi j (yr ((aQ s o).readers++[t])) (by rw[A0];simp;omega);rw[A0,aal]at this;refine this.mono λv L ⟨h1,h2⟩=>⟨_,h1,h2,?_,?_⟩
  .exact List.take_left' rfl
  .simp[wH]
 unfold Rh
 repeat' (first|refine sy ?_|refine bD rp rfl rfl (O _) rfl ?_|(refine JF [_,_,_,_] acQ (λe=>by rw[M e];rfl) rfl (aaq 0) acS acS rfl ?_;intro nb_ u;simp only[aaj,abA,or_false,forall_eq_or_imp,forall_eq]at u;obtain⟨q1,q2,q3,q4⟩:=u)|((with_reducible refine aN 79 ?_);(refine cQ (B _) rp ?_;rintro _ _ ⟨rfl,rfl⟩))|((with_reducible refine cy 80 ?_);(refine ee (D _) rp (by(simp only[rm,rc,rz,W.free,co,↓reduceIte,Nat.reduceEqDiff,ai,dV,aco,abz,abA,not_false_eq_true,implies_true,and_true,true_and,and_self,abj,reduceCtorEq,forall_const,false_implies,aag,forall_eq,aby,abK,aaj,or_false,false_or,forall_eq_or_imp,not_or])<;>(repeat' constructor)<;>first|assumption|(exact Ne.symm acO)|(intro e_;subst e_;simp[SH.names]at *;done)) ?_;rintro _ _ ⟨G,rfl,rfl,Y,S⟩))|refine s2 ?_ ?_|intro)
 refine N _ (J7 rp (by simp[cY]) (by simp[cY,dh]) (NV hl (λ_=>rfl) ?_)) (Fz.sls rp rfl acQ rfl) (λp hp=>by simp only[aaj,aak];simp[hp]);rw[<-J2 Y];exact Fz.rows (x:=⟨1,G.map aa⟩) rp acQ (by simp;exact S)
end
end
section
def Gl:SyncD:=⟨[],0,[],[]⟩
def dx(w:aF)(s:SyncD)(t k o wake:Int):SyncD×Int×Bool:=if aC w s t k o then((bF w s t k o wake).1,(bF w s t k o wake).2,true)else(Gl,0,false)
def EV(r:SyncD×Int×Bool):AV:=.tup [.agg r.1.enc,.acU r.2.1,.bool r.2.2]
theorem HT(ro:Option Nat)(u:List LockD):cV u.length ro u=u.map LockD.enc:=by
 apply acp;intro i;rcases LE i u.length with j|j
 .rw[iq _ _ _ _ j,pw,if_neg acN];simp[j]
 .rw[aah (by rw[dh];exact j),aah (by simpa using j)]
section
variable (s:SyncD) (h1:s.locks.length<2^40) (h2:s.done.length<=140737488351232) (h3:s.threads.length<2^40) (hrd:∀l∈s.locks,l.readers.length<2^40) (hne:s.threads≠[])
include h1 h2 h3 hrd hne
theorem J9:ac Tryz.prog 78 [.agg s.enc] [] λv L=>∃u bt j,v=.agg [.sl u 0 s.locks.length,.acU s.tx,cU j s.done.length,.sl bt 0 s.threads.length]/\L=(u,⟨2,s.locks.map LockD.enc⟩)::(ab j 1 (s.done.map au)++[(bt,⟨3,s.threads.map ThrD.enc⟩)])/\(j=none->s.done=[]):=by
 refine(J5 s s.locks.length h1 h2 h3 hrd).mono ?_;rintro v L ⟨u,M,j,E,rfl,rfl,D,B,G⟩;cases E with
 |none=>exact absurd (B rfl) hne
 |some bt=>exact⟨u,bt,j,rfl,by rw[HT,IT,if_neg (Nat.lt_irrefl _)];rfl,D⟩
theorem Ri(o:Int)(N:inB o s.locks.length=true):ac Tryz.prog 78 [.agg s.enc] [] λv L=>∃B bt ro j,v=.agg [.sl B 0 s.locks.length,.acU s.tx,cU j s.done.length,.sl bt 0 s.threads.length]/\L=(B,⟨2,cV o.toNat ro s.locks⟩)::(ab ro 1 ((aQ s o).readers.map aa)++(ab j 1 (s.done.map au)++[(bt,⟨3,s.threads.map ThrD.enc⟩)]))/\(j=none->s.done=[])/\(ro=none->(aQ s o).readers=[]):=by
 obtain⟨S,O⟩:=ao.1 N;have u:o.toNat<s.locks.length:=by omega
 refine(J5 s o.toNat h1 h2 h3 hrd).mono ?_;rintro v L ⟨B,ro,j,M,rfl,rfl,G,E,D⟩;cases M with
 |none=>exact absurd (E rfl) hne
 |some bt=>exact⟨B,bt,ro,j,rfl,by rw[IT,if_pos u];rfl,G,λe=>D e u⟩
end
theorem Rj{α:Type}(a b c d:α)(X:List α):((a::(X++[b]))++[c,d]).Perm (a::b::c::d::X):=by refine List.Perm.cons a ?_;show((X++[b])++[c,d]).Perm _;rw[abr];exact aar (l₁:=X) (l₂:=[b,c,d])
theorem WW{α:Type}(a b c d:α)(X Y:List α):((a::(X++(Y++[b])))++[c,d]).Perm (a::b::c::d::(X++Y)):=by rw[<-List.append_assoc];exact Rj a b c d (X++Y)
theorem i7(j:Option Nat)(n:Nat):(cU j n).one=true:=by cases j<;>rfl
theorem T9{s:SyncD}{j:Option Nat}(u:j=none->s.done=[]){L:SH}(B:∀p∈ab j 1 (s.done.map au),p∈L):Fz L (cU j s.done.length) (.lst (s.done.map au)):=by
 cases j with
 |none=>rw[u rfl];exact .refl _
 |some D=>exact Fz.sls (B _ (aag.2 rfl)) rfl acQ rfl
structure CJ(w:aF)(s:SyncD):Prop where
 conds:w.conds.length<2^40
 locks:s.locks.length<2^40
 done:s.done.length<=140737488351232
 threads:s.threads.length<2^40
 rd:∀l∈s.locks,l.readers.length<2^40
section
variable (w:aF) (s:SyncD) (t k o wake:Int)
def At(v:AV)(L:SH):Prop:=∃v2 L2,ax [v] L [v2] L2/\v2=EV (dx w s t k o wake)/\L2=[]
theorem Ml(j:k≠22):(bF w s t k o wake).1.done=s.done:=by
 unfold bF
 repeat' refine iteInduction (motive:=λp:SyncD×Int=>p.1.done=s.done) (λ_=>?_) (λ_=>?_)
 all_goals first
  |rfl
  |(exfalso;omega)
theorem Zn(B:aC w s t k o=true)(D:k≠22)(N bt:Nat)(j:Option Nat)(u:j=none->s.done=[]):qL w s t o wake N bt k (ab j 1 (s.done.map au)) (cU j s.done.length) (At w s t k o wake):=by intro L M G E;refine⟨_,[],ax.all (Fz.tups (.cons (Fz.aggs (.cons M (.cons (.refl _) (.cons (T9 u E) (.cons G .nil))))) (.cons (.refl _) (.cons (.refl _) .nil)))),?_,rfl⟩;unfold dx;rw[if_pos B];show _=AV.tup [.agg (bF w s t k o wake).1.enc,.acU _,.bool true];unfold SyncD.enc;rw[Ml w s t k o wake D]
theorem Zo(j:aC w s t 22 o=true)(E bt G:Nat):V4 s o E bt G (At w s t 22 o wake):=by intro L D B u;refine⟨_,[],ax.all (Fz.tups (.cons (Fz.aggs (.cons D (.cons (.refl _) (.cons u (.cons B .nil))))) (.cons (.refl _) (.cons (.refl _) .nil)))),?_,rfl⟩;unfold dx;rw[if_pos j];rfl
def NW(b7 b12:Nat):Prop:=W.callM Tryz.prog 78 [.agg s.enc] [(b12,⟨4,[[.nils,.acU 0,.nils,.nils]]⟩),(b7,⟨4,[s.enc]⟩)] (pt (At w s t k o wake) (.acU k) (.acU o) (.acU wake) (.ptr b7 0 0) (.pptr [[.acU t]] 0 0) (.ptr b12 0 0) (.pptr [w.enc] 0 0))
theorem Rk(hs:CJ w s)(hen:aC w s t k o=true)(N u:Nat):
  NW w s t k o wake N u:=by
 have Y:=hen;unfold aC at Y;simp only[aas]at Y;obtain⟨⟨⟨hfi,hth⟩,hal⟩,hkd⟩:=Y;have hf:=cH.1 hfi;have ht:inB t s.threads.length=true:=by rw[hf.threads];exact hth
 obtain⟨t0,t1⟩:=ao.1 ht;have hne:s.threads≠[]:=λe=>by rw[e]at t1;simp at t1;omega
 have M:(∀D B E,(E=none->s.done=[])->(LA s N u D B (ab E 1 (s.done.map au))).names.Nodup->NU w s t o wake N u D B k (At w s t k o wake) (cU E s.done.length) (LA s N u D B (ab E 1 (s.done.map au))))->
   NW w s t k o wake N u:=λh=>by
  refine vH (J9 s hs.locks hs.done hs.threads hs.rd hne) ?_;rintro v K ⟨D,B,E,rfl,rfl,j⟩;exact⟨LA s N u D B (ab E 1 (s.done.map au)),Rj _ _ _ _ _,h D B E j⟩
 have readers:inB o s.locks.length=true->(∀D B Z E,(E=none->s.done=[])->(Z=none->(aQ s o).readers=[])->(Rh s o N u D B Z (ab E 1 (s.done.map au))).names.Nodup->NU w s t o wake N u D B k (At w s t k o wake) (cU E s.done.length) (Rh s o N u D B Z (ab E 1 (s.done.map au))))->
   NW w s t k o wake N u:=λS h=>by
  refine vH (Ri s hs.locks hs.done hs.threads hs.rd hne o S) ?_;rintro v K ⟨D,B,Z,E,rfl,rfl,j,O⟩;exact⟨Rh s o N u D B Z (ab E 1 (s.done.map au)),WW _ _ _ _ _ _,h D B Z E j O⟩
 have hrl:∀o,inB o s.locks.length=true->(aQ s o).readers.length<2^40:=λo h=>by
  obtain⟨o0,o1⟩:=ao.1 h;have hlt:o.toNat<s.locks.length:=by omega
  unfold aQ;rw[show s.locks.getD o.toNat default=s.locks[o.toNat] by simp[hlt]];exact hs.rd _ (LT hlt)
 by_cases h22:k=22
 .subst h22;refine M λD B E j G=>?_
  cases E with
  |none=>
   have S:inB o s.done.length=true:=by rw[hf.done];simpa[allowedS]using hal
   obtain⟨o0,o1⟩:=ao.1 S;rw[j rfl]at o1;simp at o1;omega
  |some bd=>exact WU w s t o wake N u D B _ hf ht bd G hal (Zo w s t o wake hen D B bd)
 have e1:=λD B E j=>Zn w s t k o wake hen h22 D B E j
 by_cases h8:k=8
 .subst h8;have S:inB o s.locks.length=true:=by rw[hf.locks];simp[allowedS]at hal;exact hal.1
  exact readers S λD B Z E j O G=>Zm w s t o wake N u D B _ _ (i7 _ _) _ S (hrl o S) Z O G (e1 D B E j)
 by_cases h9:k=9
 .subst h9;have S:inB o s.locks.length=true:=by rw[hf.locks];simp[allowedS]at hal;exact hal.1
  refine readers S λD B Z E j O G=>?_
  cases Z with
  |none=>
   have hc:(aQ s o).readers.contains t=true:=by have:=hkd;simp[df]at this;simpa using this.2
   rw[O rfl]at hc;cases hc
  |some br=>exact Zl w s t o wake N u D B _ _ (i7 _ _) _ S (hrl o S) br G (e1 D B E j)
 by_cases h16:k=16\/k=17
 .exact M λD B E j G=>Zj w s t o wake N u D B _ _ (i7 _ _) _ hf ht G k hal h16 (e1 D B E j)
 by_cases h18:k=18\/k=19
 .exact M λD B E j G=>Zk w s t o wake N u D B _ _ (i7 _ _) _ hf ht G k h18 hs.threads (e1 D B E j)
 rcases wF k with hk|hk
 .rw[fD hk]at hal;cases hal
 .exact M λD B E j G=>Zi w s t o wake N u D B _ _ (i7 _ _) _ hf ht G k hal acN (e1 D B E j)
theorem Rl(B:CJ w s):aq Tryz.prog 49 [.agg w.enc,.agg s.enc,.acU t,.acU k,.acU o,.acU wake] (EV (dx w s t k o wake)):=by
 refine ac.fz (As _ _ _ _ _ _ _ _ ?_);show qJ _ _ _ _ _ _ _ (At w s t k o wake);refine vw ?_;have D:w.conds.length<2^62:=by have:=B.conds;omega
 have E:=CI w s t k o D B.rd;have j:=Rk w s t k o wake B;unfold NW at j;have fin:aC w s t k o=false->∀L,At w s t k o wake (.tup [.agg [.nils,.acU 0,.nils,.nils],.acU 0,.bool false]) L:=λG L=>by refine⟨_,[],ax.all (Fz.tups (.cons (Fz.aggs (.cons .nils (.cons (.refl _) (.cons .nils (.cons .nils .nil))))) (.cons (.refl _) (.cons (.refl _) .nil)))),?_,rfl⟩;unfold dx;rw[G];rfl
 generalize At w s t k o wake=Q at *;cases u:aC w s t k o with
 |false=>
  rw[u]at E;have M:(!false)=true:=rfl;have fin:=fin u;clear j
  repeat' (first|refine sy ?_|refine s2 ?_ ?_|intro)
  exact fin _
 |true=>
  rw[u]at E;have j:=j u;clear fin
  repeat' (first|exact j _ _|refine sy ?_|refine s2 ?_ ?_|intro)
end
end
structure bA where
 thread:Int
 kind:Int
 obj:Int
 value:Int
 site:Int
 deps:List Int
 frm:List Int
def bA.enc(e:bA):List AV:=[.acU e.thread,.acU e.kind,.acU e.obj,.acU e.value,.acU e.site,.lst (e.deps.map aa),.lst (e.frm.map aa)]
structure eE where
 sync:SyncD
 cells:List Int
 futures:List Int
 threads:List bI
def eE.enc(s:eE):List AV:=[.lst (s.sync.locks.map LockD.enc),.acU s.sync.tx,.lst (s.sync.done.map au),.lst (s.sync.threads.map ThrD.enc),.lst (s.cells.map aa),.lst (s.futures.map aa),.lst (s.threads.map bI.enc)]
def jv(op:Int):Int:=Bi.getD op.toNat 0
def ixS(i n:Int):Int:=if n<1 then 0 else if i.tmod n<0 then IntKind.i64.wrap (i.tmod n+n)else i.tmod n
def fN(i:cb)(s:bI)(t:Int):bA:=
 let e:bA:=⟨t,jv i.op,i.a,0,i.site,[],[]⟩
 if i.op=6\/i.op=27 then {e with obj:=i.b}
 else if i.op=7 then {e with obj:=IntKind.i64.wrap (i.b+ixS (s.reg i.c) i.n),deps:=s.tnt i.c}
 else if i.op=8\/i.op=26 then {e with frm:=s.tnt i.b}
 else if i.op=9 then {e with obj:=IntKind.i64.wrap (i.a+ixS (s.reg i.c) i.n),deps:=s.tnt i.c,frm:=s.tnt i.b}
 else if i.op=10 then {e with obj:=-1,deps:=s.tnt i.a}
 else if i.op=28\/i.op=17\/i.op=18\/i.op=19\/i.op=20 then {e with obj:=-1}
 else e
def aE(c:bP)(t:Int):i6:=c.ts.getD t.toNat ⟨0,[]⟩
def aI(s:eE)(t:Int):bI:=s.threads.getD t.toNat bI.zero
def cK(c:i6)(k:Int):cb:=c.ins.getD k.toNat default
def uF(c:bP)(s:eE)(t:Int):Bool:=
 inB t c.ts.length&&inB t s.threads.length&&inB t s.sync.threads.length&&inB (aI s t).pc (aE c t).ins.length&&decide (((aI s t).regs.length:Int)=(aE c t).regs)&&decide (((aI s t).taint.length:Int)=(aE c t).regs)
def eI(c:bP)(s:eE)(t:Int):Option bA:=
 if uF c s t then
  let i:=cK (aE c t) (aI s t).pc
  if(a8 s.sync t).status=1 then some ⟨t,1,-1,0,-1,[],[]⟩
  else if(a8 s.sync t).status=4 then some ⟨t,17,(a8 s.sync t).cond,0,i.site,[],[]⟩
  else if(a8 s.sync t).status=2 then(if jv i.op≠0 then some (fN i (aI s t) t)else none)
  else none
 else none
structure Ue where
 value:Int
 cells:List Int
 futures:List Int
 thread:bI
def oL(l:List Int)(o:Int):Int:=l.getD o.toNat 0
def fe(i:cb)(e:bA)(s:eE)(th:bI)(sv:Int):Ue:=
 let nx:Int:=IntKind.i64.wrap (th.pc+1)
 let ev:Int:=IntKind.i64.wrap (th.ev+1)
 if e.kind=3 then⟨oL s.cells e.obj,s.cells,s.futures,⟨nx,th.regs.set i.a.toNat (oL s.cells e.obj),th.taint.set i.a.toNat [th.ev],ev⟩⟩
 else if e.kind=23 then⟨oL s.futures e.obj,s.cells,s.futures,⟨nx,th.regs.set i.a.toNat (oL s.futures e.obj),th.taint.set i.a.toNat [th.ev],ev⟩⟩
 else if e.kind=4 then⟨th.reg i.b,s.cells.set e.obj.toNat (th.reg i.b),s.futures,⟨nx,th.regs,th.taint,ev⟩⟩
 else if e.kind=22 then⟨th.reg i.b,s.cells,s.futures.set e.obj.toNat (th.reg i.b),⟨nx,th.regs,th.taint,ev⟩⟩
 else if e.kind=5 then(if th.reg i.a≠0 then⟨1,s.cells,s.futures,⟨nx,th.regs,th.taint,ev⟩⟩else⟨e.value,s.cells,s.futures,⟨i.b,th.regs,th.taint,ev⟩⟩)
 else if e.kind=18\/e.kind=19 then⟨sv,s.cells,s.futures,⟨nx,th.regs,th.taint,ev⟩⟩
 else if e.kind=1\/e.kind=16\/e.kind=2 then⟨e.value,s.cells,s.futures,⟨th.pc,th.regs,th.taint,ev⟩⟩
 else⟨e.value,s.cells,s.futures,⟨nx,th.regs,th.taint,ev⟩⟩
def nz(c:bP)(s:eE)(t wake:Int):Option (eE×bA):=
 match eI c s t with
 |none=>none
 |some e=>
  if s.cells.length=c.w.cells.length/\s.futures.length=c.w.futures.length then
   let r:=dx c.w s.sync t e.kind e.obj wake
   if r.2.2 then
    let a:=fe (cK (aE c t) (aI s t).pc) e s (aI s t) r.2.1
    let e':={e with value:=a.value}
    if e.kind≠16/\e.kind≠2 then
     let z:=cD (aE c t) a.thread
     if z.2 then some (⟨r.1,a.cells,a.futures,s.threads.set t.toNat z.1⟩,e')else none
    else some (⟨r.1,a.cells,a.futures,s.threads.set t.toNat a.thread⟩,e')
   else none
  else none
def du(c:bP):eE:=⟨bM c.w,c.w.cells.map aU.init,List.replicate c.w.futures.length 0,c.ts.map λt=>⟨0,List.replicate t.regs.toNat 0,List.replicate t.regs.toNat [],0⟩⟩
def IU(c:bP)(p:List bA×eE)(ch:aD):List bA×eE:=
 if 400<=p.1.length then p else match nz c p.2 ch.thread ch.wake with
  |none=>p
  |some (n,e)=>(p.1++[e],n)
def lS(c:bP)(l:List aD):List bA×eE:=l.foldl (IU c) ([],du c)
section
theorem fl{K:SH}{l m:List AV}(h:fy K l m:=by repeat' first|exact .nil|refine .cons ?_ ?_|exact .refl _|exact .nils):fy K l m:=h
theorem ops(k:Int)(j:1<=k)(h2:k<=28):k=1\/k=2\/k=3\/k=4\/k=5\/k=6\/k=7\/k=8\/k=9\/k=10\/k=11\/k=12\/k=13\/k=14\/k=15\/k=16\/k=17\/k=18\/k=19\/k=20\/k=21\/k=22\/k=23\/k=24\/k=25\/k=26\/k=27\/k=28:=by omega
theorem Mn{s:bI}{r:Int}(u:0<=r)(j:r<s.regs.length):(s.regs.map aa)[r.toNat]? =some [.acU (s.reg r)]:=by
 have:r.toNat<s.regs.length:=by omega
 simp[bI.reg,this,aa]
theorem Rt{s:bI}{r:Int}(u:0<=r)(j:r<s.taint.length):(s.taint.map eX)[r.toNat]? =some [.lst ((s.tnt r).map aa)]:=by
 have:r.toNat<s.taint.length:=by omega
 simp[bI.tnt,this,eX]
section
variable {s:bI} {t op ia ib ic m site:Int} (hr:∀r∈bS ⟨op,ia,ib,ic,m,site⟩,0<=r/\r<s.regs.length) (ht:s.taint.length=s.regs.length) (hs:∀r,(s.tnt r).length*8<=140737488355328) {Q:R} (hq:∀v L,(∀K,fy K v (fN ⟨op,ia,ib,ic,m,site⟩ s t).enc)->Q (.agg v) L)
include hr ht hs hq
end
end
def bA.zero:bA:=⟨0,0,0,0,0,[],[]⟩
def N0(e:Option bA):AV:=match e with
 |some e=>.tup [.agg e.enc,.bool true]
 |none=>.tup [.agg bA.zero.enc,.bool false]
def CM(c:i6):Prop:=∀i∈c.ins,1<=i.op/\i.op<=28/\∀r∈bS i,0<=r/\r<c.regs
def CN{α:Type}{f:α->List AV}{l:List α}{i:Int}{d:α}(h:inB i l.length=true):(l.map f)[i.toNat]? =some (f (l.getD i.toNat d)):=by
 obtain⟨u,j⟩:=ao.1 h;have:i.toNat<l.length:=by omega
 simp[this]
def j9{α:Type}{l:List α}{i:Int}{d:α}(h:inB i l.length=true):l.getD i.toNat d∈l:=by
 obtain⟨u,j⟩:=ao.1 h;have:i.toNat<l.length:=by omega
 simp[this]
def fq{b B i k n by_:Nat}{rows m:List (List AV)}{L D:SH}{KL:AV->SH->Prop}(N:(B,(⟨n,m⟩:Blk))∈L)(u:dF b ⟨n,rows⟩ L D)(E:rows.length=i)(G:k=m.length)(h2:2*(i+m.length)*by_<=2^48)(O:2*(i+m.length)<=2^62)(h4:(m.all λr=>r.all AV.one)=true)
  (h:∀j,j∉L.names->KL (.sl j 0 (i+m.length)) ((j,⟨n,rows++m⟩)::D)):W.append n by_ (.sl b 0 i) (.sl B 0 k) L KL:=by
 subst G;subst E;exact lJ (y:=⟨n,rows⟩) (l:=rows) u.mem' rfl acQ acQ (j7 N rfl rfl) h2 O h4 u (λj M=>h j M)
def ca:List AV:=[.nils,.acU 0,.nils,.nils,.nils,.nils,.nils]
section
def i8:List AV:=[.acU 0,.acU 0,.acU 0,.acU 0,.acU 0,.nils,.nils]
theorem Ke{α:Type}{l:List α}{n:Nat}(r:α)(h:n<l.length):(l.set n r)[n]? =some r:=by simp[h]
theorem ax.rowV{vs u:List AV}{L K R:SH}{b n:Nat}{rows rows':List (List AV)}(S:L.Perm (K++(b,⟨n,rows⟩)::R))(G:fy K vs u)(B:rows.length=rows'.length)(O:∀(j:Nat) (r E:List AV),rows[j]? =some r->rows'[j]? =some E->fy K r E):ax vs L u ((b,⟨n,rows'⟩)::R):=by
 refine⟨K,(b,⟨n,rows⟩)::R,S,⟨G.at_.1,G.at_.2⟩,rfl,λi p q h1 D=>?_⟩
 match i with
 |0=>cases h1;cases D;exact⟨rfl,rfl,B,λj s s2 g1 g2=>(O j s s2 g1 g2).at_⟩
 |i+1=>simp only[acj]at h1 D;rw[h1]at D;cases D;exact⟨rfl,rfl,rfl,λj r r2 Z N=>by rw[Z]at N;cases N;exact⟨rfl,λk a a2 Y M=>by rw[Y]at M;cases M;exact .refl _⟩⟩
section
variable (c:bP) (l:List bI) (t wake:Int) (h1:inB t l.length=true) (hc:inB t c.ts.length=true) (p pc0 ev0:Int) (rg:List Int) (tn:List (List Int)) (g1 g2:AV) (sy:SyncD) (x y:AV) (hx:x=.lst []\/∃b n,x=.sl b 0 n) (hy:y=.lst []\/∃b n,y=.sl b 0 n)
 (e1 ek eo ev es:Int) (d f:List Int) (b132 b24 b8 b6 bt:Nat) (K RZ RR A:SH) (hA:A=[]\/∃q,A=[q]) (hR:(A++RR).Perm (K++RZ)) (hg:Fz K g1 (.lst (rg.map aa))) (hg2:Fz K g2 (.lst (tn.map eX)))
 (hn1:b24≠b6) (go1:g1.one=true) (go2:g2.one=true) (Q:R)
include h1 hc hn1 hx hy hA hR hg hg2
end
end
section
def eE.zero:eE:=⟨Gl,[],[],[]⟩
def Kf(r:Option (eE×bA)):AV:=match r with
 |some r=>.tup [.agg r.1.enc,.agg r.2.enc,.bool true]
 |none=>.tup [.agg eE.zero.enc,.agg bA.zero.enc,.bool false]
def Au(c:bP)(s:eE)(t:Int)(r1:SyncD)(e:bA)(a:Ue):Option (eE×bA):=
 if e.kind≠16/\e.kind≠2 then
  (if(cD (aE c t) a.thread).2 then some (⟨r1,a.cells,a.futures,s.threads.set t.toNat (cD (aE c t) a.thread).1⟩,{e with value:=a.value})else none)
 else some (⟨r1,a.cells,a.futures,s.threads.set t.toNat a.thread⟩,{e with value:=a.value})
theorem Kg(K:SH):Fz K (.tup [.agg ca,.agg i8,.bool false]) (Kf none):=
 Fz.tups (.cons (Fz.aggs (by unfold ca eE.zero eE.enc Gl;exact fl)) (.cons (Fz.aggs (by unfold i8 bA.zero bA.enc;exact fl)) (.cons (.refl _) .nil)))
theorem Ru{α:Type}{f:α->List AV}{L:SH}{bt n m:Nat}{l:List α}{k:Nat}{r:List AV}{y:α}(Y:0<n)(G:m=l.length)(hk:k<l.length)(Z:(bt,(⟨n,(l.map f).set k r⟩:Blk))∈L)(S:fy L r (f y)):Fz L (.sl bt 0 m) (.lst ((l.set k y).map f)):=by
 subst G;have E:∀(j:Nat) (x D:List AV),((l.map f).set k r)[0+j]? =some x->((l.set k y).map f)[j]? =some D->fy L x D:=by
  intro j x D B u;rw[abT]at u;rw[abI]at B;rw[abs]at B u;by_cases M:k=j
  .rw[if_pos M,if_pos (by simpa using hk)]at B u;cases B;cases u;exact S
  .rw[if_neg M]at B u;rw[B]at u;cases u;exact fy.refl _ _
 exact .sl bt 0 l.length _ _ Z Y acN acQ acQ (λj x D B u=>(E j x D B u).at_.1) (λj x D q a a2 B u O N=>(E j x D B u).at_.2 q a a2 O N)
theorem WZ{L:SH}{bt:Nat}{l:List bI}{k:Nat}{r:List AV}{th:bI}(B:k<l.length)(u:(bt,(⟨4,(l.map bI.enc).set k r⟩:Blk))∈L)(j:fy L r th.enc):Fz L (.sl bt 0 l.length) (.lst ((l.set k th).map bI.enc)):=Ru acR rfl B u j
section
variable (c:bP) (s:eE) (t wake:Int) (h1:inB t s.threads.length=true) (hc:inB t c.ts.length=true) (sy:SyncD) (e:bA) (a:Ue) (b132 b24 b8 b6 bt:Nat) (oc of:Option Nat) (K RZ RR A:SH) (hA:A=[]\/∃q,A=[q]) (hA0:e.kind=16\/e.kind=2->A=[]) (hR:(A++RR).Perm (K++RZ))
  (g1 g2:AV) (hg:∀L:SH,(∀q∈K,q∈L)->Fz L g1 (.lst (a.thread.regs.map aa))) (hg2:∀L:SH,(∀q∈K,q∈L)->Fz L g2 (.lst (a.thread.taint.map eX))) (hn1:b24≠b6)
  (hoc:oc=none->a.cells=[]) (hof:of=none->a.futures=[]) (hmc:∀b,oc=some b->∃rows,rows=a.cells.map aa/\(b,(⟨1,rows⟩:Blk))∈RZ) (hmf:∀b,of=some b->∃rows,rows=a.futures.map aa/\(b,(⟨1,rows⟩:Blk))∈RZ)
   (pc0 ev0:Int) (hev:a.thread.ev=IntKind.i64.wrap (ev0+1)) (Q:R) (hq:∀v L,Fz L v (Kf (Au c s t sy e a))->Q v L)
include h1 hc hA hA0 hR hg hg2 hn1 hoc hof hmc hmf hev hq
end
end
section
theorem aO{B:SH->Prop}{n b i j:Nat}{v:AV}{x:Blk}{r cs:List AV}{L u:SH}(D:Bx b x ⟨x.size,x.rows.set i (aR r j cs)⟩ L u)(h1:x.rows[i]? =some r)(h2:v.cells? =some cs)(G:cs.length=n)(h4:cs.all AV.one=true)(E:j+n<=r.length)(h:B u):W.store n (.ptr b i j) v L B:=⟨x,r,cs,u,h1,h2,G,h4,E,D,h⟩
theorem aw{n b m:Nat}{k:IntKind}{i:Int}{y:Blk}{L:SH}{K:AV->Prop}(u:0<=i)(h1:i.toNat<m)(j:(b,y)∈L)(h2:y.size=n)(h:K (.ptr b i.toNat 0)):W.idx n (.sl b 0 m) (.int k i) L K:=Hf u h1 j h2 (by rw[abI];exact h)
section
variable (c:bP) (s:eE) (t wake:Int) (h1:inB t s.threads.length=true) (hc:inB t c.ts.length=true) (th:bI) (hth:aI s t=th) (i:cb) (hi:cK (aE c t) th.pc=i) (hpc:inB th.pc (aE c t).ins.length=true) (sy:SyncD) (sv:Int) (e:bA) (b132 b24 b8 b6 bt tb:Nat) (o oc of:Option Nat) (hn1:b24≠b6) (hn2:b24∉SH.names ((b8,(⟨7,[i8]⟩:Blk))::[]) ) (ho:o=none->th.regs=[]) (hoc:oc=none->s.cells=[]) (hof:of=none->s.futures=[]) (Q:R)
include h1 hc hth hi hpc
end
end
def Gq(i:cb)(s:bI)(t:Int):(fN i s t).kind=jv i.op:=by
 unfold fN;dsimp only
 repeat' split
 all_goals rfl
def Rv{i:cb}{n:Int}(u:1<=i.op)(h2:i.op<=28)(G:∀r∈bS i,0<=r/\r<n):((jv i.op=3\/jv i.op=23\/jv i.op=5)->0<=i.a/\i.a<n)/\((jv i.op=4\/jv i.op=22)->0<=i.b/\i.b<n):=by obtain⟨op,E,D,B,m,j⟩:=i;dsimp only at *;rcases ops op u h2 with rfl|rfl|rfl|rfl|rfl|rfl|rfl|rfl|rfl|rfl|rfl|rfl|rfl|rfl|rfl|rfl|rfl|rfl|rfl|rfl|rfl|rfl|rfl|rfl|rfl|rfl|rfl|rfl<;>simp_all[jv,Bi,bS]
structure Zr(c:bP)(s:eE)(t:Int)(e:bA):Prop where
 ready:uF c s t=true
 ra:(e.kind=3\/e.kind=23\/e.kind=5)->0<=(cK (aE c t) (aI s t).pc).a/\(cK (aE c t) (aI s t).pc).a<(aI s t).regs.length
 rb:(e.kind=4\/e.kind=22)->0<=(cK (aE c t) (aI s t).pc).b/\(cK (aE c t) (aI s t).pc).b<(aI s t).regs.length
def gk{c:bP}{s:eE}{t:Int}(h:uF c s t=true):inB t c.ts.length=true/\inB t s.threads.length=true/\inB t s.sync.threads.length=true/\inB (aI s t).pc (aE c t).ins.length=true/\((aI s t).regs.length:Int)=(aE c t).regs/\((aI s t).taint.length:Int)=(aE c t).regs:=by unfold uF at h;simp only[aas,decide_eq_true_eq]at h;obtain⟨⟨⟨⟨⟨a,b⟩,c⟩,d⟩,e⟩,f⟩:=h;exact⟨a,b,c,d,e,f⟩
def CO{c:bP}{s:eE}{t:Int}{e:bA}(N:∀x∈c.ts,CM x)(h:eI c s t=some e):Zr c s t e:=by
 unfold eI at h;by_cases j:uF c s t=true
 .rw[if_pos j]at h;obtain⟨S,a2,a3,O,Z,Y⟩:=gk j;obtain⟨G,E,D⟩:=N _ (j9 (d:=⟨0,[]⟩) S) _ (j9 (d:=default) O);rw[show(c.ts.getD t.toNat ⟨0,[]⟩).ins.getD (aI s t).pc.toNat default=cK (aE c t) (aI s t).pc from rfl]at G E D;have M:=Rv (n:=(aI s t).regs.length) G E (λr j=>by have:=D r j;rw[show(c.ts.getD t.toNat ⟨0,[]⟩).regs=(aE c t).regs from rfl]at this;omega);have u:e.kind=1\/e.kind=17\/e.kind=jv (cK (aE c t) (aI s t).pc).op:=by
   dsimp only at h;split at h
   .cases h;exact .inl rfl
   .split at h
    .cases h;exact .inr (.inl rfl)
    .split at h
     .split at h
      .cases h;exact .inr (.inr (Gq _ _ _))
      .cases h
     .cases h
  refine⟨j,λB=>M.1 ?_,λB=>M.2 ?_⟩
  .rcases u with k|k|k
   .omega
   .omega
   .rw[<-k];exact B
  .rcases u with k|k|k
   .omega
   .omega
   .rw[<-k];exact B
 .rw[if_neg j]at h;cases h
def wL(c:bP)(s:eE)(t wake:Int):nz c s t wake=match eI c s t with
  |none=>none
  | some e=>if s.cells.length=c.w.cells.length/\s.futures.length=c.w.futures.length then
    (if(dx c.w s.sync t e.kind e.obj wake).2.2 then Au c s t (dx c.w s.sync t e.kind e.obj wake).1 e (fe (cK (aE c t) (aI s t).pc) e s (aI s t) (dx c.w s.sync t e.kind e.obj wake).2.1)else none)else none:=by
 unfold nz Au;rfl
def Kh{w:aF}{s:SyncD}{t k o wake:Int}(h:(dx w s t k o wake).2.2=true):allowedS w k o=true:=by
 unfold dx at h;split at h
 .rename_i j;unfold aC at j;simp only[aas]at j;exact j.1.2
 .cases h
structure Zs(U:List Int)(c:bP)(s:eE):Prop where
 ins:∀x∈c.ts,CM x
 len:∀x∈c.ts,x.ins.length<2^40
 u30:U.length<=2^30
 thr:∀x∈s.threads,j8 U x/\x.ev∈U/\x.regs.length<=2^30
 sm:CJ c.w s.sync
 nt:s.threads.length<=2^30
 nc:s.cells.length<2^40
 nf:s.futures.length<2^40
def Ki{U:List Int}{i:cb}{e:bA}{s:eE}{th:bI}{sv:Int}(h:j8 U th)(E:th.ev∈U):j8 U (fe i e s th sv).thread:=by
 obtain⟨B,u,M,G⟩:=h;have j:j8 U ⟨th.pc,th.regs,th.taint.set i.a.toNat [th.ev],th.ev⟩:=by
  refine⟨by simpa using B,u,λl D=>?_,λl D x N=>?_⟩
  .rcases aca D with h|rfl
   .exact M l h
   .simp
  .rcases aca D with h|rfl
   .exact G l h x N
   .rw[aag.1 N];exact E
 unfold fe;dsimp only
 repeat' split
 all_goals first
  |exact⟨B,u,M,G⟩
  |exact⟨by simpa using B,by simpa using u,j.short,j.sub⟩
def EW(t:i6):bI:=⟨0,List.replicate t.regs.toNat 0,List.replicate t.regs.toNat [],0⟩
def U9:List Int:=(List.range 401).map λk:Nat=>(k:Int)
def Rw{n:Int}(u:0<=n)(j:n<=400):n∈U9:=abP.2 ⟨n.toNat,acd.2 acN,acN⟩
def Rx:U9.length<=2^30:=by simp[U9]
structure pR(c:bP)(n:Nat)(s:eE):Prop where
 thr:∀x∈s.threads,j8 U9 x/\0<=x.ev/\x.ev<=n/\x.regs.length<=1000
 nt:s.threads.length<=1000
 lk:s.sync.locks.length<=1000
 rd:∀l∈s.sync.locks,l.readers.length<=n
 dn:s.sync.done.length<=1000
 th:s.sync.threads.length<=1000
 nc:s.cells.length<=1000
 nf:s.futures.length<=1000
structure Uf(s s':SyncD)(n:Nat):Prop where
 lk:s'.locks.length=s.locks.length
 dn:s'.done.length=s.done.length
 th:s'.threads.length=s.threads.length
 rd:∀l∈s'.locks,l.readers.length<=n+1
def Pa(l:List Int)(t:Int):(wH l t).length<=l.length+1:=by unfold wH;have:=qK (yr (l++[t]));rw[A0]at this;simpa using this
def Pb{s:SyncD}{n:Nat}(h:∀l∈s.locks,l.readers.length<=n)(o:Int):(aQ s o).readers.length<=n:=by
 unfold aQ;rcases LE o.toNat s.locks.length with j|j
 .simpa[List.getD,j]using h _ (LT j)
 .simp[List.getD,aah j];exact abt _
def rT{w:aF}{s:SyncD}{t k o wake:Int}{n:Nat}(h:∀l∈s.locks,l.readers.length<=n):Uf s (bF w s t k o wake).1 n:=by
  have j:∀l∈s.locks,l.readers.length<=n+1:=λl u=>acq (h l u)
  have lk:∀(i:Int) (f:LockD->LockD),(∀x,x.readers.length<=n->(f x).readers.length<=n+1)->∀l∈cY s i f,l.readers.length<=n+1:=λi f D l u=>by
    unfold cY at u;rcases aca u with E|rfl
    · exact j l E
    · exact D _ (Pb h i)
  have own:∀(i v:Int),∀l∈cY s i (λx=>{x with owner:=v}),l.readers.length<=n+1:=λi v=>lk i _ λx B=>acq B
  have G:∀(i:Int) (f:LockD->LockD),(cY s i f).length=s.locks.length:=λi f=>by simp[cY]
  have tl:∀(i:Int) (f:ThrD->ThrD),(dZ s i f).length=s.threads.length:=λi f=>by simp[dZ]
  unfold bF
  repeat' refine iteInduction (motive:=λx:SyncD×Int=>Uf s x.1 n) (λ_=>?_) (λ_=>?_)
  all_goals refine⟨by simp[cY],acQ,by simp[dZ,yw,c9,Gk],?_⟩
  all_goals first
    |exact j
    | (intro l u; dsimp only at u
       refine lk _ _ (λx B=>?_) l u;dsimp only
       first
         |exact acq B
         |exact abe (Pa _ _) (Nat.succ_le_succ B)
         |exact abe (aci _ _) (acq B))
def oM{i:cb}{e:bA}{s:eE}{th:bI}{sv:Int}:(fe i e s th sv).thread.ev=IntKind.i64.wrap (th.ev+1)/\(fe i e s th sv).thread.regs.length=th.regs.length/\(fe i e s th sv).cells.length=s.cells.length/\(fe i e s th sv).futures.length=s.futures.length:=by
 unfold fe;dsimp only
 repeat' split
 all_goals exact⟨rfl,acQ,acQ,acQ⟩
def Ug{i:cb}{s s2:bI}(h:cL i s=some s2):s2.ev=s.ev:=by
 unfold cL at h
 repeat' split at h
 all_goals first
  |(cases h;rfl)
  |cases h
def W1{j:List cb}:∀(k:Nat) {s y:bI},gA j k s=(y,true)->y.ev=s.ev/\y.regs.length=s.regs.length:=by
 intro k
 induction k with
 |zero=>
  intro s y h;unfold gA at h
  repeat' split at h
  all_goals first
   |(cases h;exact⟨rfl,rfl⟩)
   |cases h
 |succ k B=>
  intro s y h;unfold gA at h;split at h
  .split at h
   .cases h;exact⟨rfl,rfl⟩
   .split at h
    .cases h
    .rename_i s2 u;obtain⟨a,b⟩:=B h;rw[a,b,Ug u,(Gp u).1];exact⟨rfl,rfl⟩
  .cases h
def Gr{c:i6}{s y:bI}(h:cD c s=(y,true)):y.ev=s.ev/\y.regs.length=s.regs.length:=by
 unfold cD at h;split at h
 .exact W1 _ h
 .cases h
structure Zt(c:bP)(s:eE)(t wake:Int)(s':eE)(e':bA):Prop where
 ex:∃(e:bA) (th':bI),eI c s t=some e/\(dx c.w s.sync t e.kind e.obj wake).2.2=true/\s.cells.length=c.w.cells.length/\s.futures.length=c.w.futures.length/\
  (th'=(fe (cK (aE c t) (aI s t).pc) e s (aI s t) (dx c.w s.sync t e.kind e.obj wake).2.1).thread\/cD (aE c t) (fe (cK (aE c t) (aI s t).pc) e s (aI s t) (dx c.w s.sync t e.kind e.obj wake).2.1).thread=(th',true))/\
  s'=⟨(dx c.w s.sync t e.kind e.obj wake).1,(fe (cK (aE c t) (aI s t).pc) e s (aI s t) (dx c.w s.sync t e.kind e.obj wake).2.1).cells,(fe (cK (aE c t) (aI s t).pc) e s (aI s t) (dx c.w s.sync t e.kind e.obj wake).2.1).futures,s.threads.set t.toNat th'⟩/\
  e'={e with value:=(fe (cK (aE c t) (aI s t).pc) e s (aI s t) (dx c.w s.sync t e.kind e.obj wake).2.1).value}
def CP{c:bP}{s u:eE}{t wake:Int}{D:bA}(h:nz c s t wake=some (u,D)):Zt c s t wake u D:=by
 rw[wL]at h;cases hp:eI c s t with
 |none=>rw[hp]at h;cases h
 |some e=>
  rw[hp]at h;dsimp only at h;split at h
  .rename_i j;split at h
   .rename_i B;unfold Au at h;split at h
    .split at h
     .rename_i E;cases h;exact⟨e,_,hp,B,j.1,j.2,.inr (Prod.ext rfl E),rfl,rfl⟩
     .cases h
    .cases h;exact⟨e,_,hp,B,j.1,j.2,.inl rfl,rfl,rfl⟩
   .cases h
  .cases h
def Ry{c:bP}{s M:eE}{t wake:Int}{e':bA}{n:Nat}(hn:n<400)(H:pR c n s)(hi:∀x∈c.ts,CM x)(h:nz c s t wake=some (M,e')):pR c (n+1) M:=by
 obtain⟨e,j,hp,G,hl1,hl2,E,rfl,rfl⟩:=CP h;have a2:=(gk (CO hi hp).ready).2.1;have u:aI s t∈s.threads:=j9 (d:=bI.zero) a2;obtain⟨Y,S,t3,t4⟩:=H.thr _ u;have at_:=Ki (U:=U9) (i:=cK (aE c t) (aI s t).pc) (e:=e) (s:=s) (sv:=(dx c.w s.sync t e.kind e.obj wake).2.1) Y (Rw S acN);obtain⟨N,q2,q3,Z⟩:=oM (i:=cK (aE c t) (aI s t).pc) (e:=e) (s:=s) (th:=aI s t) (sv:=(dx c.w s.sync t e.kind e.obj wake).2.1);rw[abg _ acN]at N;have B:Uf s.sync (dx c.w s.sync t e.kind e.obj wake).1 n:=by
  unfold dx at G ⊢;split
  .exact rT H.rd
  .rename_i he;rw[if_neg he]at G;cases G
 have D:j8 U9 j/\j.ev=(aI s t).ev+1/\j.regs.length=(aI s t).regs.length:=by
  rcases E with rfl|O
  .exact⟨at_,N,q2⟩
  .have:=Kb (c:=aE c t) Rx at_;rw[O]at this;obtain⟨a,b⟩:=Gr O;exact⟨this,acN,acN⟩
 refine⟨λx hx=>?_,by simpa using H.nt,by rw[B.lk];exact H.lk,B.rd,by rw[B.dn];exact H.dn,by rw[B.th];exact H.th,by rw[q3];exact H.nc,by rw[Z];exact H.nf⟩;rcases aca hx with h1|rfl
 .obtain⟨b1,b2,b3,b4⟩:=H.thr x h1;exact⟨b1,b2,acN,b4⟩
 .exact⟨D.1,acN,acN,acN⟩
def Rz{c:bP}{s:eE}{n:Nat}(M:n<=400)(H:pR c n s)(B:∀x∈c.ts,CM x)(u:∀x∈c.ts,x.ins.length<2^40)(D:c.w.conds.length<2^40):Zs U9 c s where
 ins:=B
 len:=u
 u30:=Rx
 thr:=λx j=>by obtain⟨G,E,O,N⟩:=H.thr x j;exact⟨G,Rw E acN,acN⟩
 sm:=⟨D,by have:=H.lk;omega,by have:=H.dn;omega,by have:=H.th;omega,λl h=>by have:=H.rd l h;omega⟩
 nt:=by have:=H.nt;omega
 nc:=by have:=H.nc;omega
 nf:=by have:=H.nf;omega
def gV(c:bP)(l:List aD)(p:List bA×eE):List bA×eE:=l.foldl (IU c) p
def Gs(c:bP):∀(l:List aD) (p:List bA×eE),400<=p.1.length->gV c l p=p
 |[],p,_=>rfl
 | ch::l,p,h=>by
  show gV c l (IU c p ch)=p;have e:IU c p ch=p:=by unfold IU;rw[if_pos h]
  rw[e];exact Gs c l p h
def Pd(c:bP)(l:List aD)(k:Nat)(p:List bA×eE):gV c l p=gV c (l.drop k) (gV c (l.take k) p):=by unfold gV;rw[<-List.foldl_append,acr]
def Pe(c:bP)(l:List aD)(k:Nat)(j:k<l.length)(p:List bA×eE):gV c (l.take (k+1)) p=IU c (gV c (l.take k) p) l[k]:=by unfold gV;rw[Fn j,acL];rfl
structure N1(c:bP):Prop where
 ins:∀x∈c.ts,CM x
 len:∀x∈c.ts,x.ins.length<2^40
 con:c.w.conds.length<2^40
def H4{c:bP}(D:N1 c){p:List bA×eE}{ch:aD}(h:pR c p.1.length p.2)(j:p.1.length<=400):pR c (IU c p ch).1.length (IU c p ch).2/\(IU c p ch).1.length<=400:=by
 unfold IU;split
 .exact⟨h,j⟩
 .rename_i B;split
  .exact⟨h,j⟩
  .rename_i n e u;have:=Ry acN h D.ins u;exact⟨by simpa using this,acS⟩
def N2{c:bP}(B:N1 c)(l:List aD){p:List bA×eE}(h:pR c p.1.length p.2)(j:p.1.length<=400):pR c (gV c l p).1.length (gV c l p).2/\(gV c l p).1.length<=400:=by
 induction l generalizing p with
 |nil=>exact⟨h,j⟩
 |cons ch l u=>obtain⟨a,b⟩:=H4 (ch:=ch) B h j;exact u a b
def W2(p:List bA×eE):AV:=.tup [.lst (p.1.map bA.enc),.agg p.2.enc]
