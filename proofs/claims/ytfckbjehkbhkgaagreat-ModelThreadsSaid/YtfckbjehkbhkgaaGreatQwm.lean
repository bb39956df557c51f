/- part -/
import Derived.Test.YtfckbjehkbhkgaaGreatQwj
import Derived.Test.YtfckbjehkbhkgaaGreatQwl
import Derived.WalkSpells
import Derived.Deep.DeepMust
set_option linter.all false
set_option maxRecDepth 100000
set_option maxHeartbeats 0
namespace Go.Proofs.YtfckbjehkbhkgaaGreat.Am
section
def dZ(s:SyncD)(i:Int)(f:ThrD->ThrD):List ThrD:=s.threads.set i.toNat (f (a8 s i))
def cY(s:SyncD)(i:Int)(f:LockD->LockD):List LockD:=s.locks.set i.toNat (f (aQ s i))
def Gk(s:SyncD)(o:Int):List ThrD:=dt s.threads o s.threads.length
def wH(l:List Int)(t:Int):List Int:=Lib.compact (yr (l++[t]))
def bF(w:aF)(s:SyncD)(t k o wake:Int):SyncD×Int:=
 if k=1 then({s with threads:=dZ s t λx=>{x with status:=2}},0)
 else if k=2 then({s with threads:=dZ s t λx=>{x with status:=5}},0)
 else if k=6\/k=10 then({s with locks:=cY s o λx=>{x with owner:=t}},0)
 else if k=7\/k=11 then({s with locks:=cY s o λx=>{x with owner:=-1}},0)
 else if k=8 then({s with locks:=cY s o λx=>{x with readers:=wH x.readers t}},0)
 else if k=9 then({s with locks:=cY s o λx=>{x with readers:=x.readers.filter λy=>!decide (y=t)}},0)
 else if k=12 then({s with tx:=t},0)
 else if k=13 then({s with tx:=-1},0)
 else if k=14 then({s with threads:=dZ s t λx=>{x with atomic:=true}},0)
 else if k=15 then({s with threads:=dZ s t λx=>{x with atomic:=false}},0)
 else if k=16 then({s with locks:=cY s (jI w o) λx=>{x with owner:=-1},threads:=dZ s t λx=>{x with status:=3,cond:=o}},0)
 else if k=17 then({s with locks:=cY s (jI w o) λx=>{x with owner:=t},threads:=dZ s t λx=>{x with status:=2,cond:=0}},0)
 else if k=18 then({s with threads:=fI s.threads o wake},da s.threads o wake)
 else if k=19 then({s with threads:=Gk s o},(aJ s.threads o s.threads.length).length)
 else if k=20 then({s with threads:=dZ s o λx=>{x with status:=1}},0)
 else if k=22 then({s with done:=s.done.set o.toNat true},0)
 else(s,0)
theorem nr{s:SyncD}{t:Int}{f:ThrD->ThrD}{r:List AV}(h:r=(f (a8 s t)).enc):(s.threads.map ThrD.enc).set (0+t.toNat) r=(dZ s t f).map ThrD.enc:=by rw[h,abI,dZ,abT]
theorem rS{s:SyncD}{t:Int}{f:LockD->LockD}{r:List AV}(h:r=(f (aQ s t)).enc):(s.locks.map LockD.enc).set (0+t.toNat) r=(cY s t f).map LockD.enc:=by rw[h,abI,cY,abT]
theorem oJ{s:SyncD}{t:Int}(h:inB t s.threads.length=true):(s.threads.map ThrD.enc)[0+t.toNat]? =some (a8 s t).enc:=by rw[abI];exact cq h
theorem wI{s:SyncD}{t:Int}(h:inB t s.locks.length=true):(s.locks.map LockD.enc)[0+t.toNat]? =some (aQ s t).enc:=by rw[abI];exact cq h
theorem wJ{bl n bt m:Nat}{tx:Int}{dv:AV}(h:dv.one=true):([.sl bl 0 n,.acU tx,dv,.sl bt 0 m]:List AV).all AV.one=true:=by show(true&&(true&&(dv.one&&(true&&true))))=true;rw[h];rfl
theorem yw(T:List ThrD)(c wake:Int):(fI T c wake).length=T.length:=by unfold fI gj;split<;>simp
theorem Rg{α:Type}{l:List α}{i:Nat}{x y:α}(h:l[i]? =some y):(l.set i x)[i]? =some x:=by have:=(abL.1 h).1;simp[this]
section
variable (w:aF) (s:SyncD) (t o wake:Int) (b7 b12 bl bt:Nat)
def LA(R:SH):SH:=(bl,⟨2,s.locks.map LockD.enc⟩)::(bt,⟨3,s.threads.map ThrD.enc⟩)::(b12,⟨4,[[.nils,.acU 0,.nils,.nils]]⟩)::(b7,⟨4,[s.enc]⟩)::R
def NU(k:Int)(Q:R)(dv:AV)(L:SH):Prop:=pt Q (.acU k) (.acU o) (.acU wake) (.ptr b7 0 0) (.pptr [[.acU t]] 0 0) (.ptr b12 0 0) (.pptr [w.enc] 0 0) (.agg [.sl bl 0 s.locks.length,.acU s.tx,dv,.sl bt 0 s.threads.length]) L
def qL(k:Int)(R:SH)(dv:AV)(Q:AV->SH->Prop):Prop:=∀L:SH,Fz L (.sl bl 0 s.locks.length) (.lst ((bF w s t k o wake).1.locks.map LockD.enc))->Fz L (.sl bt 0 s.threads.length) (.lst ((bF w s t k o wake).1.threads.map ThrD.enc))->(∀p∈R,p∈L)->
 Q (.tup [.agg [.sl bl 0 s.locks.length,.acU (bF w s t k o wake).1.tx,dv,.sl bt 0 s.threads.length],.acU (bF w s t k o wake).2,.bool true]) L
variable (R:SH) (dv:AV) (hone:dv.one=true) (Q:AV->SH->Prop) (hf:Ar w s) (ht:inB t s.threads.length=true) (hnd:(LA s b7 b12 bl bt R).names.Nodup)
include hone hf ht hnd
theorem Zi(k:Int)(G:allowedS w k o=true)(M:k=1\/k=2\/k=3\/k=4\/k=5\/k=12\/k=13\/k=14\/k=15\/k=20\/k=21\/k=23\/k=6\/k=7\/k=10\/k=11)(D:qL w s t o wake bl bt k R dv Q):NU w s t o wake b7 b12 bl bt k Q dv (LA s b7 b12 bl bt R):=by
 unfold NU;refine vw ?_;simp only[SH.names,LA,aai,abG,aaj,not_or]at hnd;obtain⟨⟨n1,n2,n3,n4⟩,⟨n5,n6,n7⟩,⟨n8,n9⟩,n10,n11⟩:=hnd;unfold LA;have hy:=oJ ht;obtain⟨t0,t1⟩:=ao.1 ht;have B:k=20->inB o s.threads.length=true:=λh=>by subst h;rw[hf.threads];simpa[allowedS]using G
 have u:k=6\/k=7\/k=10\/k=11->inB o s.locks.length=true:=λh=>by rw[hf.locks];rcases h with rfl|rfl|rfl|rfl<;>(simp[allowedS]at G;exact G.1)
 have E:∀N:Int,([.sl bl 0 s.locks.length,.acU N,dv,.sl bt 0 s.threads.length]:List AV).all AV.one=true:=λN=>wJ hone
 unfold qL bF at D;clear G;by_cases O:k=6\/k=7\/k=10\/k=11
 .have j:=u O;have hx:=wI j;obtain⟨Z,Y⟩:=ao.1 j;clear B u M hf;rcases O with rfl|rfl|rfl|rfl
  all_goals
   simp only[Int.reduceEq,Int.reduceNeg,if_true,if_false,or_self,or_true,true_or,or_false,false_or,reduceIte,reduceCtorEq]at D
   repeat' (first|refine sy ?_|refine bD rp rfl rfl (E _) rfl ?_|refine s2 ?_ ?_|intro)
   exact D _ (Fz.sls mm (rS rfl) acQ (by simp[cY])) (Fz.sls mm rfl acQ rfl) (λp hp=>by simp only[aaj];simp[hp])
 by_cases S:k=20
 .have j:=B S;subst S;have hx:=oJ j;obtain⟨Z,Y⟩:=ao.1 j;clear B u M hf;simp only[Int.reduceEq,Int.reduceNeg,if_true,if_false,or_self,or_true,true_or,or_false,false_or,reduceIte,reduceCtorEq]at D
  repeat' (first|refine sy ?_|refine bD rp rfl rfl (E _) rfl ?_|refine s2 ?_ ?_|intro)
  exact D _ (Fz.sls mm rfl acQ rfl) (Fz.sls mm (nr rfl) acQ (by simp[dZ])) (λp hp=>by simp only[aaj];simp[hp])
 clear B u hf;rcases M with rfl|rfl|rfl|rfl|rfl|rfl|rfl|rfl|rfl|rfl|rfl|rfl|h
 all_goals try (exfalso;omega)
 all_goals
  simp only[Int.reduceEq,Int.reduceNeg,if_true,if_false,or_self,or_true,true_or,or_false,false_or,reduceIte,reduceCtorEq]at D
  repeat' (first|refine sy ?_|refine bD rp rfl rfl (E _) rfl ?_|refine s2 ?_ ?_|intro)
  first
   |exact D _ (Fz.sls mm rfl acQ rfl) (Fz.sls mm (nr rfl) acQ (by simp[dZ])) (λp hp=>by simp only[aaj];simp[hp])
   |exact D _ (Fz.sls mm rfl acQ rfl) (Fz.sls mm rfl acQ rfl) (λp hp=>by simp only[aaj];simp[hp])
theorem Zj(k:Int)(N:allowedS w k o=true)(M:k=16\/k=17)(u:qL w s t o wake bl bt k R dv Q):NU w s t o wake b7 b12 bl bt k Q dv (LA s b7 b12 bl bt R):=by
 unfold NU;refine vw ?_;simp only[SH.names,LA,aai,abG,aaj,not_or]at hnd;obtain⟨⟨n1,n2,n3,n4⟩,⟨n5,n6,n7⟩,⟨n8,n9⟩,n10,n11⟩:=hnd;unfold LA;have hy:=oJ ht;obtain⟨t0,t1⟩:=ao.1 ht;have B:inB o w.conds.length=true:=by rcases M with rfl|rfl<;>simpa[allowedS]using N
 have G:=Gf hf B;have hx:=wI G;obtain⟨S,O⟩:=ao.1 G;have hcx:=cq (f:=cM.enc) B;obtain⟨c0,c1⟩:=ao.1 B;unfold jI at hx S O;have D:∀E:Int,([.sl bl 0 s.locks.length,.acU E,dv,.sl bt 0 s.threads.length]:List AV).all AV.one=true:=λE=>wJ hone
 have j:∀v,((s.threads.map ThrD.enc).set (0+t.toNat) ((a8 s t).enc.set 0 v))[0+t.toNat]? =some ((a8 s t).enc.set 0 v):=λv=>Rg hy
 have Z:=j (.acU 3);have Y:=j (.acU 2);clear j;unfold qL bF jI at u;clear N hf;rcases M with rfl|rfl
 all_goals
  simp only[Int.reduceEq,Int.reduceNeg,if_true,if_false,or_self,or_true,true_or,or_false,false_or,reduceIte,reduceCtorEq]at u
  repeat' (first|refine sy ?_|refine bD rp rfl rfl (D _) rfl ?_|refine s2 ?_ ?_|intro)
  exact u _ (Fz.sls mm (rS rfl) acQ (by simp[cY])) (Fz.sls mm (by rw[List.set_set];exact nr rfl) acQ (by simp[dZ])) (λp hp=>by simp only[aaj];simp[hp])
theorem Zk(k:Int)(E:k=18\/k=19)(D:s.threads.length<2^40)(u:qL w s t o wake bl bt k R dv Q):NU w s t o wake b7 b12 bl bt k Q dv (LA s b7 b12 bl bt R):=by
 unfold NU;refine vw ?_;simp only[SH.names,LA,aai,abG,aaj,not_or]at hnd;obtain⟨⟨n1,Z,n3,Y⟩,⟨S,O,N⟩,⟨M,G⟩,n10,n11⟩:=hnd;have j:∀B:Int,([.sl bl 0 s.locks.length,.acU B,dv,.sl bt 0 s.threads.length]:List AV).all AV.one=true:=λB=>wJ hone
 unfold LA;unfold qL bF at u;rcases E with rfl|rfl
 all_goals
  simp only[Int.reduceEq,Int.reduceNeg,if_true,if_false,or_self,or_true,true_or,or_false,false_or,reduceIte,reduceCtorEq]at u
  repeat' (first|refine sy ?_|refine bD rp rfl rfl (j _) rfl ?_|((with_reducible refine aN 83 ?_);(refine cQ (O4 _ _ _ bt s.threads o wake D (j _)) rp ?_;rintro _ _ ⟨rfl,rfl⟩))|((with_reducible refine aN 84 ?_);(refine cQ (HR _ _ _ bt s.threads o D (j _)) rp ?_;rintro _ _ ⟨rfl,rfl⟩))|refine s2 ?_ ?_|intro)
  exact u _ (Fz.sls mm rfl acQ rfl) (Fz.sls mm rfl acQ (by first|exact(yw _ _ _).symm|simp[Gk,c9])) (λp hp=>by simp only[aaj,aak];simp[hp])
def V4(bd:Nat)(Q:AV->SH->Prop):Prop:=∀(L:SH),Fz L (.sl bl 0 s.locks.length) (.lst (s.locks.map LockD.enc))->Fz L (.sl bt 0 s.threads.length) (.lst (s.threads.map ThrD.enc))->Fz L (.sl bd 0 s.done.length) (.lst ((s.done.set o.toNat true).map au))->
 Q (.tup [.agg [.sl bl 0 s.locks.length,.acU s.tx,.sl bd 0 s.done.length,.sl bt 0 s.threads.length],.acU 0,.bool true]) L
omit hone hnd in
theorem WU(j:Nat)(hnd:(LA s b7 b12 bl bt [(j,⟨1,s.done.map au⟩)]).names.Nodup)(D:allowedS w 22 o=true)(B:V4 s o bl bt j Q):NU w s t o wake b7 b12 bl bt 22 Q (.sl j 0 s.done.length) (LA s b7 b12 bl bt [(j,⟨1,s.done.map au⟩)]):=by
 unfold NU LA;refine vw ?_;have u:inB o s.done.length=true:=by rw[hf.done];simpa[allowedS]using D
 obtain⟨G,E⟩:=ao.1 u;have M:(s.done.map au)[0+o.toNat]? =some (au (s.done.getD o.toNat default)):=by rw[abI];exact cq u
 repeat' (first|refine sy ?_|refine s2 ?_ ?_|intro)
 refine B _ (Fz.sls mm rfl acQ rfl) (Fz.sls mm rfl acQ rfl) (Fz.sls mm ?_ acQ acQ);rw[abT,abI];rfl
end
end
section
theorem J7{K:SH}{bl:Nat}{rows:List (List AV)}{u:List LockD}{n:Nat}(Z:(bl,⟨2,rows⟩)∈K)(Y:n=u.length)(hl:rows.length=u.length)
  (h:∀(j:Nat) (r:List AV) (x:LockD),rows[j]? =some r->u[j]? =some x->∃a,r=[.acU x.owner,a]/\Fz K a (.lst (x.readers.map aa))):Fz K (.sl bl 0 n) (.lst (u.map LockD.enc)):=by
 subst Y;rcases abZ u.length with N|N
 .have:u=[]:=abU.1 N;subst this;exact .sl0 bl 0
 .have get:∀(j:Nat) (r D:List AV),rows[0+j]? =some r->(u.map LockD.enc)[j]? =some D->∃x:LockD,u[j]? =some x/\D=x.enc/\∃a,r=[.acU x.owner,a]/\Fz K a (.lst (x.readers.map aa)):=λj r D E B=>by
   rw[abI]at E;rw[abn]at B;cases G:u[j]? with
   |none=>rw[G]at B;cases B
   |some x=>rw[G]at B;cases B;exact⟨x,rfl,rfl,h j r x E G⟩
  refine .sl bl 0 _ ⟨2,rows⟩ _ Z acQ N acQ acS (λj r D E B=>?_) (λj r D q a a2 E B M O=>?_)
  .obtain⟨x,_,rfl,a,rfl,_⟩:=get j r D E B;rfl
  .obtain⟨x,_,rfl,a',rfl,S⟩:=get j r D E B
   match q with
   |0=>cases M;cases O;exact .refl _
   |1=>cases M;cases O;exact S
   |q+2=>simp at M
theorem enc_row(x:LockD){K:SH}:∃a,x.enc=[.acU x.owner,a]/\Fz K a (.lst (x.readers.map aa)):=⟨_,rfl,.refl _⟩
theorem NV{K:SH}{s:SyncD}{o:Int}{ro:Option Nat}{f:LockD->LockD}{a:AV}(hl:inB o s.locks.length=true)(M:∀x,(f x).owner=x.owner)(N:Fz K a (.lst ((f (aQ s o)).readers.map aa))):
  ∀(j:Nat) (r:List AV) (x:LockD),((cV o.toNat ro s.locks).set (0+o.toNat) [.acU (aQ s o).owner,a])[j]? =some r->(cY s o f)[j]? =some x->∃a,r=[.acU x.owner,a]/\Fz K a (.lst (x.readers.map aa)):=by
 intro j r x B u;obtain⟨S,O⟩:=ao.1 hl;have D:o.toNat<s.locks.length:=by omega
 unfold cY at u;rw[abI]at B;by_cases G:o.toNat=j
 .subst G;rw[List.getElem?_set_self (by rw[dh];exact D)]at B;rw[List.getElem?_set_self D]at u;cases B;cases u;exact⟨a,by rw[M],N⟩
 .rw[List.getElem?_set_ne G]at B u;have E:j<s.locks.length:=(abL.1 u).1;rw[iq _ _ _ _ E]at B;rw[mt E]at u;cases B;cases u;unfold pw;rw[if_neg (λe=>G e.symm)];exact enc_row _
theorem J8{s:SyncD}{o:Int}{ro:Option Nat}(hl:inB o s.locks.length=true):(cV o.toNat ro s.locks)[0+o.toNat]? =some [.acU (aQ s o).owner,af ro (aQ s o).readers.length]:=by
 obtain⟨B,u⟩:=ao.1 hl;have j:o.toNat<s.locks.length:=by omega
 rw[abI,iq _ _ _ _ j];unfold pw;rw[if_pos rfl];simp[aQ,j]
section
variable (w:aF) (s:SyncD) (t o wake:Int) (b7 b12 bl bt:Nat)
def Rh(ro:Option Nat)(R:SH):SH:=(bl,⟨2,cV o.toNat ro s.locks⟩)::(bt,⟨3,s.threads.map ThrD.enc⟩)::(b12,⟨4,[[.nils,.acU 0,.nils,.nils]]⟩)::(b7,⟨4,[s.enc]⟩)::(ab ro 1 ((aQ s o).readers.map aa)++R)
variable (R:SH) (dv:AV) (hone:dv.one=true) (Q:AV->SH->Prop) (hl:inB o s.locks.length=true) (hrd:(aQ s o).readers.length<2^40)
include hone hl hrd
theorem Zl(B:Nat)(j:(Rh s o b7 b12 bl bt (some B) R).names.Nodup)(D:qL w s t o wake bl bt 9 R dv Q):NU w s t o wake b7 b12 bl bt 9 Q dv (Rh s o b7 b12 bl bt (some B) R):=by
 unfold NU;refine vw ?_;unfold qL bF at D;simp only[Int.reduceEq,Int.reduceNeg,if_true,if_false,or_self,or_true,true_or,or_false,false_or,reduceIte,reduceCtorEq]at D;simp only[SH.names,Rh,ab,aai,abG,aaj,not_or,abX,abK]at j;obtain⟨⟨n1,n2,n3,n4,n12⟩,⟨n5,n6,n7,Z⟩,⟨n8,n9,Y⟩,⟨S,O⟩,n10,n11⟩:=j;have E:∀N:Int,([.sl bl 0 s.locks.length,.acU N,dv,.sl bt 0 s.threads.length]:List AV).all AV.one=true:=λN=>wJ hone
 obtain⟨o0,o1⟩:=ao.1 hl;have hx:=J8 (ro:=some B) hl;have u:=EU 82 [.pptr [[.acU t]] 0 0] (λx=>decide (x=t)) (O6 t 0 []) B (aQ s o).readers acN;unfold Rh;simp only[ab,abX,abK]
 repeat' (first|refine sy ?_|refine bD rp rfl rfl (E _) rfl ?_|((with_reducible refine cy 81 ?_);(refine ee u rp (by(simp only[rm,rc,rz,W.free,co,↓reduceIte,Nat.reduceEqDiff,ai,dV,aco,abz,abA,not_false_eq_true,implies_true,and_true,true_and,and_self,abj,reduceCtorEq,forall_const,false_implies,aag,forall_eq,aby,abK,aaj,or_false,false_or,forall_eq_or_imp,not_or])<;>(repeat' constructor)<;>first|assumption|(exact Ne.symm acO)|(intro e_;subst e_;simp[SH.names]at *;done)) ?_;rintro _ _ ⟨R',rfl,rfl,M,G⟩))|refine s2 ?_ ?_|intro)
 refine D _ (J7 rp (by simp[cY]) (by simp[cY,dh]) (NV hl (λ_=>rfl) ?_)) (Fz.sls rp rfl acQ rfl) (λp hp=>by simp only[aaj,aak];simp[hp]);rw[<-J2 M];exact Fz.rows (x:=⟨1,R'.map aa⟩) rp acQ (by simp[G];exact aci _ _)
theorem Zm(ro:Option Nat)(M:ro=none->(aQ s o).readers=[])(E:(Rh s o b7 b12 bl bt ro R).names.Nodup)(N:qL w s t o wake bl bt 8 R dv Q):NU w s t o wake b7 b12 bl bt 8 Q dv (Rh s o b7 b12 bl bt ro R):=by
 unfold NU;refine vw ?_;unfold qL bF at N;simp only[Int.reduceEq,Int.reduceNeg,if_true,if_false,or_self,or_true,true_or,or_false,false_or,reduceIte,reduceCtorEq]at N;simp only[SH.names,Rh,aai,abG,aaj,not_or]at E;obtain⟨⟨n1,n2,n3,n4⟩,⟨n5,n6,n7⟩,⟨n8,n9⟩,n10,n11⟩:=E;have O:∀Z:Int,([.sl bl 0 s.locks.length,.acU Z,dv,.sl bt 0 s.threads.length]:List AV).all AV.one=true:=λZ=>wJ hone
 obtain⟨o0,o1⟩:=ao.1 hl;have hx:=J8 (ro:=ro) hl;have B:∀j,ac Tryz.prog 79 [.sl j 0 ((aQ s o).readers.length+1)] [(j,⟨1,(aQ s o).readers.map aa++[[.acU t]]⟩)] λv L=>v=.tup []/\L=[(j,⟨1,(yr ((aQ s o).readers++[t])).map aa⟩)]:=λj=>by have:=T6 j ((aQ s o).readers++[t]) acS;rw[aal,ST]at this;exact this
 have D:∀j,ac Tryz.prog 80 [.sl j 0 ((aQ s o).readers.length+1)] [(j,⟨1,(yr ((aQ s o).readers++[t])).map aa⟩)] λv L=>∃G:List Int,v=.sl j 0 (wH (aQ s o).readers t).length/\L=[(j,⟨1,G.map aa⟩)]/\G.take (wH (aQ s o).readers t).length=wH (aQ s o).readers t/\(wH (aQ s o).readers t).length<=G.length:=λj=>by
  have:=Mi j (yr ((aQ s o).readers++[t])) (by rw[A0];simp;omega);rw[A0,aal]at this;refine this.mono λv L ⟨h1,h2⟩=>⟨_,h1,h2,?_,?_⟩
  .exact List.take_left' rfl
  .simp[wH]
 unfold Rh
 repeat' (first|refine sy ?_|refine bD rp rfl rfl (O _) rfl ?_|(refine JF [_,_,_,_] acQ (λe=>by rw[M e];rfl) rfl (aaq 0) acS acS rfl ?_;intro nb_ u;simp only[aaj,abA,or_false,forall_eq_or_imp,forall_eq]at u;obtain⟨q1,q2,q3,q4⟩:=u)|((with_reducible refine aN 79 ?_);(refine cQ (B _) rp ?_;rintro _ _ ⟨rfl,rfl⟩))|((with_reducible refine cy 80 ?_);(refine ee (D _) rp (by(simp only[rm,rc,rz,W.free,co,↓reduceIte,Nat.reduceEqDiff,ai,dV,aco,abz,abA,not_false_eq_true,implies_true,and_true,true_and,and_self,abj,reduceCtorEq,forall_const,false_implies,aag,forall_eq,aby,abK,aaj,or_false,false_or,forall_eq_or_imp,not_or])<;>(repeat' constructor)<;>first|assumption|(exact Ne.symm acO)|(intro e_;subst e_;simp[SH.names]at *;done)) ?_;rintro _ _ ⟨G,rfl,rfl,Y,S⟩))|refine s2 ?_ ?_|intro)
 refine N _ (J7 rp (by simp[cY]) (by simp[cY,dh]) (NV hl (λ_=>rfl) ?_)) (Fz.sls rp rfl acQ rfl) (λp hp=>by simp only[aaj,aak];simp[hp]);rw[<-J2 Y];exact Fz.rows (x:=⟨1,G.map aa⟩) rp acQ (by simp;exact S)
end
end
section
def Gl:SyncD:=⟨[],0,[],[]⟩
def dx(w:aF)(s:SyncD)(t k o wake:Int):SyncD×Int×Bool:=if aC w s t k o then((bF w s t k o wake).1,(bF w s t k o wake).2,true)else(Gl,0,false)
def EV(r:SyncD×Int×Bool):AV:=.tup [.agg r.1.enc,.acU r.2.1,.bool r.2.2]
theorem HT(ro:Option Nat)(u:List LockD):cV u.length ro u=u.map LockD.enc:=by
 apply acp;intro i;rcases LE i u.length with j|j
 .rw[iq _ _ _ _ j,pw,if_neg acN];simp[j]
 .rw[aah (by rw[dh];exact j),aah (by simpa using j)]
section
variable (s:SyncD) (h1:s.locks.length<2^40) (h2:s.done.length<=140737488351232) (h3:s.threads.length<2^40) (hrd:∀l∈s.locks,l.readers.length<2^40) (hne:s.threads≠[])
include h1 h2 h3 hrd hne
theorem J9:ac Tryz.prog 78 [.agg s.enc] [] λv L=>∃u bt j,v=.agg [.sl u 0 s.locks.length,.acU s.tx,cU j s.done.length,.sl bt 0 s.threads.length]/\L=(u,⟨2,s.locks.map LockD.enc⟩)::(ab j 1 (s.done.map au)++[(bt,⟨3,s.threads.map ThrD.enc⟩)])/\(j=none->s.done=[]):=by
 refine(J5 s s.locks.length h1 h2 h3 hrd).mono ?_;rintro v L ⟨u,M,j,E,rfl,rfl,D,B,G⟩;cases E with
 |none=>exact absurd (B rfl) hne
 |some bt=>exact⟨u,bt,j,rfl,by rw[HT,IT,if_neg (Nat.lt_irrefl _)];rfl,D⟩
theorem Ri(o:Int)(N:inB o s.locks.length=true):ac Tryz.prog 78 [.agg s.enc] [] λv L=>∃B bt ro j,v=.agg [.sl B 0 s.locks.length,.acU s.tx,cU j s.done.length,.sl bt 0 s.threads.length]/\L=(B,⟨2,cV o.toNat ro s.locks⟩)::(ab ro 1 ((aQ s o).readers.map aa)++(ab j 1 (s.done.map au)++[(bt,⟨3,s.threads.map ThrD.enc⟩)]))/\(j=none->s.done=[])/\(ro=none->(aQ s o).readers=[]):=by
 obtain⟨S,O⟩:=ao.1 N;have u:o.toNat<s.locks.length:=by omega
 refine(J5 s o.toNat h1 h2 h3 hrd).mono ?_;rintro v L ⟨B,ro,j,M,rfl,rfl,G,E,D⟩;cases M with
 |none=>exact absurd (E rfl) hne
 |some bt=>exact⟨B,bt,ro,j,rfl,by rw[IT,if_pos u];rfl,G,λe=>D e u⟩
end
theorem Rj{α:Type}(a b c d:α)(X:List α):((a::(X++[b]))++[c,d]).Perm (a::b::c::d::X):=by refine List.Perm.cons a ?_;show((X++[b])++[c,d]).Perm _;rw[abr];exact aar (l₁:=X) (l₂:=[b,c,d])
theorem WW{α:Type}(a b c d:α)(X Y:List α):((a::(X++(Y++[b])))++[c,d]).Perm (a::b::c::d::(X++Y)):=by rw[<-abr];exact Rj a b c d (X++Y)
theorem i7(j:Option Nat)(n:Nat):(cU j n).one=true:=by cases j<;>rfl
theorem T9{s:SyncD}{j:Option Nat}(u:j=none->s.done=[]){L:SH}(B:∀p∈ab j 1 (s.done.map au),p∈L):Fz L (cU j s.done.length) (.lst (s.done.map au)):=by
 cases j with
 |none=>rw[u rfl];exact .refl _
 |some D=>exact Fz.sls (B _ (aag.2 rfl)) rfl acQ rfl
structure CJ(w:aF)(s:SyncD):Prop where
 conds:w.conds.length<2^40
 locks:s.locks.length<2^40
 done:s.done.length<=140737488351232
 threads:s.threads.length<2^40
 rd:∀l∈s.locks,l.readers.length<2^40
section
variable (w:aF) (s:SyncD) (t k o wake:Int)
def At(v:AV)(L:SH):Prop:=∃v2 L2,ax [v] L [v2] L2/\v2=EV (dx w s t k o wake)/\L2=[]
theorem Ml(j:k≠22):(bF w s t k o wake).1.done=s.done:=by
 unfold bF
 repeat' refine iteInduction (motive:=λp:SyncD×Int=>p.1.done=s.done) (λ_=>?_) (λ_=>?_)
 all_goals first
  |rfl
  |(exfalso;omega)
theorem Zn(B:aC w s t k o=true)(D:k≠22)(N bt:Nat)(j:Option Nat)(u:j=none->s.done=[]):qL w s t o wake N bt k (ab j 1 (s.done.map au)) (cU j s.done.length) (At w s t k o wake):=by intro L M G E;refine⟨_,[],ax.all (Fz.tups (.cons (Fz.aggs (.cons M (.cons (.refl _) (.cons (T9 u E) (.cons G .nil))))) (.cons (.refl _) (.cons (.refl _) .nil)))),?_,rfl⟩;unfold dx;rw[if_pos B];show _=AV.tup [.agg (bF w s t k o wake).1.enc,.acU _,.bool true];unfold SyncD.enc;rw[Ml w s t k o wake D]
theorem Zo(j:aC w s t 22 o=true)(E bt G:Nat):V4 s o E bt G (At w s t 22 o wake):=by intro L D B u;refine⟨_,[],ax.all (Fz.tups (.cons (Fz.aggs (.cons D (.cons (.refl _) (.cons u (.cons B .nil))))) (.cons (.refl _) (.cons (.refl _) .nil)))),?_,rfl⟩;unfold dx;rw[if_pos j];rfl
def NW(b7 b12:Nat):Prop:=W.callM Tryz.prog 78 [.agg s.enc] [(b12,⟨4,[[.nils,.acU 0,.nils,.nils]]⟩),(b7,⟨4,[s.enc]⟩)] (pt (At w s t k o wake) (.acU k) (.acU o) (.acU wake) (.ptr b7 0 0) (.pptr [[.acU t]] 0 0) (.ptr b12 0 0) (.pptr [w.enc] 0 0))
theorem Rk(hs:CJ w s)(hen:aC w s t k o=true)(N u:Nat):
  NW w s t k o wake N u:=by
 have Y:=hen;unfold aC at Y;simp only[aas]at Y;obtain⟨⟨⟨hfi,hth⟩,hal⟩,hkd⟩:=Y;have hf:=cH.1 hfi;have ht:inB t s.threads.length=true:=by rw[hf.threads];exact hth
 obtain⟨t0,t1⟩:=ao.1 ht;have hne:s.threads≠[]:=λe=>by rw[e]at t1;simp at t1;omega
 have M:(∀D B E,(E=none->s.done=[])->(LA s N u D B (ab E 1 (s.done.map au))).names.Nodup->NU w s t o wake N u D B k (At w s t k o wake) (cU E s.done.length) (LA s N u D B (ab E 1 (s.done.map au))))->
   NW w s t k o wake N u:=λh=>by
  refine vH (J9 s hs.locks hs.done hs.threads hs.rd hne) ?_;rintro v K ⟨D,B,E,rfl,rfl,j⟩;exact⟨LA s N u D B (ab E 1 (s.done.map au)),Rj _ _ _ _ _,h D B E j⟩
 have readers:inB o s.locks.length=true->(∀D B Z E,(E=none->s.done=[])->(Z=none->(aQ s o).readers=[])->(Rh s o N u D B Z (ab E 1 (s.done.map au))).names.Nodup->NU w s t o wake N u D B k (At w s t k o wake) (cU E s.done.length) (Rh s o N u D B Z (ab E 1 (s.done.map au))))->
   NW w s t k o wake N u:=λS h=>by
  refine vH (Ri s hs.locks hs.done hs.threads hs.rd hne o S) ?_;rintro v K ⟨D,B,Z,E,rfl,rfl,j,O⟩;exact⟨Rh s o N u D B Z (ab E 1 (s.done.map au)),WW _ _ _ _ _ _,h D B Z E j O⟩
 have hrl:∀o,inB o s.locks.length=true->(aQ s o).readers.length<2^40:=λo h=>by
  obtain⟨o0,o1⟩:=ao.1 h;have hlt:o.toNat<s.locks.length:=by omega
  unfold aQ;rw[show s.locks.getD o.toNat default=s.locks[o.toNat] by simp[hlt]];exact hs.rd _ (LT hlt)
 by_cases h22:k=22
 .subst h22;refine M λD B E j G=>?_
  cases E with
  |none=>
   have S:inB o s.done.length=true:=by rw[hf.done];simpa[allowedS]using hal
   obtain⟨o0,o1⟩:=ao.1 S;rw[j rfl]at o1;simp at o1;omega
  |some bd=>exact WU w s t o wake N u D B _ hf ht bd G hal (Zo w s t o wake hen D B bd)
 have e1:=λD B E j=>Zn w s t k o wake hen h22 D B E j
 by_cases h8:k=8
 .subst h8;have S:inB o s.locks.length=true:=by rw[hf.locks];simp[allowedS]at hal;exact hal.1
  exact readers S λD B Z E j O G=>Zm w s t o wake N u D B _ _ (i7 _ _) _ S (hrl o S) Z O G (e1 D B E j)
 by_cases h9:k=9
 .subst h9;have S:inB o s.locks.length=true:=by rw[hf.locks];simp[allowedS]at hal;exact hal.1
  refine readers S λD B Z E j O G=>?_
  cases Z with
  |none=>
   have hc:(aQ s o).readers.contains t=true:=by have:=hkd;simp[df]at this;simpa using this.2
   rw[O rfl]at hc;cases hc
  |some br=>exact Zl w s t o wake N u D B _ _ (i7 _ _) _ S (hrl o S) br G (e1 D B E j)
 by_cases h16:k=16\/k=17
 .exact M λD B E j G=>Zj w s t o wake N u D B _ _ (i7 _ _) _ hf ht G k hal h16 (e1 D B E j)
 by_cases h18:k=18\/k=19
 .exact M λD B E j G=>Zk w s t o wake N u D B _ _ (i7 _ _) _ hf ht G k h18 hs.threads (e1 D B E j)
 rcases wF k with hk|hk
 .rw[fD hk]at hal;cases hal
 .exact M λD B E j G=>Zi w s t o wake N u D B _ _ (i7 _ _) _ hf ht G k hal acN (e1 D B E j)
theorem Rl(B:CJ w s):aq Tryz.prog 49 [.agg w.enc,.agg s.enc,.acU t,.acU k,.acU o,.acU wake] (EV (dx w s t k o wake)):=by
 refine ac.fz (As _ _ _ _ _ _ _ _ ?_);show qJ _ _ _ _ _ _ _ (At w s t k o wake);refine vw ?_;have D:w.conds.length<2^62:=by have:=B.conds;omega
 have E:=CI w s t k o D B.rd;have j:=Rk w s t k o wake B;unfold NW at j;have fin:aC w s t k o=false->∀L,At w s t k o wake (.tup [.agg [.nils,.acU 0,.nils,.nils],.acU 0,.bool false]) L:=λG L=>by refine⟨_,[],ax.all (Fz.tups (.cons (Fz.aggs (.cons .nils (.cons (.refl _) (.cons .nils (.cons .nils .nil))))) (.cons (.refl _) (.cons (.refl _) .nil)))),?_,rfl⟩;unfold dx;rw[G];rfl
 generalize At w s t k o wake=Q at *;cases u:aC w s t k o with
 |false=>
  rw[u]at E;have M:(!false)=true:=rfl;have fin:=fin u;clear j
  repeat' (first|refine sy ?_|refine s2 ?_ ?_|intro)
  exact fin _
 |true=>
  rw[u]at E;have j:=j u;clear fin
  repeat' (first|exact j _ _|refine sy ?_|refine s2 ?_ ?_|intro)
end
end
structure bA where
 thread:Int
 kind:Int
 obj:Int
 value:Int
 site:Int
 deps:List Int
 frm:List Int
def bA.enc(e:bA):List AV:=[.acU e.thread,.acU e.kind,.acU e.obj,.acU e.value,.acU e.site,.lst (e.deps.map aa),.lst (e.frm.map aa)]
structure eE where
 sync:SyncD
 cells:List Int
 futures:List Int
 threads:List bI
def eE.enc(s:eE):List AV:=[.lst (s.sync.locks.map LockD.enc),.acU s.sync.tx,.lst (s.sync.done.map au),.lst (s.sync.threads.map ThrD.enc),.lst (s.cells.map aa),.lst (s.futures.map aa),.lst (s.threads.map bI.enc)]
def jv(op:Int):Int:=Bi.getD op.toNat 0
def ixS(i n:Int):Int:=if n<1 then 0 else if i.tmod n<0 then IntKind.i64.wrap (i.tmod n+n)else i.tmod n
def fN(i:cb)(s:bI)(t:Int):bA:=
 let e:bA:=⟨t,jv i.op,i.a,0,i.site,[],[]⟩
 if i.op=6\/i.op=27 then {e with obj:=i.b}
 else if i.op=7 then {e with obj:=IntKind.i64.wrap (i.b+ixS (s.reg i.c) i.n),deps:=s.tnt i.c}
 else if i.op=8\/i.op=26 then {e with frm:=s.tnt i.b}
 else if i.op=9 then {e with obj:=IntKind.i64.wrap (i.a+ixS (s.reg i.c) i.n),deps:=s.tnt i.c,frm:=s.tnt i.b}
 else if i.op=10 then {e with obj:=-1,deps:=s.tnt i.a}
 else if i.op=28\/i.op=17\/i.op=18\/i.op=19\/i.op=20 then {e with obj:=-1}
 else e
def aE(c:bP)(t:Int):i6:=c.ts.getD t.toNat ⟨0,[]⟩
def aI(s:eE)(t:Int):bI:=s.threads.getD t.toNat bI.zero
def cK(c:i6)(k:Int):cb:=c.ins.getD k.toNat default
def uF(c:bP)(s:eE)(t:Int):Bool:=
 inB t c.ts.length&&inB t s.threads.length&&inB t s.sync.threads.length&&inB (aI s t).pc (aE c t).ins.length&&decide (((aI s t).regs.length:Int)=(aE c t).regs)&&decide (((aI s t).taint.length:Int)=(aE c t).regs)
def eI(c:bP)(s:eE)(t:Int):Option bA:=
 if uF c s t then
  let i:=cK (aE c t) (aI s t).pc
  if(a8 s.sync t).status=1 then some ⟨t,1,-1,0,-1,[],[]⟩
  else if(a8 s.sync t).status=4 then some ⟨t,17,(a8 s.sync t).cond,0,i.site,[],[]⟩
  else if(a8 s.sync t).status=2 then(if jv i.op≠0 then some (fN i (aI s t) t)else none)
  else none
 else none
structure Ue where
 value:Int
 cells:List Int
 futures:List Int
 thread:bI
def oL(l:List Int)(o:Int):Int:=l.getD o.toNat 0
def fe(i:cb)(e:bA)(s:eE)(th:bI)(sv:Int):Ue:=
 let nx:Int:=IntKind.i64.wrap (th.pc+1)
 let ev:Int:=IntKind.i64.wrap (th.ev+1)
 if e.kind=3 then⟨oL s.cells e.obj,s.cells,s.futures,⟨nx,th.regs.set i.a.toNat (oL s.cells e.obj),th.taint.set i.a.toNat [th.ev],ev⟩⟩
 else if e.kind=23 then⟨oL s.futures e.obj,s.cells,s.futures,⟨nx,th.regs.set i.a.toNat (oL s.futures e.obj),th.taint.set i.a.toNat [th.ev],ev⟩⟩
 else if e.kind=4 then⟨th.reg i.b,s.cells.set e.obj.toNat (th.reg i.b),s.futures,⟨nx,th.regs,th.taint,ev⟩⟩
 else if e.kind=22 then⟨th.reg i.b,s.cells,s.futures.set e.obj.toNat (th.reg i.b),⟨nx,th.regs,th.taint,ev⟩⟩
 else if e.kind=5 then(if th.reg i.a≠0 then⟨1,s.cells,s.futures,⟨nx,th.regs,th.taint,ev⟩⟩else⟨e.value,s.cells,s.futures,⟨i.b,th.regs,th.taint,ev⟩⟩)
 else if e.kind=18\/e.kind=19 then⟨sv,s.cells,s.futures,⟨nx,th.regs,th.taint,ev⟩⟩
 else if e.kind=1\/e.kind=16\/e.kind=2 then⟨e.value,s.cells,s.futures,⟨th.pc,th.regs,th.taint,ev⟩⟩
 else⟨e.value,s.cells,s.futures,⟨nx,th.regs,th.taint,ev⟩⟩
def nz(c:bP)(s:eE)(t wake:Int):Option (eE×bA):=
 match eI c s t with
 |none=>none
 |some e=>
  if s.cells.length=c.w.cells.length/\s.futures.length=c.w.futures.length then
   let r:=dx c.w s.sync t e.kind e.obj wake
   if r.2.2 then
    let a:=fe (cK (aE c t) (aI s t).pc) e s (aI s t) r.2.1
    let e':={e with value:=a.value}
    if e.kind≠16/\e.kind≠2 then
     let z:=cD (aE c t) a.thread
     if z.2 then some (⟨r.1,a.cells,a.futures,s.threads.set t.toNat z.1⟩,e')else none
    else some (⟨r.1,a.cells,a.futures,s.threads.set t.toNat a.thread⟩,e')
   else none
  else none
def du(c:bP):eE:=⟨bM c.w,c.w.cells.map aU.init,List.replicate c.w.futures.length 0,c.ts.map λt=>⟨0,List.replicate t.regs.toNat 0,List.replicate t.regs.toNat [],0⟩⟩
def IU(c:bP)(p:List bA×eE)(ch:aD):List bA×eE:=
 if 400<=p.1.length then p else match nz c p.2 ch.thread ch.wake with
  |none=>p
  |some (n,e)=>(p.1++[e],n)
def lS(c:bP)(l:List aD):List bA×eE:=l.foldl (IU c) ([],du c)
section
theorem fl{K:SH}{l m:List AV}(h:fy K l m:=by repeat' first|exact .nil|refine .cons ?_ ?_|exact .refl _|exact .nils):fy K l m:=h
theorem ops(k:Int)(j:1<=k)(h2:k<=28):k=1\/k=2\/k=3\/k=4\/k=5\/k=6\/k=7\/k=8\/k=9\/k=10\/k=11\/k=12\/k=13\/k=14\/k=15\/k=16\/k=17\/k=18\/k=19\/k=20\/k=21\/k=22\/k=23\/k=24\/k=25\/k=26\/k=27\/k=28:=by omega
theorem Mn{s:bI}{r:Int}(u:0<=r)(j:r<s.regs.length):(s.regs.map aa)[r.toNat]? =some [.acU (s.reg r)]:=by
 have:r.toNat<s.regs.length:=by omega
 simp[bI.reg,this,aa]
theorem Rt{s:bI}{r:Int}(u:0<=r)(j:r<s.taint.length):(s.taint.map eX)[r.toNat]? =some [.lst ((s.tnt r).map aa)]:=by
 have:r.toNat<s.taint.length:=by omega
 simp[bI.tnt,this,eX]
section
variable {s:bI} {t op ia ib ic m site:Int} (hr:∀r∈bS ⟨op,ia,ib,ic,m,site⟩,0<=r/\r<s.regs.length) (ht:s.taint.length=s.regs.length) (hs:∀r,(s.tnt r).length*8<=140737488355328) {Q:R} (hq:∀v L,(∀K,fy K v (fN ⟨op,ia,ib,ic,m,site⟩ s t).enc)->Q (.agg v) L)
include hr ht hs hq
end
end
def bA.zero:bA:=⟨0,0,0,0,0,[],[]⟩
def N0(e:Option bA):AV:=match e with
 |some e=>.tup [.agg e.enc,.bool true]
 |none=>.tup [.agg bA.zero.enc,.bool false]
def CM(c:i6):Prop:=∀i∈c.ins,1<=i.op/\i.op<=28/\∀r∈bS i,0<=r/\r<c.regs
def CN{α:Type}{f:α->List AV}{l:List α}{i:Int}{d:α}(h:inB i l.length=true):(l.map f)[i.toNat]? =some (f (l.getD i.toNat d)):=by
 obtain⟨u,j⟩:=ao.1 h;have:i.toNat<l.length:=by omega
 simp[this]
def j9{α:Type}{l:List α}{i:Int}{d:α}(h:inB i l.length=true):l.getD i.toNat d∈l:=by
 obtain⟨u,j⟩:=ao.1 h;have:i.toNat<l.length:=by omega
 simp[this]
def fq{b B i k n by_:Nat}{rows m:List (List AV)}{L D:SH}{KL:AV->SH->Prop}(N:(B,(⟨n,m⟩:Blk))∈L)(u:dF b ⟨n,rows⟩ L D)(E:rows.length=i)(G:k=m.length)(h2:2*(i+m.length)*by_<=2^48)(O:2*(i+m.length)<=2^62)(h4:(m.all λr=>r.all AV.one)=true)
  (h:∀j,j∉L.names->KL (.sl j 0 (i+m.length)) ((j,⟨n,rows++m⟩)::D)):W.append n by_ (.sl b 0 i) (.sl B 0 k) L KL:=by
 subst G;subst E;exact lJ (y:=⟨n,rows⟩) (l:=rows) u.mem' rfl acQ acQ (j7 N rfl rfl) h2 O h4 u (λj M=>h j M)
def ca:List AV:=[.nils,.acU 0,.nils,.nils,.nils,.nils,.nils]
section
def i8:List AV:=[.acU 0,.acU 0,.acU 0,.acU 0,.acU 0,.nils,.nils]
theorem Ke{α:Type}{l:List α}{n:Nat}(r:α)(h:n<l.length):(l.set n r)[n]? =some r:=by simp[h]
theorem ax.rowV{vs u:List AV}{L K R:SH}{b n:Nat}{rows rows':List (List AV)}(S:L.Perm (K++(b,⟨n,rows⟩)::R))(G:fy K vs u)(B:rows.length=rows'.length)(O:∀(j:Nat) (r E:List AV),rows[j]? =some r->rows'[j]? =some E->fy K r E):ax vs L u ((b,⟨n,rows'⟩)::R):=by
 refine⟨K,(b,⟨n,rows⟩)::R,S,⟨G.at_.1,G.at_.2⟩,rfl,λi p q h1 D=>?_⟩
 match i with
 |0=>cases h1;cases D;exact⟨rfl,rfl,B,λj s s2 g1 g2=>(O j s s2 g1 g2).at_⟩
 |i+1=>simp only[acj]at h1 D;rw[h1]at D;cases D;exact⟨rfl,rfl,rfl,λj r r2 Z N=>by rw[Z]at N;cases N;exact⟨rfl,λk a a2 Y M=>by rw[Y]at M;cases M;exact .refl _⟩⟩
section
variable (c:bP) (l:List bI) (t wake:Int) (h1:inB t l.length=true) (hc:inB t c.ts.length=true) (p pc0 ev0:Int) (rg:List Int) (tn:List (List Int)) (g1 g2:AV) (sy:SyncD) (x y:AV) (hx:x=.lst []\/∃b n,x=.sl b 0 n) (hy:y=.lst []\/∃b n,y=.sl b 0 n)
 (e1 ek eo ev es:Int) (d f:List Int) (b132 b24 b8 b6 bt:Nat) (K RZ RR A:SH) (hA:A=[]\/∃q,A=[q]) (hR:(A++RR).Perm (K++RZ)) (hg:Fz K g1 (.lst (rg.map aa))) (hg2:Fz K g2 (.lst (tn.map eX)))
 (hn1:b24≠b6) (go1:g1.one=true) (go2:g2.one=true) (Q:R)
include h1 hc hn1 hx hy hA hR hg hg2
end
end
section
def eE.zero:eE:=⟨Gl,[],[],[]⟩
def Kf(r:Option (eE×bA)):AV:=match r with
 |some r=>.tup [.agg r.1.enc,.agg r.2.enc,.bool true]
 |none=>.tup [.agg eE.zero.enc,.agg bA.zero.enc,.bool false]
def Au(c:bP)(s:eE)(t:Int)(r1:SyncD)(e:bA)(a:Ue):Option (eE×bA):=
 if e.kind≠16/\e.kind≠2 then
  (if(cD (aE c t) a.thread).2 then some (⟨r1,a.cells,a.futures,s.threads.set t.toNat (cD (aE c t) a.thread).1⟩,{e with value:=a.value})else none)
 else some (⟨r1,a.cells,a.futures,s.threads.set t.toNat a.thread⟩,{e with value:=a.value})
theorem Kg(K:SH):Fz K (.tup [.agg ca,.agg i8,.bool false]) (Kf none):=
 Fz.tups (.cons (Fz.aggs (by unfold ca eE.zero eE.enc Gl;exact fl)) (.cons (Fz.aggs (by unfold i8 bA.zero bA.enc;exact fl)) (.cons (.refl _) .nil)))
theorem Ru{α:Type}{f:α->List AV}{L:SH}{bt n m:Nat}{l:List α}{k:Nat}{r:List AV}{y:α}(Y:0<n)(G:m=l.length)(hk:k<l.length)(Z:(bt,(⟨n,(l.map f).set k r⟩:Blk))∈L)(S:fy L r (f y)):Fz L (.sl bt 0 m) (.lst ((l.set k y).map f)):=by
 subst G;have E:∀(j:Nat) (x D:List AV),((l.map f).set k r)[0+j]? =some x->((l.set k y).map f)[j]? =some D->fy L x D:=by
  intro j x D B u;rw[abT]at u;rw[abI]at B;rw[abs]at B u;by_cases M:k=j
  .rw[if_pos M,if_pos (by simpa using hk)]at B u;cases B;cases u;exact S
  .rw[if_neg M]at B u;rw[B]at u;cases u;exact fy.refl _ _
 exact .sl bt 0 l.length _ _ Z Y acN acQ acQ (λj x D B u=>(E j x D B u).at_.1) (λj x D q a a2 B u O N=>(E j x D B u).at_.2 q a a2 O N)
theorem WZ{L:SH}{bt:Nat}{l:List bI}{k:Nat}{r:List AV}{th:bI}(B:k<l.length)(u:(bt,(⟨4,(l.map bI.enc).set k r⟩:Blk))∈L)(j:fy L r th.enc):Fz L (.sl bt 0 l.length) (.lst ((l.set k th).map bI.enc)):=Ru acR rfl B u j
section
variable (c:bP) (s:eE) (t wake:Int) (h1:inB t s.threads.length=true) (hc:inB t c.ts.length=true) (sy:SyncD) (e:bA) (a:Ue) (b132 b24 b8 b6 bt:Nat) (oc of:Option Nat) (K RZ RR A:SH) (hA:A=[]\/∃q,A=[q]) (hA0:e.kind=16\/e.kind=2->A=[]) (hR:(A++RR).Perm (K++RZ))
  (g1 g2:AV) (hg:∀L:SH,(∀q∈K,q∈L)->Fz L g1 (.lst (a.thread.regs.map aa))) (hg2:∀L:SH,(∀q∈K,q∈L)->Fz L g2 (.lst (a.thread.taint.map eX))) (hn1:b24≠b6)
  (hoc:oc=none->a.cells=[]) (hof:of=none->a.futures=[]) (hmc:∀b,oc=some b->∃rows,rows=a.cells.map aa/\(b,(⟨1,rows⟩:Blk))∈RZ) (hmf:∀b,of=some b->∃rows,rows=a.futures.map aa/\(b,(⟨1,rows⟩:Blk))∈RZ)
   (pc0 ev0:Int) (hev:a.thread.ev=IntKind.i64.wrap (ev0+1)) (Q:R) (hq:∀v L,Fz L v (Kf (Au c s t sy e a))->Q v L)
include h1 hc hA hA0 hR hg hg2 hn1 hoc hof hmc hmf hev hq
end
end
section
theorem aO{B:SH->Prop}{n b i j:Nat}{v:AV}{x:Blk}{r cs:List AV}{L u:SH}(D:Bx b x ⟨x.size,x.rows.set i (aR r j cs)⟩ L u)(h1:x.rows[i]? =some r)(h2:v.cells? =some cs)(G:cs.length=n)(h4:cs.all AV.one=true)(E:j+n<=r.length)(h:B u):W.store n (.ptr b i j) v L B:=⟨x,r,cs,u,h1,h2,G,h4,E,D,h⟩
theorem aw{n b m:Nat}{k:IntKind}{i:Int}{y:Blk}{L:SH}{K:AV->Prop}(u:0<=i)(h1:i.toNat<m)(j:(b,y)∈L)(h2:y.size=n)(h:K (.ptr b i.toNat 0)):W.idx n (.sl b 0 m) (.int k i) L K:=Hf u h1 j h2 (by rw[abI];exact h)
section
variable (c:bP) (s:eE) (t wake:Int) (h1:inB t s.threads.length=true) (hc:inB t c.ts.length=true) (th:bI) (hth:aI s t=th) (i:cb) (hi:cK (aE c t) th.pc=i) (hpc:inB th.pc (aE c t).ins.length=true) (sy:SyncD) (sv:Int) (e:bA) (b132 b24 b8 b6 bt tb:Nat) (o oc of:Option Nat) (hn1:b24≠b6) (hn2:b24∉SH.names ((b8,(⟨7,[i8]⟩:Blk))::[]) ) (ho:o=none->th.regs=[]) (hoc:oc=none->s.cells=[]) (hof:of=none->s.futures=[]) (Q:R)
include h1 hc hth hi hpc
end
end
def Gq(i:cb)(s:bI)(t:Int):(fN i s t).kind=jv i.op:=by
 unfold fN;dsimp only
 repeat' split
 all_goals rfl
def Rv{i:cb}{n:Int}(u:1<=i.op)(h2:i.op<=28)(G:∀r∈bS i,0<=r/\r<n):((jv i.op=3\/jv i.op=23\/jv i.op=5)->0<=i.a/\i.a<n)/\((jv i.op=4\/jv i.op=22)->0<=i.b/\i.b<n):=by obtain⟨op,E,D,B,m,j⟩:=i;dsimp only at *;rcases ops op u h2 with rfl|rfl|rfl|rfl|rfl|rfl|rfl|rfl|rfl|rfl|rfl|rfl|rfl|rfl|rfl|rfl|rfl|rfl|rfl|rfl|rfl|rfl|rfl|rfl|rfl|rfl|rfl|rfl<;>simp_all[jv,Bi,bS]
structure Zr(c:bP)(s:eE)(t:Int)(e:bA):Prop where
 ready:uF c s t=true
 ra:(e.kind=3\/e.kind=23\/e.kind=5)->0<=(cK (aE c t) (aI s t).pc).a/\(cK (aE c t) (aI s t).pc).a<(aI s t).regs.length
 rb:(e.kind=4\/e.kind=22)->0<=(cK (aE c t) (aI s t).pc).b/\(cK (aE c t) (aI s t).pc).b<(aI s t).regs.length
def gk{c:bP}{s:eE}{t:Int}(h:uF c s t=true):inB t c.ts.length=true/\inB t s.threads.length=true/\inB t s.sync.threads.length=true/\inB (aI s t).pc (aE c t).ins.length=true/\((aI s t).regs.length:Int)=(aE c t).regs/\((aI s t).taint.length:Int)=(aE c t).regs:=by unfold uF at h;simp only[aas,decide_eq_true_eq]at h;obtain⟨⟨⟨⟨⟨a,b⟩,c⟩,d⟩,e⟩,f⟩:=h;exact⟨a,b,c,d,e,f⟩
def CO{c:bP}{s:eE}{t:Int}{e:bA}(N:∀x∈c.ts,CM x)(h:eI c s t=some e):Zr c s t e:=by
 unfold eI at h;by_cases j:uF c s t=true
 .rw[if_pos j]at h;obtain⟨S,a2,a3,O,Z,Y⟩:=gk j;obtain⟨G,E,D⟩:=N _ (j9 (d:=⟨0,[]⟩) S) _ (j9 (d:=default) O);rw[show(c.ts.getD t.toNat ⟨0,[]⟩).ins.getD (aI s t).pc.toNat default=cK (aE c t) (aI s t).pc from rfl]at G E D;have M:=Rv (n:=(aI s t).regs.length) G E (λr j=>by have:=D r j;rw[show(c.ts.getD t.toNat ⟨0,[]⟩).regs=(aE c t).regs from rfl]at this;omega);have u:e.kind=1\/e.kind=17\/e.kind=jv (cK (aE c t) (aI s t).pc).op:=by
   dsimp only at h;split at h
   .cases h;exact .inl rfl
   .split at h
    .cases h;exact .inr (.inl rfl)
    .split at h
     .split at h
      .cases h;exact .inr (.inr (Gq _ _ _))
      .cases h
     .cases h
  refine⟨j,λB=>M.1 ?_,λB=>M.2 ?_⟩
  .rcases u with k|k|k
   .omega
   .omega
   .rw[<-k];exact B
  .rcases u with k|k|k
   .omega
   .omega
   .rw[<-k];exact B
 .rw[if_neg j]at h;cases h
def wL(c:bP)(s:eE)(t wake:Int):nz c s t wake=match eI c s t with
  |none=>none
  | some e=>if s.cells.length=c.w.cells.length/\s.futures.length=c.w.futures.length then
    (if(dx c.w s.sync t e.kind e.obj wake).2.2 then Au c s t (dx c.w s.sync t e.kind e.obj wake).1 e (fe (cK (aE c t) (aI s t).pc) e s (aI s t) (dx c.w s.sync t e.kind e.obj wake).2.1)else none)else none:=by
 unfold nz Au;rfl
def Kh{w:aF}{s:SyncD}{t k o wake:Int}(h:(dx w s t k o wake).2.2=true):allowedS w k o=true:=by
 unfold dx at h;split at h
 .rename_i j;unfold aC at j;simp only[aas]at j;exact j.1.2
 .cases h
structure Zs(U:List Int)(c:bP)(s:eE):Prop where
 ins:∀x∈c.ts,CM x
 len:∀x∈c.ts,x.ins.length<2^40
 u30:U.length<=2^30
 thr:∀x∈s.threads,j8 U x/\x.ev∈U/\x.regs.length<=2^30
 sm:CJ c.w s.sync
 nt:s.threads.length<=2^30
 nc:s.cells.length<2^40
 nf:s.futures.length<2^40
def Ki{U:List Int}{i:cb}{e:bA}{s:eE}{th:bI}{sv:Int}(h:j8 U th)(E:th.ev∈U):j8 U (fe i e s th sv).thread:=by
 obtain⟨B,u,M,G⟩:=h;have j:j8 U ⟨th.pc,th.regs,th.taint.set i.a.toNat [th.ev],th.ev⟩:=by
  refine⟨by simpa using B,u,λl D=>?_,λl D x N=>?_⟩
  .rcases aca D with h|rfl
   .exact M l h
   .simp
  .rcases aca D with h|rfl
   .exact G l h x N
   .rw[aag.1 N];exact E
 unfold fe;dsimp only
 repeat' split
 all_goals first
  |exact⟨B,u,M,G⟩
  |exact⟨by simpa using B,by simpa using u,j.short,j.sub⟩
def EW(t:i6):bI:=⟨0,List.replicate t.regs.toNat 0,List.replicate t.regs.toNat [],0⟩
def U9:List Int:=(List.range 401).map λk:Nat=>(k:Int)
def Rw{n:Int}(u:0<=n)(j:n<=400):n∈U9:=abP.2 ⟨n.toNat,acd.2 acN,acN⟩
def Rx:U9.length<=2^30:=by simp[U9]
structure pR(c:bP)(n:Nat)(s:eE):Prop where
 thr:∀x∈s.threads,j8 U9 x/\0<=x.ev/\x.ev<=n/\x.regs.length<=1000
 nt:s.threads.length<=1000
 lk:s.sync.locks.length<=1000
 rd:∀l∈s.sync.locks,l.readers.length<=n
 dn:s.sync.done.length<=1000
 th:s.sync.threads.length<=1000
 nc:s.cells.length<=1000
 nf:s.futures.length<=1000
structure Uf(s s':SyncD)(n:Nat):Prop where
 lk:s'.locks.length=s.locks.length
 dn:s'.done.length=s.done.length
 th:s'.threads.length=s.threads.length
 rd:∀l∈s'.locks,l.readers.length<=n+1
def Pa(l:List Int)(t:Int):(wH l t).length<=l.length+1:=by unfold wH;have:=qK (yr (l++[t]));rw[A0]at this;simpa using this
def Pb{s:SyncD}{n:Nat}(h:∀l∈s.locks,l.readers.length<=n)(o:Int):(aQ s o).readers.length<=n:=by
 unfold aQ;rcases LE o.toNat s.locks.length with j|j
 .simpa[List.getD,j]using h _ (LT j)
 .simp[List.getD,aah j];exact abt _
def rT{w:aF}{s:SyncD}{t k o wake:Int}{n:Nat}(h:∀l∈s.locks,l.readers.length<=n):Uf s (bF w s t k o wake).1 n:=by
  have j:∀l∈s.locks,l.readers.length<=n+1:=λl u=>acq (h l u)
  have lk:∀(i:Int) (f:LockD->LockD),(∀x,x.readers.length<=n->(f x).readers.length<=n+1)->∀l∈cY s i f,l.readers.length<=n+1:=λi f D l u=>by
    unfold cY at u;rcases aca u with E|rfl
    · exact j l E
    · exact D _ (Pb h i)
  have own:∀(i v:Int),∀l∈cY s i (λx=>{x with owner:=v}),l.readers.length<=n+1:=λi v=>lk i _ λx B=>acq B
  have G:∀(i:Int) (f:LockD->LockD),(cY s i f).length=s.locks.length:=λi f=>by simp[cY]
  have tl:∀(i:Int) (f:ThrD->ThrD),(dZ s i f).length=s.threads.length:=λi f=>by simp[dZ]
  unfold bF
  repeat' refine iteInduction (motive:=λx:SyncD×Int=>Uf s x.1 n) (λ_=>?_) (λ_=>?_)
  all_goals refine⟨by simp[cY],acQ,by simp[dZ,yw,c9,Gk],?_⟩
  all_goals first
    |exact j
    | (intro l u; dsimp only at u
       refine lk _ _ (λx B=>?_) l u;dsimp only
       first
         |exact acq B
         |exact abe (Pa _ _) (Nat.succ_le_succ B)
         |exact abe (aci _ _) (acq B))
def oM{i:cb}{e:bA}{s:eE}{th:bI}{sv:Int}:(fe i e s th sv).thread.ev=IntKind.i64.wrap (th.ev+1)/\(fe i e s th sv).thread.regs.length=th.regs.length/\(fe i e s th sv).cells.length=s.cells.length/\(fe i e s th sv).futures.length=s.futures.length:=by
 unfold fe;dsimp only
 repeat' split
 all_goals exact⟨rfl,acQ,acQ,acQ⟩
def Ug{i:cb}{s s2:bI}(h:cL i s=some s2):s2.ev=s.ev:=by
 unfold cL at h
 repeat' split at h
 all_goals first
  |(cases h;rfl)
  |cases h
def W1{j:List cb}:∀(k:Nat) {s y:bI},gA j k s=(y,true)->y.ev=s.ev/\y.regs.length=s.regs.length:=by
 intro k
 induction k with
 |zero=>
  intro s y h;unfold gA at h
  repeat' split at h
  all_goals first
   |(cases h;exact⟨rfl,rfl⟩)
   |cases h
 |succ k B=>
  intro s y h;unfold gA at h;split at h
  .split at h
   .cases h;exact⟨rfl,rfl⟩
   .split at h
    .cases h
    .rename_i s2 u;obtain⟨a,b⟩:=B h;rw[a,b,Ug u,(Gp u).1];exact⟨rfl,rfl⟩
  .cases h
def Gr{c:i6}{s y:bI}(h:cD c s=(y,true)):y.ev=s.ev/\y.regs.length=s.regs.length:=by
 unfold cD at h;split at h
 .exact W1 _ h
 .cases h
structure Zt(c:bP)(s:eE)(t wake:Int)(s':eE)(e':bA):Prop where
 ex:∃(e:bA) (th':bI),eI c s t=some e/\(dx c.w s.sync t e.kind e.obj wake).2.2=true/\s.cells.length=c.w.cells.length/\s.futures.length=c.w.futures.length/\
  (th'=(fe (cK (aE c t) (aI s t).pc) e s (aI s t) (dx c.w s.sync t e.kind e.obj wake).2.1).thread\/cD (aE c t) (fe (cK (aE c t) (aI s t).pc) e s (aI s t) (dx c.w s.sync t e.kind e.obj wake).2.1).thread=(th',true))/\
  s'=⟨(dx c.w s.sync t e.kind e.obj wake).1,(fe (cK (aE c t) (aI s t).pc) e s (aI s t) (dx c.w s.sync t e.kind e.obj wake).2.1).cells,(fe (cK (aE c t) (aI s t).pc) e s (aI s t) (dx c.w s.sync t e.kind e.obj wake).2.1).futures,s.threads.set t.toNat th'⟩/\
  e'={e with value:=(fe (cK (aE c t) (aI s t).pc) e s (aI s t) (dx c.w s.sync t e.kind e.obj wake).2.1).value}
def CP{c:bP}{s u:eE}{t wake:Int}{D:bA}(h:nz c s t wake=some (u,D)):Zt c s t wake u D:=by
 rw[wL]at h;cases hp:eI c s t with
 |none=>rw[hp]at h;cases h
 |some e=>
  rw[hp]at h;dsimp only at h;split at h
  .rename_i j;split at h
   .rename_i B;unfold Au at h;split at h
    .split at h
     .rename_i E;cases h;exact⟨e,_,hp,B,j.1,j.2,.inr (Prod.ext rfl E),rfl,rfl⟩
     .cases h
    .cases h;exact⟨e,_,hp,B,j.1,j.2,.inl rfl,rfl,rfl⟩
   .cases h
  .cases h
def Ry{c:bP}{s M:eE}{t wake:Int}{e':bA}{n:Nat}(hn:n<400)(H:pR c n s)(hi:∀x∈c.ts,CM x)(h:nz c s t wake=some (M,e')):pR c (n+1) M:=by
 obtain⟨e,j,hp,G,hl1,hl2,E,rfl,rfl⟩:=CP h;have a2:=(gk (CO hi hp).ready).2.1;have u:aI s t∈s.threads:=j9 (d:=bI.zero) a2;obtain⟨Y,S,t3,t4⟩:=H.thr _ u;have at_:=Ki (U:=U9) (i:=cK (aE c t) (aI s t).pc) (e:=e) (s:=s) (sv:=(dx c.w s.sync t e.kind e.obj wake).2.1) Y (Rw S acN);obtain⟨N,q2,q3,Z⟩:=oM (i:=cK (aE c t) (aI s t).pc) (e:=e) (s:=s) (th:=aI s t) (sv:=(dx c.w s.sync t e.kind e.obj wake).2.1);rw[abg _ acN]at N;have B:Uf s.sync (dx c.w s.sync t e.kind e.obj wake).1 n:=by
  unfold dx at G ⊢;split
  .exact rT H.rd
  .rename_i he;rw[if_neg he]at G;cases G
 have D:j8 U9 j/\j.ev=(aI s t).ev+1/\j.regs.length=(aI s t).regs.length:=by
  rcases E with rfl|O
  .exact⟨at_,N,q2⟩
  .have:=Kb (c:=aE c t) Rx at_;rw[O]at this;obtain⟨a,b⟩:=Gr O;exact⟨this,acN,acN⟩
 refine⟨λx hx=>?_,by simpa using H.nt,by rw[B.lk];exact H.lk,B.rd,by rw[B.dn];exact H.dn,by rw[B.th];exact H.th,by rw[q3];exact H.nc,by rw[Z];exact H.nf⟩;rcases aca hx with h1|rfl
 .obtain⟨b1,b2,b3,b4⟩:=H.thr x h1;exact⟨b1,b2,acN,b4⟩
 .exact⟨D.1,acN,acN,acN⟩
def Rz{c:bP}{s:eE}{n:Nat}(M:n<=400)(H:pR c n s)(B:∀x∈c.ts,CM x)(u:∀x∈c.ts,x.ins.length<2^40)(D:c.w.conds.length<2^40):Zs U9 c s where
 ins:=B
 len:=u
 u30:=Rx
 thr:=λx j=>by obtain⟨G,E,O,N⟩:=H.thr x j;exact⟨G,Rw E acN,acN⟩
 sm:=⟨D,by have:=H.lk;omega,by have:=H.dn;omega,by have:=H.th;omega,λl h=>by have:=H.rd l h;omega⟩
 nt:=by have:=H.nt;omega
 nc:=by have:=H.nc;omega
 nf:=by have:=H.nf;omega
def gV(c:bP)(l:List aD)(p:List bA×eE):List bA×eE:=l.foldl (IU c) p
def Gs(c:bP):∀(l:List aD) (p:List bA×eE),400<=p.1.length->gV c l p=p
 |[],p,_=>rfl
 | ch::l,p,h=>by
  show gV c l (IU c p ch)=p;have e:IU c p ch=p:=by unfold IU;rw[if_pos h]
  rw[e];exact Gs c l p h
def Pd(c:bP)(l:List aD)(k:Nat)(p:List bA×eE):gV c l p=gV c (l.drop k) (gV c (l.take k) p):=by unfold gV;rw[<-acL,acr]
def Pe(c:bP)(l:List aD)(k:Nat)(j:k<l.length)(p:List bA×eE):gV c (l.take (k+1)) p=IU c (gV c (l.take k) p) l[k]:=by unfold gV;rw[Fn j,acL];rfl
structure N1(c:bP):Prop where
 ins:∀x∈c.ts,CM x
 len:∀x∈c.ts,x.ins.length<2^40
 con:c.w.conds.length<2^40
def H4{c:bP}(D:N1 c){p:List bA×eE}{ch:aD}(h:pR c p.1.length p.2)(j:p.1.length<=400):pR c (IU c p ch).1.length (IU c p ch).2/\(IU c p ch).1.length<=400:=by
 unfold IU;split
 .exact⟨h,j⟩
 .rename_i B;split
  .exact⟨h,j⟩
  .rename_i n e u;have:=Ry acN h D.ins u;exact⟨by simpa using this,acS⟩
def N2{c:bP}(B:N1 c)(l:List aD){p:List bA×eE}(h:pR c p.1.length p.2)(j:p.1.length<=400):pR c (gV c l p).1.length (gV c l p).2/\(gV c l p).1.length<=400:=by
 induction l generalizing p with
 |nil=>exact⟨h,j⟩
 |cons ch l u=>obtain⟨a,b⟩:=H4 (ch:=ch) B h j;exact u a b
def W2(p:List bA×eE):AV:=.tup [.lst (p.1.map bA.enc),.agg p.2.enc]
def nA{c:bP}(h:lx c)(B:∀t∈c.ts,t.ins.length<2^40):N1 c where
 ins:=λx u i G=>by obtain⟨k,D,rfl⟩:=List.mem_iff_getElem.1 u;obtain⟨j,E,rfl⟩:=List.mem_iff_getElem.1 G;have:=(h.thr k D).ins j E;exact⟨this.lo,this.hi,this.regs⟩
 len:=B
 con:=by have:=h.world.d2;omega
def Kj{c:bP}(h:lx c):∀t∈c.ts,0<=t.regs/\t.regs<=1000:=λt j=>by obtain⟨k,u,rfl⟩:=List.mem_iff_getElem.1 j;have:=h.thr k u;have D:=this.r0;have B:=this.r32;exact⟨D,acN⟩
def A4{c:bP}(h:lx c):pR c 0 (du c):=by
 have j:=h.world;refine⟨λx B=>?_,?_,?_,λl u=>?_,?_,?_,?_,?_⟩
 .obtain⟨t,D,rfl⟩:=abP.1 B;have:=Kj h t D;exact⟨⟨acQ,acS,λl u=>by rw[(List.mem_replicate.1 u).2];simp,λl u x B=>by rw[(List.mem_replicate.1 u).2]at B;simp at B⟩,Int.le_refl _,Int.le_refl _,acS⟩
 .have:=h.len;have:=j.t4;simp[du];omega
 .have:=j.l4;simp[du,bM];omega
 .have:=(List.mem_replicate.1 u).2;rw[this];simp
 .have:=j.f2;simp[du,bM];omega
 .have:=j.t4;simp[du,bM];omega
 .have:=j.c12;simp[du];omega
 .have:=j.f2;simp[du];omega
structure el where
 w:aF
 ev:List bA
def el.enc(t:el):List AV:=[.lst (t.w.cells.map aU.enc),.lst (t.w.locks.map bZ.enc),.lst (t.w.conds.map cM.enc),.lst (t.w.futures.map ay),.lst (t.w.threads.map ay),.lst (t.w.sites.map cF.enc),.lst (t.ev.map bA.enc)]
noncomputable def wM (c:bP) (l:List aD):el×eE:=if lu (lx c)then(⟨c.w,(lS c l).1⟩,(lS c l).2)else(⟨⟨[],[],[],[],[],[]⟩,[]⟩,eE.zero)
def wO(e:bA):Prop:=e.deps.length<=2^30/\e.frm.length<=2^30
def Mo{i:cb}{s:bI}{t:Int}(h:∀r,(s.tnt r).length<=2^30):wO (fN i s t):=by
 unfold fN wO;dsimp only
 repeat' split
 all_goals first
  |exact⟨abt _,abt _⟩
  |exact⟨h _,abt _⟩
  |exact⟨abt _,h _⟩
  |exact⟨h _,h _⟩
def Pf{U:List Int}{s:bI}(h:j8 U s)(r:Int):(s.tnt r).length<=2^30:=by
 unfold bI.tnt;rcases LE r.toNat s.taint.length with j|j
 .simpa[j]using h.short _ (LT j)
 .simp[List.getD,aah j]
def Mp{c:bP}{s:eE}{t:Int}{e:bA}{n:Nat}(H:pR c n s)(h:eI c s t=some e):wO e:=by
 unfold eI at h;split at h
 .rename_i u;have B:aI s t∈s.threads:=j9 (d:=bI.zero) (gk u).2.1;have j:=λr=>Pf (H.thr _ B).1 r
  dsimp only at h;split at h
  .cases h;exact⟨abt _,abt _⟩
  .split at h
   .cases h;exact⟨abt _,abt _⟩
   .split at h
    .split at h
     .cases h;exact Mo j
     .cases h
    .cases h
 .cases h
def RA{c:bP}{p:List bA×eE}{ch:aD}(H:pR c p.1.length p.2)(h:∀e∈p.1,wO e):∀e∈(IU c p ch).1,wO e:=by
 unfold IU;split
 .exact h
 .split
  .exact h
  .rename_i n e u;intro x j;rcases aak.1 j with j|j
   .exact h x j
   .rw[aag.1 j];obtain⟨D,B,hp,_,_,_,_,_,rfl⟩:=CP u;have u:=Mp H hp;exact u
def Pg{c:bP}(B:N1 c)(l:List aD){p:List bA×eE}(H:pR c p.1.length p.2)(u:p.1.length<=400)(h:∀e∈p.1,wO e):∀e∈(gV c l p).1,wO e:=by
 induction l generalizing p with
 |nil=>exact h
 |cons ch l j=>obtain⟨a,b⟩:=H4 (ch:=ch) B H u;exact j a b (RA H h)
def H5{c:bP}(h:lx c)(j:∀t∈c.ts,t.ins.length<2^40)(l:List aD):(∀e∈(lS c l).1,wO e)/\(lS c l).1.length<=400:=
 ⟨Pg (nA h j) l (A4 h) (abt _) nofun,(N2 (nA h j) l (p:=([],du c)) (A4 h) (abt _)).2⟩
def Ph(c:bP)(j:∀t∈c.ts,t.ins.length<2^40)(l:List aD):(∀e∈(wM c l).1.ev,wO e)/\(wM c l).1.ev.length<=400:=by
 unfold wM;cases u:lu (lx c)with
 |true=>exact H5 (iH.1 u) j l
 |false=>exact⟨nofun,abt _⟩
structure gO where
 sync:SyncD
 cells:List Int
 futures:List Int
 count:List Int
def gO.enc(s:gO):List AV:=[.lst (s.sync.locks.map LockD.enc),.acU s.sync.tx,.lst (s.sync.done.map au),.lst (s.sync.threads.map ThrD.enc),.lst (s.cells.map aa),.lst (s.futures.map aa),.lst (s.count.map aa)]
def gO.zero:gO:=⟨Gl,[],[],[]⟩
structure aG where
 w:aF
 start:Int
 init:gO
 ev:List bA
def aG.enc(w:aG):List AV:=[.lst (w.w.cells.map aU.enc),.lst (w.w.locks.map bZ.enc),.lst (w.w.conds.map cM.enc),.lst (w.w.futures.map ay),.lst (w.w.threads.map ay),.lst (w.w.sites.map cF.enc),.acU w.start,.lst (w.init.sync.locks.map LockD.enc),.acU w.init.sync.tx,.lst (w.init.sync.done.map au),.lst (w.init.sync.threads.map ThrD.enc),.lst (w.init.cells.map aa),.lst (w.init.futures.map aa),.lst (w.init.count.map aa),.lst (w.ev.map bA.enc)]
structure eu where
 value:Int
 known:Bool
 deriving Inhabited
def eu.enc(c:eu):List AV:=[.acU c.value,.bool c.known]
structure aP where
 sync:SyncD
 cells:List eu
 futures:List eu
 order:List Int
 fixed:List Bool
 woke:List Int
def aP.enc(s:aP):List AV:=[.lst (s.sync.locks.map LockD.enc),.acU s.sync.tx,.lst (s.sync.done.map au),.lst (s.sync.threads.map ThrD.enc),.lst (s.cells.map eu.enc),.lst (s.futures.map eu.enc),.lst (s.order.map aa),.lst (s.fixed.map au),.lst (s.woke.map aa)]
def aP.zero:aP:=⟨Gl,[],[],[],[],[]⟩
def qN(l:List Int)(n:Int):Prop:=∀i (h:i<l.length),1<=l[i]/\l[i]<n/\(0<i->l.getD (i-1) 0<l[i])
def jw(s:SyncD)(c:Int):List Int:=(aJ s.threads c s.threads.length).map λi:Nat=>(i:Int)
def H6(s:gO)(e:bA):Bool:=
 if e.kind=3 then decide (e.value=oL s.cells e.obj)
 else if e.kind=23 then decide (e.value=oL s.futures e.obj)
 else if e.kind=5 then decide (e.value=0)||decide (e.value=1)
 else if e.kind=4\/e.kind=22 then true
 else if e.kind=18 then(if jw s.sync e.obj=[]then decide (e.value=-1)else inB e.value s.sync.threads.length&&(jw s.sync e.obj).contains e.value)
 else if e.kind=19 then decide (e.value=(jw s.sync e.obj).length)
 else decide (e.value=0)
def nB(w:aF)(s:gO):Bool:=fitsS w s.sync&&decide (s.cells.length=w.cells.length)&&decide (s.futures.length=w.futures.length)&&decide (s.count.length=w.threads.length)
def aT(s:gO)(t:Int):Int:=s.count.getD t.toNat 0
def Uh(w:aF)(e:bA):Bool:=if e.kind=1\/e.kind=2 then decide (e.site=-1)else inB e.site w.sites.length&&decide ((w.sites.getD e.site.toNat default).thread=e.thread)
def Ui(w:aF)(e:bA):Bool:=decide (e.deps=[])||decide (e.kind=5)||(decide (e.kind=3\/e.kind=4)&&decide ((w.cells.getD e.obj.toNat default).size≠0))
def Uj(e:bA):Bool:=decide (e.frm=[])||decide (e.kind=4)||decide (e.kind=22)
noncomputable def H7 (w:aF) (s:gO) (e:bA):Bool:=
 nB w s&&inB e.thread w.threads.length&&decide (1<=e.kind)&&decide (e.kind<=23)&&aC w s.sync e.thread e.kind e.obj&&Uh w e&&Ui w e&&Uj e&&lu (qN e.deps (aT s e.thread))&&lu (qN e.frm (aT s e.thread))&&H6 s e
def gW(w:aF)(s:gO)(e:bA):gO:=
 ⟨(dx w s.sync e.thread e.kind e.obj (if e.kind=18 then e.value else -1)).1,if e.kind=4 then s.cells.set e.obj.toNat e.value else s.cells,if e.kind=22 then s.futures.set e.obj.toNat e.value else s.futures,s.count.set e.thread.toNat (IntKind.i64.wrap (aT s e.thread+1))⟩
noncomputable def px (w:aF) (s:gO) (e:bA):Option gO:=if H7 w s e then some (gW w s e)else none
def bG(w:aF):gO:=⟨bM w,w.cells.map aU.init,List.replicate w.futures.length 0,List.replicate w.threads.length 0⟩
def jQ(w:aF):gO->List bA->Prop
 |_,[]=>True
 |s,e::l=>H7 w s e=true/\jQ w (gW w s e) l
def cf(w:aF):gO->List bA->gO
 |s,[]=>s
 |s,e::l=>cf w (gW w s e) l
def cg(ev:List bA)(t:Int):Nat->List Int
 |0=>[]
 |k+1=>if(ev.getD k ⟨0,0,0,0,0,[],[]⟩).thread=t then cg ev t k++[(k:Int)]else cg ev t k
def eC(w:aG)(t:Int):List Int:=cg w.ev t w.ev.length
def ep(w:aG)(t k:Int):Int:=if inB k (eC w t).length then(eC w t).getD k.toNat 0 else -1
def jA(w:aG)(k:Int):bA:=w.ev.getD k.toNat ⟨0,0,0,0,0,[],[]⟩
def H8(ord:List Int)(t:Int):List bA->Nat->Int
 |[],_=>-1
 |e::l,i=>if e.thread=t/\ord.contains (i:Int)=false then(i:Int)else H8 ord t l (i+1)
def dK(w:aG)(c:aP)(t:Int):Int:=H8 c.order t w.ev 0
def pS(w:aG)(c:aP)(t n:Int):Bool:=decide (n<aT w.init t)||(inB (ep w t (n-aT w.init t)) c.fixed.length&&c.fixed.getD (ep w t (n-aT w.init t)).toNat false)
def eJ(w:aG)(c:aP)(t:Int)(l:List Int):Bool:=if inB t w.init.count.length then l.all (pS w c t)else l.isEmpty
def u9(w:aG)(c:aP)(t:Int):Bool:=decide (0<=dK w c t)&&(aC w.w c.sync t (jA w (dK w c t)).kind (jA w (dK w c t)).obj&&eJ w c t (jA w (dK w c t)).deps)
def qO(l:List eu)(o:Int):eu:=l.getD o.toNat default
def Kk(c:eu)(v:Int):Bool:=c.known&&decide (c.value=v)
def uG(w:aG)(c:aP)(t k:Int)(e:bA)(wake:Int):aP:=
 let r:=dx w.w c.sync t e.kind e.obj wake
 let x:eu:=if eJ w c t e.frm then⟨e.value,true⟩else⟨0,false⟩
 ⟨r.1,if e.kind=4 then c.cells.set e.obj.toNat x else c.cells,if e.kind=22 then c.futures.set e.obj.toNat x else c.futures,c.order++[k],
  if e.kind=3 then c.fixed.set k.toNat (Kk (qO c.cells e.obj) e.value)else if e.kind=23 then c.fixed.set k.toNat (Kk (qO c.futures e.obj) e.value)else c.fixed,
  if e.kind=18 then(if 0<=r.2.1 then c.woke.set k.toNat 1 else c.woke)else if e.kind=19 then c.woke.set k.toNat r.2.1 else c.woke⟩
def c8(w:aG)(c:aP)(t wake:Int):Option aP:=if u9 w c t then some (uG w c t (dK w c t) (jA w (dK w c t)) wake)else none
def bN(w:aG):aP:=⟨w.init.sync,w.init.cells.map λv=>⟨v,true⟩,w.init.futures.map λv=>⟨v,true⟩,[],List.replicate w.ev.length false,List.replicate w.ev.length 0⟩
def RdC(w:aG):Prop:=∀(k:Nat) (hk:k<w.ev.length) (d:Int),d∈w.ev[k].deps\/d∈w.ev[k].frm->aT w.init w.ev[k].thread<=d->
 (jA w (ep w w.ev[k].thread (d-aT w.init w.ev[k].thread))).kind=3\/(jA w (ep w w.ev[k].thread (d-aT w.init w.ev[k].thread))).kind=23
structure eT(w:aG):Prop where
 world:oK w.w
 fit:nB w.w w.init=true
 len:w.ev.length<=400
 cnt:∀n∈w.init.count,0<=n/\n<=400
 rd:∀l∈w.init.sync.locks,l.readers.length<=400
 play:jQ w.w w.init w.ev
 evs:∀e∈w.ev,wO e
 rds:RdC w
structure jK(w:aG)(c:aP):Prop where
 fit:fitsS w.w c.sync=true
 cells:c.cells.length=w.w.cells.length
 futures:c.futures.length=w.w.futures.length
 fixed:c.fixed.length=w.ev.length
 woke:c.woke.length=w.ev.length
 ord:∀k∈c.order,0<=k/\k<w.ev.length
 nodup:c.order.Nodup
 rd:∀l∈c.sync.locks,l.readers.length<=400+c.order.length
def H9{n:Int}(u:0<=n)(j:n<2^62):IntKind.i64.wrap n=n:=abg _ acN
def fJ{l:List Int}{x:Int}:l.contains x=true↔x∈l:=by simp
def gp{l:List Int}{x:Int}:l.contains x=false↔x∉l:=by rw[<-acI,fJ]
def rU{ev:List bA}{t x:Int}:∀{k:Nat},x∈cg ev t k↔∃i:Nat,i<k/\x=(i:Int)/\(ev.getD i ⟨0,0,0,0,0,[],[]⟩).thread=t
 |0=>by simp[cg]
 | k+1=>by
  unfold cg;split
  .rename_i h;rw[aak,rU,aag];constructor
   .rintro(⟨i,u,h2⟩|rfl)
    .exact⟨i,acN,h2⟩
    .exact⟨k,acN,rfl,h⟩
   .rintro⟨i,u,rfl,j⟩;rcases LE i k with g|g
    .exact .inl ⟨i,g,rfl,j⟩
    .obtain rfl:i=k:=by omega
     exact .inr rfl
  .rename_i h;rw[rU];constructor
   .rintro⟨i,u,h2⟩;exact⟨i,acN,h2⟩
   .rintro⟨i,u,h2,j⟩;rcases LE i k with g|g
    .exact⟨i,g,h2,j⟩
    .obtain rfl:i=k:=by omega
     exact absurd j h
def ka(ev:List bA)(t:Int):∀k,(cg ev t k).length<=k
 |0=>Fd _
 | k+1=>by
  have:=ka ev t k;unfold cg;split
  .simp;omega
  .omega
def gq{w:aG}{k:Nat}(h:k<w.ev.length):jA w k=w.ev[k]:=by simp[jA,h]
def yx{w:aG}{t x:Int}(h:x∈eC w t):0<=x/\x<w.ev.length/\(jA w x).thread=t:=by obtain⟨i,u,rfl,j⟩:=rU.1 h;exact⟨acN,acN,j⟩
def Kl{w:aG}{t k:Int}:(0<=ep w t k/\ep w t k∈eC w t)\/ep w t k=-1:=by
 unfold ep;split
 .rename_i h;obtain⟨B,u⟩:=ao.1 h;have j:k.toNat<(eC w t).length:=by omega
  have:(eC w t).getD k.toNat 0∈eC w t:=by simp only[List.getD,mt j,abS];exact LT j
  exact .inl ⟨(yx this).1,this⟩
 .exact .inr rfl
def eD(ev:List bA)(t:Int)(k:Nat):cg ev t (k+1)=if(ev.getD k ⟨0,0,0,0,0,[],[]⟩).thread=t then cg ev t k++[(k:Int)]else cg ev t k:=rfl
def A5(ev:List bA)(t:Int):∀n k,k≤n→∃r,cg ev t n=cg ev t k++r
  | 0, k, h => ⟨[], by obtain rfl : k = 0 := by omega
                       rfl⟩
  | n+1,k,h=>by
    rcases LE k (n+1)with g|g
    · obtain⟨r,hr⟩:=A5 ev t n k acN
      rw[eD];split
      · exact⟨r++[(n:Int)],by rw[hr,abr]⟩
      · exact⟨r,hr⟩
    · obtain rfl:k=n+1:=by omega
      exact⟨[],acQ⟩
def N4{ev:List bA}{t:Int}{m n:Nat}(u:m<n)(h:(ev.getD m ⟨0,0,0,0,0,[],[]⟩).thread=t):(cg ev t n)[(cg ev t m).length]? =some (m:Int):=by obtain⟨r,j⟩:=A5 ev t n (m+1) acN;rw[j,eD,if_pos h,abr];simp
def Uk{w:aG}{t:Int}{k i:Nat}(j:i<w.ev.length)(ht:(w.ev[i]).thread=t)(h:(cg w.ev t i).length=k):ep w t k=i:=by have:=N4 (n:=w.ev.length) j (show(w.ev.getD i ⟨0,0,0,0,0,[],[]⟩).thread=t by simpa[j]using ht);rw[h]at this;have u:=(abL.1 this).1;unfold ep eC;rw[if_pos (ao.2 ⟨acN,acN⟩),abw];simp only[List.getD];rw[this];rfl
def Km{w:aG}{t k:Int}(h:((eC w t).length:Int)<=k):ep w t k=-1:=by unfold ep;rw[if_neg λg=>by have:=(ao.1 g).2;omega]
def N5(u:List Int)(t:Int):∀(l:List bA) (i j:Nat) (h:j<l.length),(l[j]).thread=t->u.contains ((i+j:Nat):Int)=false->(∀m (D:m<l.length),m<j->(l[m]).thread=t->u.contains ((i+m:Nat):Int)=true)->H8 u t l i=((i+j:Nat):Int)
 | e::l,i,j,h,ht,hc,hb=>by
  unfold H8;cases j with
  |zero=>rw[if_pos ⟨ht,hc⟩];rfl
  |succ j=>
   have E:¬(e.thread=t/\u.contains (i:Int)=false):=λ⟨a,b⟩=>by have:=hb 0 acQ acN a;rw[acz,b]at this;cases this
   rw[if_neg E,N5 u t l (i+1) j (by simpa using h) ht (by rw[<-hc];congr 2;omega) λm D G B=>by
    have:=hb (m+1) (by simpa using D) acN B;rw[<-this];congr 2;omega]
   omega
def Ko(j:List Int)(t:Int):∀(l:List bA) (i:Nat),(∀m (B:m<l.length),(l[m]).thread=t->j.contains ((i+m:Nat):Int)=true)->H8 j t l i=-1
 |[],i,_=>rfl
 | e::l,i,hb=>by
  unfold H8;have D:¬(e.thread=t/\j.contains (i:Int)=false):=λ⟨a,b⟩=>by have:=hb 0 acQ a;rw[acz,b]at this;cases this
  rw[if_neg D];exact Ko j t l (i+1) λm B u=>by have:=hb (m+1) (by simpa using B) u;rw[<-this];congr 2;omega
def qP{w:aG}{c:aP}{t:Int}{k:Nat}(h:k<w.ev.length)(ht:(w.ev[k]).thread=t)(D:c.order.contains (k:Int)=false)(E:∀m (u:m<w.ev.length),m<k->(w.ev[m]).thread=t->c.order.contains (m:Int)=true):dK w c t=k:=by
 have:=N5 c.order t w.ev 0 k h ht (by rw[abI];exact D) λm u B j=>by rw[abI];exact E m u B j
 rw[abI]at this;exact this
def nC{w:aG}{c:aP}{t:Int}(B:∀m (u:m<w.ev.length),(w.ev[m]).thread=t->c.order.contains (m:Int)=true):dK w c t=-1:=
 Ko c.order t w.ev 0 λm u j=>by rw[abI];exact B m u j
def kq(w:aG)(c:aP)(t:Int):(dK w c t=-1/\∀m (j:m<w.ev.length),(w.ev[m]).thread=t->c.order.contains (m:Int)=true)\/∃(k:Nat) (h:k<w.ev.length),dK w c t=k/\(w.ev[k]).thread=t/\c.order.contains (k:Int)=false/\∀m (j:m<w.ev.length),m<k->(w.ev[m]).thread=t->c.order.contains (m:Int)=true:=by
 by_cases h:∀m (j:m<w.ev.length),(w.ev[m]).thread=t->c.order.contains (m:Int)=true
 .exact .inl ⟨nC h,h⟩
 .have:∀n,(∀m (j:m<w.ev.length),m<n->(w.ev[m]).thread=t->c.order.contains (m:Int)=true)\/∃(k:Nat) (h:k<w.ev.length),(w.ev[k]).thread=t/\c.order.contains (k:Int)=false/\∀m (j:m<w.ev.length),m<k->(w.ev[m]).thread=t->c.order.contains (m:Int)=true:=by
   intro n
   induction n with
   |zero=>exact .inl λm _ h=>absurd h acN
   |succ n B=>
    rcases B with B|B
    .rcases LE n w.ev.length with g|g
     .by_cases G:(w.ev[n]).thread=t
      .cases O:c.order.contains (n:Int)with
       |false=>exact .inr ⟨n,g,G,O,B⟩
       |true=>
        refine .inl λm j M u=>?_
        rcases LE m n with D|D
        .exact B m j D u
        .obtain rfl:m=n:=by omega
         exact O
      .refine .inl λm j M u=>?_
       rcases LE m n with D|D
       .exact B m j D u
       .obtain rfl:m=n:=by omega
        exact absurd u G
     .exact .inl λm j M=>B m j acN
    .exact .inr B
  rcases this w.ev.length with E|⟨k,N,Y,E,S⟩
  .exact absurd (λm j=>E m j j) h
  .exact .inr ⟨k,N,qP N Y E S,Y,E,S⟩
def uH{w:aF}{s:SyncD}{t k o wake:Int}(j:aC w s t k o=true):(dx w s t k o wake).1=(bF w s t k o wake).1/\(dx w s t k o wake).2.1=(bF w s t k o wake).2/\(dx w s t k o wake).2.2=true:=by unfold dx;rw[if_pos j];exact⟨rfl,rfl,rfl⟩
def Pi{w:aF}{s u:SyncD}{n:Nat}(h:Uf s u n)(j:fitsS w s=true):fitsS w u=true:=by have j:=cH.1 j;exact cH.2 ⟨by rw[h.lk];exact j.locks,by rw[h.dn];exact j.done,by rw[h.th];exact j.threads,j.conds⟩
def CQ{w:aG}{c:aP}{t:Int}(h:u9 w c t=true):∃(k:Nat) (j:k<w.ev.length),dK w c t=k/\jA w k=w.ev[k]/\(w.ev[k]).thread=t/\c.order.contains (k:Int)=false/\(∀m (E:m<w.ev.length),m<k->(w.ev[m]).thread=t->c.order.contains (m:Int)=true)/\aC w.w c.sync t (w.ev[k]).kind (w.ev[k]).obj=true/\eJ w c t (w.ev[k]).deps=true:=by
 unfold u9 at h;simp only[aas,decide_eq_true_eq]at h;obtain⟨D,B,u⟩:=h;rcases kq w c t with⟨e,_⟩|⟨k,j,e,a,b,d⟩
 .rw[e]at D;omega
 .rw[e,gq j]at B u;exact⟨k,j,e,gq j,a,b,d,B,u⟩
def gB{w:aG}{c n:aP}{t wake:Int}(h:c8 w c t wake=some n):∃(k:Nat) (j:k<w.ev.length),dK w c t=k/\(w.ev[k]).thread=t/\c.order.contains (k:Int)=false/\(∀m (D:m<w.ev.length),m<k->(w.ev[m]).thread=t->c.order.contains (m:Int)=true)/\aC w.w c.sync t (w.ev[k]).kind (w.ev[k]).obj=true/\eJ w c t (w.ev[k]).deps=true/\n=uG w c t k w.ev[k] wake:=by
 unfold c8 at h;split at h
 .rename_i u;obtain⟨k,j,e,B,a,b,d,f,g⟩:=CQ u;rw[e,B]at h;cases h;exact⟨k,j,e,a,b,d,f,g,rfl⟩
 .cases h
def rV{w:aG}{c n:aP}{t wake:Int}(H:jK w c)(h:c8 w c t wake=some n):jK w n:=by
 obtain⟨k,S,_,O,G,_,E,_,rfl⟩:=gB h;have D:=(uH (wake:=wake) E).1;have B:=rT (w:=w.w) (t:=t) (k:=(w.ev[k]).kind) (o:=(w.ev[k]).obj) (wake:=wake) H.rd;unfold uG;dsimp only;rw[D];refine⟨Pi B H.fit,?_,?_,?_,?_,?_,?_,?_⟩
 .dsimp only;split<;>simp[H.cells]
 .dsimp only;split<;>simp[H.futures]
 .dsimp only;repeat' split
  all_goals simp[H.fixed]
 .dsimp only;repeat' split
  all_goals simp[H.woke]
 .intro x j;rcases aak.1 j with j|j
  .exact H.ord x j
  .rw[aag.1 j];omega
 .exact acy.2 ⟨H.nodup,acQ,λa N b M e=>gp.1 G (by rw[aag.1 M]at e;exact e▸N)⟩
 .intro l u;have:=B.rd l u;simp only[aal,ach];omega
def kR{w:aG}(H:eT w):jK w (bN w):=by have j:=H.fit;unfold nB at j;simp only[aas,decide_eq_true_eq]at j;exact⟨j.1.1.1,by simp[bN,j.1.1.2],by simp[bN,j.1.2],by simp[bN],by simp[bN],nofun,.nil,λl u=>by have:=H.rd l u;simp[bN];omega⟩
def bj(w:aG):w.enc=[.lst (w.w.cells.map aU.enc),.lst (w.w.locks.map bZ.enc),.lst (w.w.conds.map cM.enc),.lst (w.w.futures.map ay),.lst (w.w.threads.map ay),.lst (w.w.sites.map cF.enc),.acU w.start,.lst (w.init.sync.locks.map LockD.enc),.acU w.init.sync.tx,.lst (w.init.sync.done.map au),.lst (w.init.sync.threads.map ThrD.enc),.lst (w.init.cells.map aa),.lst (w.init.futures.map aa),.lst (w.init.count.map aa),.lst (w.ev.map bA.enc)]:=rfl
def cG(s:aP):s.enc=[.lst (s.sync.locks.map LockD.enc),.acU s.sync.tx,.lst (s.sync.done.map au),.lst (s.sync.threads.map ThrD.enc),.lst (s.cells.map eu.enc),.lst (s.futures.map eu.enc),.lst (s.order.map aa),.lst (s.fixed.map au),.lst (s.woke.map aa)]:=rfl
def eH(e:bA):e.enc=[.acU e.thread,.acU e.kind,.acU e.obj,.acU e.value,.acU e.site,.lst (e.deps.map aa),.lst (e.frm.map aa)]:=rfl
def ku(w:aG)(c:aP)(t:Int)(hl:w.ev.length<=400)(ho:c.order.length<2^62):aq Tryz.prog 16 [.agg w.enc,.agg c.enc,.acU t] (.acU (dK w c t)):=by
 refine NQ (AV.int .i64) λQ E=>Ey _ _ _ _ _ ?_
 refine vw ?_;rw[bj,cG]
 repeat' (first|refine sy ?_|refine s2 (λh=>?_) λh=>?_|intro)
 refine cT w.ev.length (λk=>∀m (G:m<w.ev.length),m<k->(w.ev[m]).thread=t->c.order.contains (m:Int)=true) (λk=>[.acU t,.pptr [w.enc] 0 0,.pptr [c.enc] 0 0,.acU k]) acN (λm G h=>absurd h acN) rfl (λk Z hd hi M nx D=>?_) (λk Z hd M nx=>?_)
 all_goals refine vw ?_
 .have hx:=aj (f:=bA.enc) Z;have B:=wG c.order (k:Int) ho;have u:((w.ev[k]).thread=t->c.order.contains (k:Int)=true)->∀m (G:m<w.ev.length),m<k+1->(w.ev[m]).thread=t->c.order.contains (m:Int)=true:=λh m G hmk O=>by
   rcases LE m k with g|g
   .exact M m G g O
   .obtain rfl:m=k:=by omega
    exact h O
  have j:(w.ev[k]).thread=t->c.order.contains (k:Int)=false->dK w c t=k:=λh1 h2=>qP Z h1 h2 M
  rw[eH]at hx;clear M;by_cases N:(w.ev[k]).thread=t
  .have d1:decide ((w.ev[k]).thread=t)=true:=decide_eq_true N;cases S:c.order.contains (k:Int)with
   |true=>
    rw[S]at B;have D:=D (u λ_=>S);clear u j E
    repeat' (first|refine sy ?_|refine s2 ?_ ?_|intro)
    exact D
   |false=>
    rw[S]at B;have Y:=λL=>E k L (j N S)
    clear u j E D
    repeat' (first|refine sy ?_|refine s2 ?_ ?_|intro)
    exact Y _
  .have d1:decide ((w.ev[k]).thread=t)=false:=decide_eq_false N;have D:=D (u λh=>absurd h N);clear u j E
   repeat' (first|refine sy ?_|refine s2 ?_ ?_|intro)
   exact D
 .have Y:=λL=>E (-1) L (nC λm G O=>M m G acN O)
  clear E M
  repeat' (first|refine sy ?_|refine s2 ?_ ?_|intro)
  exact Y _
def wP(w:aG)(c:aP)(t:Int)(hl:w.ev.length<=400)(ho:c.order.length<2^62)(hT:∀e∈w.ev,inB e.thread w.w.threads.length=true):aq Tryz.prog 15 [.agg w.enc,.agg c.enc,.acU t] (.acU (dK w c t)):=by
 refine NQ (AV.int .i64) λQ M=>EE _ _ _ _ _ ?_
 refine vw ?_;rw[bj,cG];have u:∀L,inB t w.w.threads.length=false->Q (.acU (-1)) L:=λL h=>M _ L (nC λm D O=>by
  have:=hT _ (LT D);rw[O,h]at this;cases this)
 by_cases G:t<0
 .have d1:decide (t<0)=true:=decide_eq_true G
  repeat' (first|refine sy ?_|refine s2 ?_ ?_|intro)
  exact u _ (by simp[inB];omega)
 have d1:decide (t<0)=false:=decide_eq_false G;by_cases p2:(w.w.threads.length:Int)<=t
 .have d2:decide ((w.w.threads.length:Int)<=t)=true:=decide_eq_true p2
  repeat' (first|refine sy ?_|refine s2 ?_ ?_|intro)
  exact u _ (by simp[inB];omega)
 have d2:decide ((w.w.threads.length:Int)<=t)=false:=decide_eq_false p2;clear u
 repeat' (first|refine sy ?_|refine s2 (λh=>?_) λh=>?_|intro)
 refine cT w.ev.length (λk=>∀m (D:m<w.ev.length),m<k->(w.ev[m]).thread=t->c.order.contains (m:Int)=true) (λk=>[.acU t,.pptr [c.enc] 0 0,.lst (w.ev.map bA.enc),.acU w.ev.length,.acU k]) acN (λm D h=>absurd h acN) rfl (λk hk hd hi S nx N=>?_) (λk hk hd S nx=>?_)
 all_goals refine vw ?_
 .have hx:=aj (f:=bA.enc) hk;have E:=zz c.order (k:Int) ho;have B:((w.ev[k]).thread=t->c.order.contains (k:Int)=true)->∀m (D:m<w.ev.length),m<k+1->(w.ev[m]).thread=t->c.order.contains (m:Int)=true:=λh m D hmk O=>by
   rcases LE m k with g|g
   .exact S m D g O
   .obtain rfl:m=k:=by omega
    exact h O
  have j:(w.ev[k]).thread=t->c.order.contains (k:Int)=false->dK w c t=k:=λh1 h2=>qP hk h1 h2 S
  rw[eH]at hx;clear S;by_cases G:(w.ev[k]).thread=t
  .have d1:decide ((w.ev[k]).thread=t)=true:=decide_eq_true G;cases Y:c.order.contains (k:Int)with
   |true=>
    rw[Y]at E;have N:=N (B λ_=>Y);clear B j M
    repeat' (first|refine sy ?_|refine s2 ?_ ?_|intro)
    exact N
   |false=>
    rw[Y]at E;have Z:=λL=>M k L (j G Y)
    clear B j M N
    repeat' (first|refine sy ?_|refine s2 ?_ ?_|intro)
    exact Z _
  .have d1:decide ((w.ev[k]).thread=t)=false:=decide_eq_false G;have N:=N (B λh=>absurd h G);clear B j M
   repeat' (first|refine sy ?_|refine s2 ?_ ?_|intro)
   exact N
 .have Z:=λL=>M (-1) L (nC λm D O=>S m D acN O)
  clear M S
  repeat' (first|refine sy ?_|refine s2 ?_ ?_|intro)
  exact Z _
def ax.pickV{vs j:List AV}{L R:SH}(h:cO L R)(u:∀K,fy K vs j):ax vs L j R:=by obtain⟨K,B⟩:=h.perm;exact ax.drop B (u K).at_.1 (u K).at_.2
def Kz(s:bI)(h1:s.regs.length<2^40)(h2:s.taint.length<2^40)(h3:∀l∈s.taint,l.length<=2^30):ac Tryz.prog 175 [.agg s.enc] [] (NY s):=by
 refine ac.fz (Fe _ _ _ ?_);refine vw ?_;generalize hQ:(λ(v:AV) (L:SH)=>∃v2 L2,ax [v] L [v2] L2/\NY s v2 L2)=Q
 repeat' (first|refine sx ?_|refine dJ rp (λ_=>rfl) acP acS acS (λ_=>rfl) (λu B=>?_)|refine sb λu B=>?_|refine s2 (λh=>?_) λh=>?_|fail)
 rename_i _ _ b2 _ _ _ E _;rw[Nat.zero_add];revert u;intro Z _;refine aL s.taint.length (λi (o:Option Nat)=>([.pptr [s.enc] 0 0,.ptr b2 0 0,.ptr Z 0 0,.acU i],(Z,⟨4,[[.acU s.pc,.sl E 0 s.regs.length,af o i,.acU s.ev]]⟩)::(E,⟨1,s.regs.map aa⟩)::(b2,⟨4,[[.acU 0,.nils,.nils,.acU 0]]⟩)::ab o 1 ((s.taint.take i).map eX))) (λi o=>o=none->i=0) none (λ_=>rfl) (ax.box (K:=[]) (.refl _) (.cons (.refl _) (.cons (.refl _) (.cons .nile (.cons (.refl _) .nil))))) ?_;intro i o hi ho;dsimp only;refine vw ?_;have D:((s.taint.take i).map eX).length=i:=by simp;omega
 have h0:o=none->(s.taint.take i).map eX=[]:=λe=>by rw[ho e];rfl
 rcases LE i s.taint.length with M|M
 .have hd:=aS M;have hx:=aj (f:=eX) M;have hr:=h3 _ (LT M)
  repeat' (first|refine sx ?_|refine dJ rp (λ_=>rfl) acP acS acS (λ_=>rfl) (λu B=>?_)|refine aM rp rp D h0 acP acQ acS acS acP (λu B=>?_)|refine sb λu B=>?_|refine s2 (λh=>?_) λh=>?_|fail)
  rename_i br _ _ _;refine⟨i+1,some u,acN,acN,nofun,?_⟩;refine ax.rowA (A:=[(Z,_),(E,_),(b2,_)]) (b:=u) (R:=[]) (rows':=(s.taint.take (i+1)).map eX) rp ?_ ?_ (by rw[av M acN]<;>rfl)
  .simp;omega
  .intro j r r' N G;rw[Fn M,ST]at G;rcases LE j i with S|S
   .rw[aaW (by rw[D];exact S)]at N G;rw[N]at G;cases G;exact fy.refl _ _
   .rw[aaL (by rw[D];exact S),D]at N G;generalize j-i=k at N G
    match k with
    |0=>cases N;cases G;exact .cons (Fz.sls (l:=s.taint[i]) rp rfl acR acQ) .nil
    |k+1=>simp at N
 .have hd:=aW M;have Y:i=s.taint.length:=by omega
  subst Y;rw[aaT (Fd _)];have O:o=none->s.taint=[]:=λe=>abU.1 (ho e)
  cases o with
  |none=>
   dsimp only[af,ab]
   repeat' (first|refine sy ?_|refine s2 ?_ ?_|intro)
   subst hQ;exact⟨.agg [.acU s.pc,.sl E 0 s.regs.length,.lst [],.acU s.ev],_,ax.pickV (R:=[(E,_)]) rp (λK=>.cons (Fz.aggs (.cons (.refl _) (.cons (.refl _) (.cons .emp (.cons (.refl _) .nil))))) .nil),some E,none,rfl,rfl,nofun,O⟩
  |some bl=>
   dsimp only[af,ab]
   repeat' (first|refine sy ?_|refine s2 ?_ ?_|intro)
   subst hQ;exact⟨_,_,ax.pick (R:=[(E,_),(bl,_)]) rp rfl,some E,some bl,rfl,rfl,nofun,O⟩
def ew(w:aG)(k:Nat):gO:=cf w.w w.init (w.ev.take k)
def i9(w:aF):∀(l:List bA) (s:gO) (e:bA),cf w s (l++[e])=gW w (cf w s l) e
 |[],s,e=>rfl
 |x::l,s,e=>i9 w l (gW w s x) e
def nJ{w:aG}{k:Nat}(h:k<w.ev.length):ew w (k+1)=gW w.w (ew w k) w.ev[k]:=by unfold ew;rw[Fn h,i9]
def oZ(w:aF):∀(l:List bA) (s:gO),jQ w s l->∀k (h:k<l.length),H7 w (cf w s (l.take k)) l[k]=true
 |x::l,s,H,0,h=>H.1
 |x::l,s,H,k+1,h=>oZ w l (gW w s x) H.2 k (by simpa using h)
def o4{w:aG}(H:eT w){k:Nat}(h:k<w.ev.length):H7 w.w (ew w k) w.ev[k]=true:=oZ w.w w.ev w.init H.play k h
def Od{l:List Int}{t u x:Int}(ht:inB t l.length=true)(j:inB u l.length=true):(l.set t.toNat x).getD u.toNat 0=if t=u then x else l.getD u.toNat 0:=by
 obtain⟨a,b⟩:=ao.1 ht;obtain⟨d,e⟩:=ao.1 j;by_cases g:t=u
 .subst g;rw[if_pos rfl];have:t.toNat<l.length:=by omega
  simp[List.getD,this]
 .rw[if_neg g];have:t.toNat≠u.toNat:=by omega
  simp[List.getD,this]
structure OkP(w:aF)(s:gO)(e:bA):Prop where
 fit:nB w s=true
 thr:inB e.thread w.threads.length=true
 k1:1<=e.kind
 k2:e.kind<=23
 en:aC w s.sync e.thread e.kind e.obj=true
 sit:Uh w e=true
 dep:Ui w e=true
 frm:Uj e=true
 nd:qN e.deps (aT s e.thread)
 nf:qN e.frm (aT s e.thread)
 val:H6 s e=true
def hM{w:aF}{s:gO}{e:bA}:H7 w s e=true↔OkP w s e:=by unfold H7;simp only[aas,decide_eq_true_eq];exact⟨λ⟨⟨⟨⟨⟨⟨⟨⟨⟨⟨a,b⟩,c⟩,d⟩,f⟩,g⟩,h⟩,i⟩,j⟩,k⟩,l⟩=>⟨a,b,c,d,f,g,h,i,iH.1 j,iH.1 k,l⟩,λ⟨a,b,c,d,f,g,h,i,j,k,l⟩=>⟨⟨⟨⟨⟨⟨⟨⟨⟨⟨a,b⟩,c⟩,d⟩,f⟩,g⟩,h⟩,i⟩,iH.2 j⟩,iH.2 k⟩,l⟩⟩
def dT{w:aF}{s:gO}:nB w s=true↔fitsS w s.sync=true/\s.cells.length=w.cells.length/\s.futures.length=w.futures.length/\s.count.length=w.threads.length:=by unfold nB;simp only[aas,decide_eq_true_eq];exact⟨λ⟨⟨⟨a,b⟩,c⟩,d⟩=>⟨a,b,c,d⟩,λ⟨a,b,c,d⟩=>⟨⟨⟨a,b⟩,c⟩,d⟩⟩
def w8{w:aG}(H:eT w){t:Int}(ht:inB t w.init.count.length=true):∀k,k<=w.ev.length->(ew w k).count.length=w.init.count.length/\aT (ew w k) t=aT w.init t+(cg w.ev t k).length
 |0,_=>⟨rfl,by simp[ew,cf,cg]⟩
 | k+1,u=>by
  have u:k<w.ev.length:=by omega
  obtain⟨B,M⟩:=w8 H ht k acN;have N:=hM.1 (o4 H u);have j:=N.thr;rw[<-(dT.1 H.fit).2.2.2]at j;obtain⟨_,Y⟩:=w8 H j k acN;have S:aT w.init w.ev[k].thread<=400/\0<=aT w.init w.ev[k].thread:=by
   obtain⟨a,b⟩:=ao.1 j;have E:w.ev[k].thread.toNat<w.init.count.length:=by omega
   have:=H.cnt _ (LT E);unfold aT;simp only[List.getD,mt E,abS];exact⟨this.2,this.1⟩
  have D:=H.len;have O:=ka w.ev w.ev[k].thread k;rw[nJ u];unfold gW aT;dsimp only;refine⟨by simp[B],?_⟩;rw[Od (by rw[B];exact j) (by rw[B];exact ht)];change (if _ then IntKind.i64.wrap (aT (ew w k) w.ev[k].thread+1)else aT (ew w k) t)=_;have G:w.ev.getD k ⟨0,0,0,0,0,[],[]⟩=w.ev[k]:=by simp[u]
  by_cases g:w.ev[k].thread=t
  .subst g;rw[if_pos rfl,M,H9 acN acN,eD,G,if_pos rfl];simp only[aal,ach,aT];omega
  .rw[if_neg g,M,eD,G,if_neg g];rfl
termination_by k=>k
def Dp{w:aF}{s:SyncD}{t k o:Int}(h:aC w s t k o=true):allowedS w k o=true:=by unfold aC at h;simp only[aas]at h;exact h.1.2
def iK{w:aF}{k o:Int}(h:allowedS w k o=true)(j:k=3\/k=4):inB o w.cells.length=true:=by unfold allowedS at h;rw[if_neg acN,if_pos j]at h;exact h
def o5{w:aF}{k o:Int}(h:allowedS w k o=true)(j:k=22\/k=23):inB o w.futures.length=true:=by
 unfold allowedS at h
 iterate 6 rw[if_neg acN]at h
 rw[if_pos j]at h;exact h
def RdT(ev:List bA):Prop:=∀(k:Nat) (hk:k<ev.length) (d:Int),d∈ev[k].deps\/d∈ev[k].frm->
 ∃(m:Nat) (hm:m<ev.length),m<k/\(ev[m]).thread=ev[k].thread/\((cg ev ev[k].thread m).length:Int)=d/\((ev[m]).kind=3\/(ev[m]).kind=23)
structure K4(w:aF)(ev:List bA):Prop where
 world:oK w
 play:jQ w (bG w) ev
 len:ev.length<=400
 rds:RdT ev
def Ot{l:List Int}{n:Int}(h:qN l n):∀i (j:i<l.length),(i:Int)+1<=l[i]
 |0,j=>by have:=(h 0 j).1;simpa using this
 | i+1,j=>by have B:=Ot h i acN;have u:=(h (i+1) j).2.2 acN;simp only[Nat.add_sub_cancel,List.getD,mt (show i<l.length by omega),abS]at u;omega
def PK{l:List Int}{n:Int}(h:qN l n):(l.length:Int)<=n\/l=[]:=by
 cases j:l.length with
 |zero=>exact .inr (ace j)
 |succ k=>have B:=Ot h k acN;have u:=(h k acN).2.1;exact .inl acN
def PL(w:aF):∀(a b:List bA) (s:gO),cf w s (a++b)=cf w (cf w s a) b
 |[],b,s=>rfl
 |x::a,b,s=>PL w a b (gW w s x)
def jd(w:aF):∀(a b:List bA) (s:gO),jQ w s (a++b)↔jQ w s a/\jQ w (cf w s a) b
 |[],b,s=>by simp[jQ,cf]
 | x::a,b,s=>by show H7 w s x=true/\jQ w (gW w s x) (a++b)↔(H7 w s x=true/\jQ w (gW w s x) a)/\jQ w (cf w (gW w s x) a) b;rw[jd w a b,and_assoc]
def Ou(a b:List bA)(t:Int):∀j,j<=b.length->cg (a++b) t (a.length+j)=cg a t a.length++(cg b t j).map λx=>x+(a.length:Int)
 | 0,_=>by
  have:∀k,k<=a.length->cg (a++b) t k=cg a t k:=by
   intro k
   induction k with
   |zero=>intro _;rfl
   |succ k u=>
    intro h;rw[eD,eD,u acN];have:(a++b).getD k ⟨0,0,0,0,0,[],[]⟩=a.getD k ⟨0,0,0,0,0,[],[]⟩:=by simp[aaW (show k<a.length by omega)]
    rw[this]
  simpa[cg]using this a.length (Fd _)
 | j+1,h=>by
  have u:=Ou a b t j acN;rw[show a.length+(j+1)=(a.length+j)+1 by omega,eD,eD,u];have:(a++b).getD (a.length+j) ⟨0,0,0,0,0,[],[]⟩=b.getD j ⟨0,0,0,0,0,[],[]⟩:=by simp[aaL (show a.length<=a.length+j by omega)]
  rw[this];split
  .rw[ST,abr];congr 2;simp;omega
  .rfl
def DI(ev:List bA)(t:Int)(n:Nat):∀k,k<=n->cg (ev.take n) t k=cg ev t k
 |0,_=>rfl
 | k+1,h=>by
  rw[eD,eD,DI ev t n k acN];have:(ev.take n).getD k ⟨0,0,0,0,0,[],[]⟩=ev.getD k ⟨0,0,0,0,0,[],[]⟩:=by simp[show k<n by omega]
  rw[this]
def yS(w:aF):(bG w).count.length=w.threads.length/\(∀l∈(bG w).sync.locks,l.readers.length<=0):=by refine⟨by simp[bG],λl j=>?_⟩;have:l=⟨-1,[]⟩:=List.eq_of_mem_replicate j;rw[this];exact Fd _
structure aaX(w:aF)(ev:List bA)(k:Nat)(s:gO):Prop where
 cl:s.count.length=w.threads.length
 cnt:∀t,inB t w.threads.length=true->aT s t=(cg ev t k).length
 rd:∀l∈s.sync.locks,l.readers.length<=k
def aft{w:aF}{ev:List bA}(H:K4 w ev):∀k,k<=ev.length->aaX w ev k (cf w (bG w) (ev.take k))
 | 0,_=>⟨(yS w).1,λt ht=>by
   obtain⟨a,b⟩:=ao.1 ht;show aT (bG w) t=_;have:t.toNat<w.threads.length:=by omega
   simp[aT,bG,cg,List.getD,this],(yS w).2⟩
 | k+1,h=>by
  have A:=aft H k acN;have u:k<ev.length:=by omega
  have B:=hM.1 (oZ w ev (bG w) H.play k u);have j:=B.thr;have D:=H.len;rw[Fn u,i9];refine⟨by unfold gW;simp[A.cl],λt ht=>?_,?_⟩
  .unfold gW aT;dsimp only;rw[Od (by rw[A.cl];exact j) (by rw[A.cl];exact ht)];have G:ev.getD k ⟨0,0,0,0,0,[],[]⟩=ev[k]:=by simp[u]
   have E:=ka ev ev[k].thread k;rw[eD,G];by_cases g:ev[k].thread=t
   .subst g;rw[if_pos rfl,if_pos rfl];change IntKind.i64.wrap (aT _ _+1)=_;rw[A.cnt _ j,H9 acN acN];simp
   .rw[if_neg g,if_neg g];exact A.cnt t ht
  .unfold gW;dsimp only;rw[(uH B.en).1];exact(rT A.rd).rd
def DJ(w:aF)(ev:List bA)(a n:Nat):aG:=⟨w,a,cf w (bG w) (ev.take a),(ev.drop a).take n⟩
def XC{w:aF}{ev:List bA}(H:K4 w ev){a n:Nat}(ha:a<ev.length)(hn:0<n):eT (DJ w ev a n):=by
 have hlen:=H.len;have A:=aft H a acN;have u:ev=ev.take a++ev.drop a:=(acr a ev).symm;have hp:=H.play;rw[u,jd]at hp;have S:=hp.2;rw[(acr n (ev.drop a)).symm,jd]at S;have hwl:((ev.drop a).take n).length<=400:=by simp;omega
 have ho0:=hM.1 (oZ w ev (bG w) H.play a ha);have hcnt:∀x∈(cf w (bG w) (ev.take a)).count,0<=x/\x<=400:=λx hx=>by obtain⟨i,hi,rfl⟩:=abC hx;have:=A.cnt (i:Int) (ao.2 ⟨acN,by rw[<-A.cl];omega⟩);unfold aT at this;simp only[abw,List.getD,mt hi,abS]at this;have D:=ka ev i a;omega
 have hrd:∀l∈(cf w (bG w) (ev.take a)).sync.locks,l.readers.length<=400:=λl hl=>by have:=A.rd l hl;omega
 have N:∀(k:Nat) (M:k<((ev.drop a).take n).length),∃E:a+k<ev.length,((ev.drop a).take n)[k]=ev[a+k]:=λk M=>by
  have:k<n/\a+k<ev.length:=by simp at M;omega
  exact⟨this.2,acQ⟩
 refine⟨H.world,ho0.fit,hwl,hcnt,hrd,S.1,λe he=>?_,?_⟩
 .obtain⟨k,M,rfl⟩:=abC he;obtain⟨E,e2⟩:=N k M;show wO (((ev.drop a).take n)[k]);rw[e2];have Y:=hM.1 (oZ w ev (bG w) H.play (a+k) E);have hc:=(aft H (a+k) acN).cnt _ Y.thr;have D:=ka ev (ev[a+k]).thread (a+k);have nd:=Y.nd;have nf:=Y.nf;rw[hc]at nd nf;have sh:∀l,qN l ((cg ev (ev[a+k]).thread (a+k)).length:Int)->l.length<=2^30:=λl h=>by
   rcases PK h with g|g
   .omega
   .rw[g];exact abt _
  exact⟨sh _ nd,sh _ nf⟩
 .intro k M d hd D;change k<((ev.drop a).take n).length at M;obtain⟨E,e2⟩:=N k M;change d∈(((ev.drop a).take n)[k]).deps\/d∈(((ev.drop a).take n)[k]).frm at hd;change aT (cf w (bG w) (ev.take a)) (((ev.drop a).take n)[k]).thread<=d at D;show(jA (DJ w ev a n) (ep (DJ w ev a n) (((ev.drop a).take n)[k]).thread (d-aT (cf w (bG w) (ev.take a)) (((ev.drop a).take n)[k]).thread))).kind=3\/_;change _\/(jA (DJ w ev a n) (ep (DJ w ev a n) (((ev.drop a).take n)[k]).thread (d-aT (cf w (bG w) (ev.take a)) (((ev.drop a).take n)[k]).thread))).kind=23;rw[e2]at hd D ⊢;obtain⟨m,hm,hmk,O,hmd,hrk⟩:=H.rds (a+k) E d hd;have Y:=hM.1 (oZ w ev (bG w) H.play (a+k) E);have hca:=A.cnt _ Y.thr;rw[hca]at D ⊢;generalize(ev[a+k]).thread=t at *;have ham:a<=m:=by
   rcases LE m a with g|g
   .exfalso;have:(cg ev t m).length<(cg ev t a).length:=by obtain⟨r,hr⟩:=A5 ev t a (m+1) acN;rw[hr,eD,if_pos (by simpa[hm]using O)];simp
    omega
   .exact g
  obtain⟨j,rfl⟩:∃j,m=a+j:=⟨m-a,acN⟩;have hjk:j<k:=by omega
  have B:j<((ev.drop a).take n).length:=by omega
  obtain⟨_,e3⟩:=N j B;have hal:(ev.take a).length=a:=by simp;omega
  have hoj:cg ev t (a+j)=cg ev t a++(cg (ev.drop a) t j).map λx=>x+(a:Int):=by have:=Ou (ev.take a) (ev.drop a) t j (by simp at B ⊢;omega);rw[<-u,hal]at this;rw[this,DI ev t a a (Fd _)]
  have Z:d-((cg ev t a).length:Int)=((cg ((ev.drop a).take n) t j).length:Nat):=by rw[DI (ev.drop a) t n j (by simp at B;omega),<-hmd,hoj];simp;omega
  have G:=N4 (ev:=(ev.drop a).take n) (t:=t) (m:=j) (n:=((ev.drop a).take n).length) B (by simp only[List.getD,mt B,abS];rw[e3];exact O);have hN:ep (DJ w ev a n) t (d-((cg ev t a).length:Int))=(j:Int):=by unfold ep eC;show(if inB _ (cg ((ev.drop a).take n) t ((ev.drop a).take n).length).length then(cg ((ev.drop a).take n) t ((ev.drop a).take n).length).getD _ 0 else -1)=(j:Int);rw[Z,if_pos (ao.2 ⟨acN,by have:=(abL.1 G).1;omega⟩),abw];simp only[List.getD];rw[G];rfl
  rw[hN];have:jA (DJ w ev a n) (j:Int)=ev[a+j]:=by rw[gq (w:=DJ w ev a n) (k:=j) B];exact e3
  rw[this];exact hrk
def MR:List cF:=[⟨0,0,1⟩,⟨0,1,2⟩,⟨0,2,3⟩,⟨0,3,4⟩,⟨0,4,5⟩,⟨0,5,6⟩,⟨1,0,11⟩,⟨1,1,12⟩,⟨1,2,13⟩,⟨1,3,14⟩,⟨1,4,15⟩,⟨1,5,16⟩,⟨2,0,21⟩,⟨2,1,22⟩,⟨2,2,23⟩,⟨2,3,24⟩,⟨2,4,25⟩,⟨2,5,26⟩,⟨3,0,31⟩,⟨3,1,32⟩,⟨3,2,33⟩,⟨3,3,34⟩,⟨3,4,35⟩,⟨3,5,36⟩]
def bK:aF:=⟨[⟨[120],0,0,false,0⟩,⟨[121],0,0,false,1⟩,⟨[118],0,0,true,0⟩,⟨[113],0,2,false,0⟩,⟨[113],1,2,false,0⟩],[⟨[109],false⟩,⟨[110],false⟩,⟨[114],true⟩],[⟨[99],0⟩],[[102]],[[109,97,105,110],[116,49],[116,50],[116,51]],MR⟩
def aaZ:CL (⟨[113],0,2,false,0⟩:aU) [⟨[113],0,2,false,0⟩,⟨[113],1,2,false,0⟩]:=by
 constructor
 all_goals first
  |decide
  |rfl
  |skip
 intro k j;have j:(k:Int)<2:=j;have j:k<2:=by omega
 match k,j with
 |0,_|1,_=>rfl
def yT:oK bK:=by
 refine⟨acR,acR,acR,acR,acR,acR,acR,⟨[[120],[121],[118],[113]],?_,?_,?_⟩,?_,?_⟩
 .exact .one _ _ _ rfl rfl (.one _ _ _ rfl rfl (.one _ _ _ rfl rfl (.arr _ _ _ acR aaZ .nil)))
 .decide
 .decide
 .intro c j;rw[aag.1 j];rfl
 .show Kd 4 0 0 MR;unfold MR
  repeat' (first|exact trivial|refine⟨acR,acR,acR,?_⟩)
abbrev zM:=List (Option Nat×List Int)
def dU(rs:zM):SH:=rs.flatMap λp=>ab p.1 1 (p.2.map aa)
def fO(rs:zM):List (List AV):=rs.map λp=>[af p.1 p.2.length]
def je(p:Option Nat×List Int)(rs:zM):dU (p::rs)=ab p.1 1 (p.2.map aa)++dU rs:=by simp[dU]
def uV:∀(rs:zM) (u:Nat) (h:u<rs.length),(dU rs).Perm (ab rs[u].1 1 (rs[u].2.map aa)++dU (rs.eraseIdx u))
 |[],u,h=>absurd h acQ
 |p::rs,0,h=>by rw[je];exact .refl _
 | p::rs,u+1,h=>by have j:=uV rs u (by simpa using h);rw[je,List.eraseIdx_cons_succ,je];simp only[List.getElem_cons_succ];refine(j.append_left _).trans ?_;rw[<-abr,<-abr];exact aar.append_right _
def GK(rs:zM)(u:Nat)(h:u<rs.length)(x:Option Nat×List Int):(dU (rs.set u x)).Perm (ab x.1 1 (x.2.map aa)++dU (rs.eraseIdx u)):=by
 have:=uV (rs.set u x) u (by simpa using h)
 rwa [List.eraseIdx_set_eq,List.getElem_set_self]at this
def DQ{rs:zM}{u:Nat}(h:u<rs.length):(fO rs)[u]? =some [af rs[u].1 rs[u].2.length]:=by simp[fO,h]
def GL(rs:zM)(u:Nat)(x:Option Nat×List Int):(fO rs).set u [af x.1 x.2.length]=fO (rs.set u x):=by simp[fO,abT]
def Sv(n:Nat)(rs:zM):Prop:=rs.length=4/\∀p∈rs,(p.1=none->p.2=[])/\p.2.length<=n
def IE{n:Nat}{rs:zM}(H:Sv n rs)(u:Nat){x:Option Nat×List Int}(j:x.1=none->x.2=[])(h2:x.2.length<=n):Sv n (rs.set u x):=by
 refine⟨by simpa using H.1,λp hp=>?_⟩;rcases aca hp with h|rfl
 .exact H.2 p h
 .exact⟨j,h2⟩
def PU{j:List cb}:∀(k:Nat) {s y:bI},gA j k s=(y,true)->inB y.pc j.length=true/\((j.getD y.pc.toNat default).op<1\/5<(j.getD y.pc.toNat default).op):=by
 intro k
 induction k with
 |zero=>
  intro s y h;unfold gA at h
  repeat' split at h
  all_goals first
   |(cases h;exact⟨acO,acO⟩)
   |cases h
 |succ k u=>
  intro s y h;unfold gA at h;split at h
  .split at h
   .cases h;exact⟨acO,acO⟩
   .split at h
    .cases h
    .exact u h
  .cases h
def zO{c:i6}{s y:bI}(h:cD c s=(y,true)):inB y.pc c.ins.length=true/\((cK c y.pc).op<1\/5<(cK c y.pc).op)/\(y.regs.length:Int)=c.regs:=by
 have u:=Gr h;unfold cD at h;split at h
 .rename_i j;have:=PU _ h;exact⟨this.1,this.2,by rw[u.2];exact j.1⟩
 .cases h
def XL{w:aF}{s:SyncD}{t k o wake:Int}(B:aC w s t k o=true)(j:Nat)(E:(j:Int)≠t)(h:(a8 (bF w s t k o wake).1 j).status=2):(a8 s j).status=2:=by
 unfold aC at B;simp only[aas]at B;have D:=ao.1 B.1.1.2;have u:∀x:ThrD,(s.threads.set t.toNat x).getD j default=s.threads.getD j default:=λx=>by
  have:t.toNat≠j:=by omega
  simp[List.getD,abs,this]
 rcases wF k with g|g
 .rw[fD g]at B;exact absurd B.1.2 acQ
 rcases g with rfl|rfl|rfl|rfl|rfl|rfl|rfl|rfl|rfl|rfl|rfl|rfl|rfl|rfl|rfl|rfl|rfl|rfl|rfl|rfl|rfl|rfl|rfl
 all_goals simp only[bF,Int.reduceEq,if_true,if_false,or_true,true_or,or_false,or_self,↓reduceIte,a8,abw,dZ]at h ⊢
 all_goals try rw[u]at h
 all_goals first
  |exact h
  |skip
 ·
  unfold fI at h;split at h
  .unfold gj at h;by_cases e:(da s.threads o wake).toNat=j
   .rw[e]at h;rcases LE j s.threads.length with g|g
    .simp[List.getD,g]at h
    .simp[List.getD,abs,g]at h;simp[List.getD,aah g];exact h
   .simpa[List.getD,abs,e]using h
  .exact h
 ·
  unfold Gk at h;rcases LE j s.threads.length with g|g
  .simp only[List.getD,eW _ _ _ _ g,abS]at h;split at h
   .exact absurd h acQ
   .simpa[List.getD,g]using h
  .have:(dt s.threads o s.threads.length)[j]? =none:=aah (by rw[c9];exact g);simp[List.getD,this]at h;simp[List.getD,aah g];exact h
 ·
  by_cases e:o.toNat=j
  .rw[e]at h;rcases LE j s.threads.length with g|g
   .simp[List.getD,g]at h
   .simp[List.getD,abs,g]at h;simp[List.getD,aah g];exact h
  .simpa[List.getD,abs,e]using h
structure rF(c:bP)(s:eE):Prop where
 th:s.threads.length=c.ts.length
 sy:s.sync.threads.length=c.ts.length
 pc:∀t:Nat,t<c.ts.length->inB (aI s t).pc (aE c t).ins.length=true/\((aI s t).regs.length:Int)=(aE c t).regs
 run:∀t:Nat,t<c.ts.length->(a8 s.sync t).status=2->jv (cK (aE c t) (aI s t).pc).op≠0
def XM{op:Int}(j:6<=op)(h2:op<=28):jv op≠0:=by
 have:∀k:Nat,k<29->6<=k->Bi.getD k 0≠0:=by decide
 unfold jv;exact this op.toNat acN acN
def GP{c:bP}{s D:eE}{t wake:Int}{N:bA}(h:nz c s t wake=some (D,N)):∃(e:bA) (j:bI),eI c s t=some e/\aC c.w s.sync t e.kind e.obj=true/\D.sync=(bF c.w s.sync t e.kind e.obj wake).1/\D.threads=s.threads.set t.toNat j/\
  ((e.kind=16\/e.kind=2)/\j.pc=(aI s t).pc/\j.regs.length=(aI s t).regs.length\/∃a,cD (aE c t) a=(j,true)):=by
 rw[wL]at h;cases hp:eI c s t with
 |none=>rw[hp]at h;cases h
 |some e=>
  rw[hp]at h;dsimp only at h;split at h
  .split at h
   .rename_i E;have u:aC c.w s.sync t e.kind e.obj=true:=by
     unfold dx at E;split at E
     .assumption
     .cases E
    have B:(dx c.w s.sync t e.kind e.obj wake).1=(bF c.w s.sync t e.kind e.obj wake).1:=by unfold dx;rw[if_pos u]
    unfold Au at h;split at h
    .split at h
     .rename_i M;cases h;exact⟨e,_,rfl,u,B,rfl,.inr ⟨_,Prod.ext rfl M⟩⟩
     .cases h
    .rename_i O;cases h;have G:e.kind=16\/e.kind=2:=by omega
     refine⟨e,_,rfl,u,B,rfl,.inl ⟨G,?_,oM.2.1⟩⟩;unfold fe;rw[if_neg acN,if_neg acN,if_neg acN,if_neg acN,if_neg acN,if_neg acN,if_pos acN]
   .cases h
  .cases h
def Lg(w:aF)(s:SyncD)(t k o wake:Int):(bF w s t k o wake).1.threads.length=s.threads.length:=by
 unfold bF
 repeat' refine iteInduction (motive:=λx:SyncD×Int=>x.1.threads.length=s.threads.length) (λ_=>?_) (λ_=>?_)
 all_goals simp[dZ,yw,c9,Gk]
def uY{c:bP}{t:Nat}(h:t<c.ts.length):aE c t=c.ts[t]:=by simp[aE,h]
def Lh{c:bP}{s s':eE}{t wake:Int}{e':bA}(hc:lx c)(H:rF c s)(h:nz c s t wake=some (s',e')):rF c s':=by
 obtain⟨e,u,hp,hen,B,G,hz⟩:=GP h;have htl:inB t c.ts.length=true:=by
  unfold eI at hp;split at hp
  .rename_i hr;exact(gk hr).1
  .cases hp
 obtain⟨t0,t1⟩:=ao.1 htl;have zV:∀j:Nat,aI s' j=if(j:Int)=t then u else aI s j:=λj=>by
  unfold aI;rw[G,abw];by_cases e:(j:Int)=t
  .have:t.toNat=j:=by omega
   have S:j<s.threads.length:=by rw[H.th];omega
   rw[if_pos e,this];simp[List.getD,S]
  .have:t.toNat≠j:=by omega
   rw[if_neg e];simp[List.getD,abs,this]
 have M:=H.pc t.toNat acN;rw[abD t0]at M;have key:inB u.pc (aE c t).ins.length=true/\(u.regs.length:Int)=(aE c t).regs:=by
  rcases hz with⟨_,E,h2⟩|⟨a,E⟩
  .rw[E,h2];exact M
  .obtain⟨Z,_,q3⟩:=zO E;exact⟨Z,q3⟩
 refine⟨by rw[G,List.length_set];exact H.th,by rw[B,Lg];exact H.sy,λj S=>?_,λj S D=>?_⟩
 .rw[zV];by_cases e:(j:Int)=t
  .rw[if_pos e,e];exact key
  .rw[if_neg e];exact H.pc j S
 .rw[zV];by_cases Y:(j:Int)=t
  .rw[if_pos Y,Y];rw[B,Y]at D;rcases hz with⟨N,_,_⟩|⟨a,E⟩
   .exfalso;have O:t.toNat<s.sync.threads.length:=by rw[H.sy];omega
    rcases N with N|N
    .rw[N]at D;simp[bF,a8,dZ,O]at D
    .rw[N]at D;simp[bF,a8,dZ,O]at D
   .obtain⟨Z,q2,q3⟩:=zO E;obtain⟨p0,p1⟩:=ao.1 Z;have hT:=hc.thr t.toNat acN;have hce:aE c t=c.ts[t.toNat]'acN:=by have:=uY (c:=c) (t:=t.toNat) acN;rw[abD t0]at this;exact this
    rw[hce]at Z q2 p1 ⊢;have hi:=hT.ins u.pc.toNat acN;have hia:cK (c.ts[t.toNat]'acN) u.pc=(c.ts[t.toNat]'acN).ins[u.pc.toNat]'acN:=by
     unfold cK;have:u.pc.toNat<(c.ts[t.toNat]'acN).ins.length:=by omega
     simp[List.getD,this]
    rw[hia]at q2 ⊢;have E:=hi.lo;have h2:=hi.hi;exact XM acN h2
  .rw[if_neg Y];refine H.run j S ?_;rw[B]at D;exact XL hen j Y D
def GQ{c:bP}(D:lx c):rF c (du c):=by
 have G:=D.len;refine⟨by simp[du],?_,λt B=>?_,λt B u=>?_⟩
 .unfold du bM;simp[G]
 .have E:=D.thr t B;have zV:aI (du c) t=⟨0,List.replicate (c.ts[t]).regs.toNat 0,List.replicate (c.ts[t]).regs.toNat [],0⟩:=by simp[aI,du,B]
  rw[zV,uY B];have:=E.ne;have:=E.r0;exact⟨ao.2 ⟨acQ,acS⟩,acS⟩
 .exfalso;unfold du bM a8 at u;dsimp only at u;rw[Int.toNat_natCast]at u;have j:t<c.w.threads.length:=by omega
  rcases t with _|t
  .simp[List.getD,j]at u
  .simp[List.getD,abs,j]at u
def SL{c:bP}{p:List bA×eE}{ch:aD}(u:lx c)(h:rF c p.2):rF c (IU c p ch).2:=by
 unfold IU;split
 .exact h
 .split
  .exact h
  .rename_i n e j;exact Lh u h j
def U5{c:bP}(u:lx c)(l:List aD){p:List bA×eE}(h:rF c p.2):rF c (gV c l p).2:=by
 induction l generalizing p with
 |nil=>exact h
 |cons B l j=>exact j (SL u h)
section
theorem U6{n a:Int}(h:n=4\/n=5):(Md n a).2=true:=by unfold Md;rcases h with rfl|rfl<;>rfl
theorem SM{n a b:Int}(h:6<=n/\n<=18):(uC n a b).2=true:=by
 have:n=6\/n=7\/n=8\/n=9\/n=10\/n=11\/n=12\/n=13\/n=14\/n=15\/n=16\/n=17\/n=18:=by omega
 unfold uC;rcases this with rfl|rfl|rfl|rfl|rfl|rfl|rfl|rfl|rfl|rfl|rfl|rfl|rfl<;>rfl
structure zP(c:i6)(s:bI):Prop where
 regs:(s.regs.length:Int)=c.regs
 taint:(s.taint.length:Int)=c.regs
section
variable {w:aF} {t:Nat} {c:i6} (hP:HY w t c) (hsh:c.ins.length<2^40)
include hP hsh
omit hsh in
theorem PV{i:cb}(hi:i∈c.ins)(Y:i.sil){s:bI}(u:zP c s):∃s2,cL i s=some s2/\zP c s2/\s2.pc=(if i.op=5 then i.a else IntKind.i64.wrap (s.pc+1))/\s2.ev=s.ev:=by
 obtain⟨N,M,rfl⟩:=List.mem_iff_getElem.1 hi;have S:=hP.ins N M;generalize c.ins[N]=i at *;have Z:=S.regs;have O:=S.obj;have has:∀r∈bS i,s.has r=true:=λr D=>by have:=Z r D;have:=u.regs;unfold bI.has;rw[ao];omega
 obtain⟨h1,h5⟩:=Y;have E:i.op=1\/i.op=2\/i.op=3\/i.op=4\/i.op=5:=by omega
 have fit:∀a v l,zP c (s.put a v l):=λa v l=>⟨by simp[bI.put,u.regs],by simp[bI.put,u.taint]⟩
 unfold cL;rcases E with e|e|e|e|e
 .have j:=has i.a (by simp[bS,e]);rw[if_pos e,if_pos j];exact⟨_,rfl,fit _ _ _,by simp[e,bI.put],rfl⟩
 .have j:=has i.a (by simp[bS,e]);have B:=has i.b (by simp[bS,e])
  rw[if_neg acN,if_pos e,if_pos (by simp[j,B])];exact⟨_,rfl,fit _ _ _,by simp[e,bI.put],rfl⟩
 .have j:=has i.a (by simp[bS,e]);have B:=has i.b (by simp[bS,e])
  have G:i.n=4\/i.n=5:=by simpa[sK,e]using O
  rw[if_neg acN,if_neg acN,if_pos e,if_pos (by simp[j,B,U6 G])];exact⟨_,rfl,fit _ _ _,by simp[e,bI.put],rfl⟩
 .have j:=has i.a (by simp[bS,e]);have B:=has i.b (by simp[bS,e]);have hc:=has i.c (by simp[bS,e])
  have G:6<=i.n/\i.n<=18:=by simpa[sK,e]using O
  rw[if_neg acN,if_neg acN,if_neg acN,if_pos e,if_pos (by simp[j,B,hc,SM G])];exact⟨_,rfl,fit _ _ _,by simp[e,bI.put],rfl⟩
 .rw[if_neg acN,if_neg acN,if_neg acN,if_neg acN];exact⟨_,rfl,⟨u.regs,u.taint⟩,by simp[e],rfl⟩
theorem SN:∀(m:Nat) {k:Nat} {s:bI},AZ c.ins k m->s.pc=k->zP c s->∀n,m<=n->∃(G:Nat) (i:cb) (s2:bI),gA c.ins n s=(s2,true)/\zP c s2/\s2.pc=G/\c.ins[G]? =some i/\¬i.sil/\s2.ev=s.ev:=by
 intro m
 induction m with
 |zero=>
  intro k s O hp Z n _;cases O with
  |ev _ i B M=>
  have hk:=(abL.1 B).1;have E:inB s.pc c.ins.length=true:=by rw[ao];omega
  have S:c.ins.getD s.pc.toNat default=i:=by rw[hp];simp[List.getD,B]
  have D:(c.ins.getD s.pc.toNat default).op<1\/5<(c.ins.getD s.pc.toNat default).op:=by rw[S];unfold cb.sil at M;omega
  refine⟨k,i,s,?_,Z,hp,B,M,rfl⟩;cases n with
  |zero=>unfold gA;rw[if_pos E,if_pos D]
  |succ n=>unfold gA;rw[if_pos E,if_pos D]
 |succ m ih=>
  intro k s O hp Z n hn;obtain⟨n,rfl⟩:∃n',n=n'+1:=⟨n-1,acN⟩;have hk:=O.lt;have E:inB s.pc c.ins.length=true:=by rw[ao];omega
  have N:∀(i:cb) (Y:Nat),c.ins[k]? =some i->i.sil->((if i.op=5 then i.a else IntKind.i64.wrap (s.pc+1))=(Y:Int))->AZ c.ins Y m->∃(G:Nat) (i:cb) (s2:bI),gA c.ins (n+1) s=(s2,true)/\zP c s2/\s2.pc=G/\c.ins[G]? =some i/\¬i.sil/\s2.ev=s.ev:=by
   intro i Y B M he u;obtain⟨s2,h1,h2,h3,h4⟩:=PV hP (abN B) M Z;have S:c.ins.getD s.pc.toNat default=i:=by rw[hp];simp[List.getD,B]
   have D:¬((c.ins.getD s.pc.toNat default).op<1\/5<(c.ins.getD s.pc.toNat default).op):=by rw[S];unfold cb.sil at M;omega
   obtain⟨G,i',s3,r1,r2,r3,r4,r5,r6⟩:=ih u (by rw[h3];exact he) h2 n acN;refine⟨G,i',s3,?_,r2,r3,r4,r5,r6.trans h4⟩;rw[<-S]at h1;unfold gA;rw[if_pos E,if_neg D,h1];exact r1
  cases O with
  |go _ _ i B M h5 u=>exact N i (k+1) B M (by rw[if_neg h5,hp,abg _ acN];omega) u
  |jump _ _ j i B h5 ha u=>exact N i j B ⟨acN,acN⟩ (by rw[if_pos h5,ha]) u
theorem Li{k:Nat}{s:bI}(D:k<c.ins.length)(hp:s.pc=k)(j:zP c s):∃(u:Nat) (i:cb) (s2:bI),cD c s=(s2,true)/\zP c s2/\s2.pc=u/\c.ins[u]? =some i/\¬i.sil/\s2.ev=s.ev:=by obtain⟨m,B⟩:=hP.lans k D;unfold cD;rw[if_pos ⟨j.regs,j.taint⟩];exact SN hP hsh m B hp j _ (Nat.le_of_lt B.bound)
end
end
def rL:RF:=nv (bQ Tryz.prog Tryz.f66 [(9,⟨[0,3,4],[],true,[]⟩)] [])
abbrev Ec(a:AV)(L:SH)(Q:R):Prop:=Pc rL 20 Q 0 [] [a] L
def AR(j:AV)(L:SH)(Q:R)(h:Ec j L Q):ac Tryz.prog 66 [j] L Q:=
 fv rL Tryz.func66 h
def xz:RF:=nv (bQ Tryz.prog Tryz.f39 [] [(1,[5,6])])
abbrev IN(a b:AV)(L:SH)(Q:R):Prop:=Pc xz 20 Q 0 [] [a,b] L
def FT(u j:AV)(L:SH)(Q:R)(h:IN u j L Q):ac Tryz.prog 39 [u,j] L Q:=
 fv xz Tryz.func39 h
