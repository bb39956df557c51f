/- A part of the proof; the statement is proved in the last part. -/
import Derived.Test.YtbofdbhnbodbiaaGreatDoorQvj
set_option linter.all false
set_option maxRecDepth 100000
set_option maxHeartbeats 20000000
namespace Go.Proofs.YtbofdbhnbodbiaaGreatDoor.Am
section
def cY(s:SyncD)(i:Int)(f:ThrD->ThrD):List ThrD:=s.threads.set i.toNat (f (aR s i))
def cg(s:SyncD)(i:Int)(f:LockD->LockD):List LockD:=s.locks.set i.toNat (f (aF s i))
def Bo(s:SyncD)(o:Int):List ThrD:=cM s.threads o s.threads.length
def si(l:List Int)(t:Int):List Int:=Lib.compact (tX (l++[t]))
def bG(w:aI)(s:SyncD)(t k o wake:Int):SyncD×Int:=
 if k=1 then({s with threads:=cY s t λx=>{x with status:=2}},0)
 else if k=2 then({s with threads:=cY s t λx=>{x with status:=5}},0)
 else if k=6\/k=10 then({s with locks:=cg s o λx=>{x with owner:=t}},0)
 else if k=7\/k=11 then({s with locks:=cg s o λx=>{x with owner:=-1}},0)
 else if k=8 then({s with locks:=cg s o λx=>{x with readers:=si x.readers t}},0)
 else if k=9 then({s with locks:=cg s o λx=>{x with readers:=x.readers.filter λy=>!decide (y=t)}},0)
 else if k=12 then({s with tx:=t},0)
 else if k=13 then({s with tx:=-1},0)
 else if k=14 then({s with threads:=cY s t λx=>{x with atomic:=true}},0)
 else if k=15 then({s with threads:=cY s t λx=>{x with atomic:=false}},0)
 else if k=16 then({s with locks:=cg s (ig w o) λx=>{x with owner:=-1},threads:=cY s t λx=>{x with status:=3,cond:=o}},0)
 else if k=17 then({s with locks:=cg s (ig w o) λx=>{x with owner:=t},threads:=cY s t λx=>{x with status:=2,cond:=0}},0)
 else if k=18 then({s with threads:=eR s.threads o wake},cH s.threads o wake)
 else if k=19 then({s with threads:=Bo s o},(aG s.threads o s.threads.length).length)
 else if k=20 then({s with threads:=cY s o λx=>{x with status:=1}},0)
 else if k=22 then({s with done:=s.done.set o.toNat true},0)
 else(s,0)
theorem kS{s:SyncD}{t:Int}{f:ThrD->ThrD}{r:List AV}(h:r=(f (aR s t)).enc):(s.threads.map ThrD.enc).set (0+t.toNat) r=(cY s t f).map ThrD.enc:=by rw[h,Tm,cY,To]
theorem oW{s:SyncD}{t:Int}{f:LockD->LockD}{r:List AV}(h:r=(f (aF s t)).enc):(s.locks.map LockD.enc).set (0+t.toNat) r=(cg s t f).map LockD.enc:=by rw[h,Tm,cg,To]
theorem lS{s:SyncD}{t:Int}(h:inB t s.threads.length=true):(s.threads.map ThrD.enc)[0+t.toNat]? =some (aR s t).enc:=by rw[Tm];exact bQ h
theorem sj{s:SyncD}{t:Int}(h:inB t s.locks.length=true):(s.locks.map LockD.enc)[0+t.toNat]? =some (aF s t).enc:=by rw[Tm];exact bQ h
theorem sn{bl n bt m:Nat}{tx:Int}{dv:AV}(h:dv.one=true):([.sl bl 0 n,.Uf tx,dv,.sl bt 0 m]:List AV).all AV.one=true:=by show(true&&(true&&(dv.one&&(true&&true))))=true;rw[h];rfl
theorem ue(T:List ThrD)(c wake:Int):(eR T c wake).length=T.length:=by unfold eR fh;split<;>simp
theorem JO{α:Type}{l:List α}{i:Nat}{x y:α}(h:l[i]? =some y):(l.set i x)[i]? =some x:=by have:=(Tf.1 h).1;simp[this]
section
variable (w:aI) (s:SyncD) (t o wake:Int) (b7 b12 bl bt:Nat)
def Fh(R:SH):SH:=(bl,⟨2,s.locks.map LockD.enc⟩)::(bt,⟨3,s.threads.map ThrD.enc⟩)::(b12,⟨4,[[.nils,.Uf 0,.nils,.nils]]⟩)::(b7,⟨4,[s.enc]⟩)::R
def GZ(k:Int)(Q:R)(dv:AV)(L:SH):Prop:=mh Q (.Uf k) (.Uf o) (.Uf wake) (.ptr b7 0 0) (.pptr [[.Uf t]] 0 0) (.ptr b12 0 0) (.pptr [w.enc] 0 0) (.agg [.sl bl 0 s.locks.length,.Uf s.tx,dv,.sl bt 0 s.threads.length]) L
def nJ(k:Int)(R:SH)(dv:AV)(Q:AV->SH->Prop):Prop:=∀L:SH,Fz L (.sl bl 0 s.locks.length) (.lst ((bG w s t k o wake).1.locks.map LockD.enc))->Fz L (.sl bt 0 s.threads.length) (.lst ((bG w s t k o wake).1.threads.map ThrD.enc))->(∀p∈R,p∈L)->
 Q (.tup [.agg [.sl bl 0 s.locks.length,.Uf (bG w s t k o wake).1.tx,dv,.sl bt 0 s.threads.length],.Uf (bG w s t k o wake).2,.bool true]) L
variable (R:SH) (dv:AV) (hone:dv.one=true) (Q:AV->SH->Prop) (hf:wi w s) (ht:inB t s.threads.length=true) (hnd:(Fh s b7 b12 bl bt R).names.Nodup)
include hone hf ht hnd
theorem Qu(k:Int)(N:allowedS w k o=true)(O:k=1\/k=2\/k=3\/k=4\/k=5\/k=12\/k=13\/k=14\/k=15\/k=20\/k=21\/k=23\/k=6\/k=7\/k=10\/k=11)(D:nJ w s t o wake bl bt k R dv Q):GZ w s t o wake b7 b12 bl bt k Q dv (Fh s b7 b12 bl bt R):=by
 unfold GZ;refine vw ?_;simp only[SH.names,Fh,Sx,Tc,SB,not_or]at hnd;obtain⟨⟨n1,n2,n3,n4⟩,⟨n5,n6,n7⟩,⟨n8,n9⟩,n10,n11⟩:=hnd;unfold Fh;have hy:=lS ht;obtain⟨t0,t1⟩:=av.1 ht;have B:k=20->inB o s.threads.length=true:=λh=>by subst h;rw[hf.threads];simpa[allowedS]using N
 have u:k=6\/k=7\/k=10\/k=11->inB o s.locks.length=true:=λh=>by rw[hf.locks];rcases h with rfl|rfl|rfl|rfl<;>(simp[allowedS]at N;exact N.1)
 have G:∀S:Int,([.sl bl 0 s.locks.length,.Uf S,dv,.sl bt 0 s.threads.length]:List AV).all AV.one=true:=λS=>sn hone
 unfold nJ bG at D;clear N;by_cases Y:k=6\/k=7\/k=10\/k=11
 .have j:=u Y;have hx:=sj j;obtain⟨o0,o1⟩:=av.1 j;clear B u O hf;rcases Y with rfl|rfl|rfl|rfl
  all_goals
   simp only[Int.reduceEq,Int.reduceNeg,if_true,if_false,or_self,or_true,true_or,or_false,false_or,reduceIte,reduceCtorEq]at D
   repeat' (first|refine st ?_|refine a8 rp rfl rfl (G _) rfl ?_|refine sb λM E=>?_|refine s2 (λh=>?_) λh=>?_|fail)
   exact D _ (Fz.sls mm (oW rfl) Ud (by simp[cg])) (Fz.sls mm rfl Ud rfl) (λp hp=>by simp only[SB];simp[hp])
 by_cases Z:k=20
 .have j:=B Z;subst Z;have hx:=lS j;obtain⟨o0,o1⟩:=av.1 j;clear B u O hf;simp only[Int.reduceEq,Int.reduceNeg,if_true,if_false,or_self,or_true,true_or,or_false,false_or,reduceIte,reduceCtorEq]at D
  repeat' (first|refine st ?_|refine a8 rp rfl rfl (G _) rfl ?_|refine sb λM E=>?_|refine s2 (λh=>?_) λh=>?_|fail)
  exact D _ (Fz.sls mm rfl Ud rfl) (Fz.sls mm (kS rfl) Ud (by simp[cY])) (λp hp=>by simp only[SB];simp[hp])
 clear B u hf;rcases O with rfl|rfl|rfl|rfl|rfl|rfl|rfl|rfl|rfl|rfl|rfl|rfl|h
 all_goals try (exfalso;omega)
 all_goals
  simp only[Int.reduceEq,Int.reduceNeg,if_true,if_false,or_self,or_true,true_or,or_false,false_or,reduceIte,reduceCtorEq]at D
  repeat' (first|refine st ?_|refine a8 rp rfl rfl (G _) rfl ?_|refine sb λM E=>?_|refine s2 (λh=>?_) λh=>?_|fail)
  first
   |exact D _ (Fz.sls mm rfl Ud rfl) (Fz.sls mm (kS rfl) Ud (by simp[cY])) (λp hp=>by simp only[SB];simp[hp])
   |exact D _ (Fz.sls mm rfl Ud rfl) (Fz.sls mm rfl Ud rfl) (λp hp=>by simp only[SB];simp[hp])
theorem Qv(k:Int)(O:allowedS w k o=true)(N:k=16\/k=17)(u:nJ w s t o wake bl bt k R dv Q):GZ w s t o wake b7 b12 bl bt k Q dv (Fh s b7 b12 bl bt R):=by
 unfold GZ;refine vw ?_;simp only[SH.names,Fh,Sx,Tc,SB,not_or]at hnd;obtain⟨⟨n1,n2,n3,n4⟩,⟨n5,n6,n7⟩,⟨n8,n9⟩,n10,n11⟩:=hnd;unfold Fh;have hy:=lS ht;obtain⟨t0,t1⟩:=av.1 ht;have B:inB o w.conds.length=true:=by rcases N with rfl|rfl<;>simpa[allowedS]using O
 have M:=Bi hf B;have hx:=sj M;obtain⟨Z,Y⟩:=av.1 M;have hcx:=bQ (f:=bR.enc) B;obtain⟨c0,c1⟩:=av.1 B;unfold ig at hx Z Y;have D:∀E:Int,([.sl bl 0 s.locks.length,.Uf E,dv,.sl bt 0 s.threads.length]:List AV).all AV.one=true:=λE=>sn hone
 have j:∀v,((s.threads.map ThrD.enc).set (0+t.toNat) ((aR s t).enc.set 0 v))[0+t.toNat]? =some ((aR s t).enc.set 0 v):=λv=>JO hy
 have hy3:=j (.Uf 3);have hy4:=j (.Uf 2);clear j;unfold nJ bG ig at u;clear O hf;rcases N with rfl|rfl
 all_goals
  simp only[Int.reduceEq,Int.reduceNeg,if_true,if_false,or_self,or_true,true_or,or_false,false_or,reduceIte,reduceCtorEq]at u
  repeat' (first|refine st ?_|refine a8 rp rfl rfl (D _) rfl ?_|refine sb λS G=>?_|refine s2 (λh=>?_) λh=>?_|fail)
  exact u _ (Fz.sls mm (oW rfl) Ud (by simp[cg])) (Fz.sls mm (by rw[List.set_set];exact kS rfl) Ud (by simp[cY])) (λp hp=>by simp only[SB];simp[hp])
theorem Qw(k:Int)(M:k=18\/k=19)(E:s.threads.length<2^40)(u:nJ w s t o wake bl bt k R dv Q):GZ w s t o wake b7 b12 bl bt k Q dv (Fh s b7 b12 bl bt R):=by
 unfold GZ;refine vw ?_;simp only[SH.names,Fh,Sx,Tc,SB,not_or]at hnd;obtain⟨⟨n1,n2,n3,n4⟩,⟨Z,Y,S⟩,⟨O,N⟩,n10,n11⟩:=hnd;have j:∀B:Int,([.sl bl 0 s.locks.length,.Uf B,dv,.sl bt 0 s.threads.length]:List AV).all AV.one=true:=λB=>sn hone
 unfold Fh;unfold nJ bG at u;rcases M with rfl|rfl
 all_goals
  simp only[Int.reduceEq,Int.reduceNeg,if_true,if_false,or_self,or_true,true_or,or_false,false_or,reduceIte,reduceCtorEq]at u
  repeat' (first|refine st ?_|refine a8 rp rfl rfl (j _) rfl ?_|((with_reducible refine bb 119 ?_);(refine fE (HU _ _ _ bt s.threads o wake E (j _)) rp ?_;rintro _ _ ⟨rfl,rfl⟩))|((with_reducible refine bb 120 ?_);(refine fE (Ci _ _ _ bt s.threads o E (j _)) rp ?_;rintro _ _ ⟨rfl,rfl⟩))|refine sb λG D=>?_|refine s2 (λh=>?_) λh=>?_|fail)
  exact u _ (Fz.sls mm rfl Ud rfl) (Fz.sls mm rfl Ud (by first|exact(ue _ _ _).symm|simp[Bo,cB])) (λp hp=>by simp only[SB,SC];simp[hp])
def Nk(bd:Nat)(Q:AV->SH->Prop):Prop:=∀(L:SH),Fz L (.sl bl 0 s.locks.length) (.lst (s.locks.map LockD.enc))->Fz L (.sl bt 0 s.threads.length) (.lst (s.threads.map ThrD.enc))->Fz L (.sl bd 0 s.done.length) (.lst ((s.done.set o.toNat true).map aB))->
 Q (.tup [.agg [.sl bl 0 s.locks.length,.Uf s.tx,.sl bd 0 s.done.length,.sl bt 0 s.threads.length],.Uf 0,.bool true]) L
omit hone hnd in
theorem N7(j:Nat)(hnd:(Fh s b7 b12 bl bt [(j,⟨1,s.done.map aB⟩)]).names.Nodup)(G:allowedS w 22 o=true)(E:Nk s o bl bt j Q):GZ w s t o wake b7 b12 bl bt 22 Q (.sl j 0 s.done.length) (Fh s b7 b12 bl bt [(j,⟨1,s.done.map aB⟩)]):=by
 unfold GZ Fh;refine vw ?_;have B:inB o s.done.length=true:=by rw[hf.done];simpa[allowedS]using G
 obtain⟨N,M⟩:=av.1 B;have O:(s.done.map aB)[0+o.toNat]? =some (aB (s.done.getD o.toNat default)):=by rw[Tm];exact bQ B
 repeat' (first|refine st ?_|refine sb λD u=>?_|refine s2 (λh=>?_) λh=>?_|fail)
 refine E _ (Fz.sls mm rfl Ud rfl) (Fz.sls mm rfl Ud rfl) (Fz.sls mm ?_ Ud Ud);rw[To,Tm];rfl
end
end
section
theorem D1{K:SH}{bl:Nat}{rows:List (List AV)}{u:List LockD}{n:Nat}(Z:(bl,⟨2,rows⟩)∈K)(Y:n=u.length)(hl:rows.length=u.length)
  (h:∀(j:Nat) (r:List AV) (x:LockD),rows[j]? =some r->u[j]? =some x->∃a,r=[.Uf x.owner,a]/\Fz K a (.lst (x.readers.map ah))):Fz K (.sl bl 0 n) (.lst (u.map LockD.enc)):=by
 subst Y;rcases Ts u.length with N|N
 .have:u=[]:=Tp.1 N;subst this;exact .sl0 bl 0
 .have get:∀(j:Nat) (r D:List AV),rows[0+j]? =some r->(u.map LockD.enc)[j]? =some D->∃x:LockD,u[j]? =some x/\D=x.enc/\∃a,r=[.Uf x.owner,a]/\Fz K a (.lst (x.readers.map ah)):=λj r D E B=>by
   rw[Tm]at E;rw[SJ]at B;cases G:u[j]? with
   |none=>rw[G]at B;cases B
   |some x=>rw[G]at B;cases B;exact⟨x,rfl,rfl,h j r x E G⟩
  refine .sl bl 0 _ ⟨2,rows⟩ _ Z Ud N Ud (by simp;omega) (λj r D E B=>?_) (λj r D q a a2 E B M O=>?_)
  .obtain⟨x,_,rfl,a,rfl,_⟩:=get j r D E B;rfl
  .obtain⟨x,_,rfl,a',rfl,S⟩:=get j r D E B
   match q with
   |0=>cases M;cases O;exact .refl _
   |1=>cases M;cases O;exact S
   |q+2=>simp at M
theorem enc_row(x:LockD){K:SH}:∃a,x.enc=[.Uf x.owner,a]/\Fz K a (.lst (x.readers.map ah)):=⟨_,rfl,.refl _⟩
theorem G1{K:SH}{s:SyncD}{o:Int}{ro:Option Nat}{f:LockD->LockD}{a:AV}(hl:inB o s.locks.length=true)(M:∀x,(f x).owner=x.owner)(N:Fz K a (.lst ((f (aF s o)).readers.map ah))):
  ∀(j:Nat) (r:List AV) (x:LockD),((bZ o.toNat ro s.locks).set (0+o.toNat) [.Uf (aF s o).owner,a])[j]? =some r->(cg s o f)[j]? =some x->∃a,r=[.Uf x.owner,a]/\Fz K a (.lst (x.readers.map ah)):=by
 intro j r x B u;obtain⟨S,O⟩:=av.1 hl;have D:o.toNat<s.locks.length:=by omega
 unfold cg at u;rw[Tm]at B;by_cases G:o.toNat=j
 .subst G;rw[List.getElem?_set_self (by rw[cu];exact D)]at B;rw[List.getElem?_set_self D]at u;cases B;cases u;exact⟨a,by rw[M],N⟩
 .rw[List.getElem?_set_ne G]at B u;have E:j<s.locks.length:=(Tf.1 u).1;rw[fP _ _ _ _ E]at B;rw[mt E]at u;cases B;cases u;unfold ml;rw[if_neg (λe=>G e.symm)];exact enc_row _
theorem D2{s:SyncD}{o:Int}{ro:Option Nat}(hl:inB o s.locks.length=true):(bZ o.toNat ro s.locks)[0+o.toNat]? =some [.Uf (aF s o).owner,aj ro (aF s o).readers.length]:=by
 obtain⟨B,u⟩:=av.1 hl;have j:o.toNat<s.locks.length:=by omega
 rw[Tm,fP _ _ _ _ j];unfold ml;rw[if_pos rfl];simp[aF,j]
section
variable (w:aI) (s:SyncD) (t o wake:Int) (b7 b12 bl bt:Nat)
def JP(ro:Option Nat)(R:SH):SH:=(bl,⟨2,bZ o.toNat ro s.locks⟩)::(bt,⟨3,s.threads.map ThrD.enc⟩)::(b12,⟨4,[[.nils,.Uf 0,.nils,.nils]]⟩)::(b7,⟨4,[s.enc]⟩)::(ab ro 1 ((aF s o).readers.map ah)++R)
variable (R:SH) (dv:AV) (hone:dv.one=true) (Q:AV->SH->Prop) (hl:inB o s.locks.length=true) (hrd:(aF s o).readers.length<2^40)
include hone hl hrd
theorem Qx(B:Nat)(j:(JP s o b7 b12 bl bt (some B) R).names.Nodup)(D:nJ w s t o wake bl bt 9 R dv Q):GZ w s t o wake b7 b12 bl bt 9 Q dv (JP s o b7 b12 bl bt (some B) R):=by
 unfold GZ;refine vw ?_;unfold nJ bG at D;simp only[Int.reduceEq,Int.reduceNeg,if_true,if_false,or_self,or_true,true_or,or_false,false_or,reduceIte,reduceCtorEq]at D;simp only[SH.names,JP,ab,Sx,Tc,SB,not_or,TF,Tu]at j;obtain⟨⟨n1,n2,n3,n4,n12⟩,⟨n5,n6,n7,n13⟩,⟨n8,n9,n14⟩,⟨Z,Y⟩,n10,n11⟩:=j;have E:∀N:Int,([.sl bl 0 s.locks.length,.Uf N,dv,.sl bt 0 s.threads.length]:List AV).all AV.one=true:=λN=>sn hone
 obtain⟨o0,o1⟩:=av.1 hl;have hx:=D2 (ro:=some B) hl;have u:=zZ 118 [.pptr [[.Uf t]] 0 0] (λx=>decide (x=t)) (HW t 0 []) B (aF s o).readers Ua;unfold JP;simp only[ab,TF,Tu]
 repeat' (first|refine st ?_|refine a8 rp rfl rfl (E _) rfl ?_|((with_reducible refine eh 117 ?_);(refine r9 u rp (by(simp only[rm,rc,rz,W.free,cF,↓reduceIte,Nat.reduceEqDiff,af,fk,T1,Tb,Th,not_false_eq_true,implies_true,and_true,true_and,and_self,SO,reduceCtorEq,forall_const,false_implies,Sz,forall_eq,Ta,Tu,SB,or_false,false_or,forall_eq_or_imp,not_or])<;>(repeat' constructor)<;>first|assumption|(exact Ne.symm Ub)|(intro e_;subst e_;simp[SH.names]at *;done)) ?_;rintro _ _ ⟨R',rfl,rfl,M,G⟩))|refine sb λS O=>?_|refine s2 (λh=>?_) λh=>?_|fail)
 refine D _ (D1 rp (by simp[cg]) (by simp[cg,cu]) (G1 hl (λ_=>rfl) ?_)) (Fz.sls rp rfl Ud rfl) (λp hp=>by simp only[SB,SC];simp[hp]);rw[<-xV M];exact Fz.rows (x:=⟨1,R'.map ah⟩) rp Ud (by simp[G];exact TP _ _)
theorem Qy(ro:Option Nat)(N:ro=none->(aF s o).readers=[])(E:(JP s o b7 b12 bl bt ro R).names.Nodup)(O:nJ w s t o wake bl bt 8 R dv Q):GZ w s t o wake b7 b12 bl bt 8 Q dv (JP s o b7 b12 bl bt ro R):=by
 unfold GZ;refine vw ?_;unfold nJ bG at O;simp only[Int.reduceEq,Int.reduceNeg,if_true,if_false,or_self,or_true,true_or,or_false,false_or,reduceIte,reduceCtorEq]at O;simp only[SH.names,JP,Sx,Tc,SB,not_or]at E;obtain⟨⟨n1,n2,n3,n4⟩,⟨n5,n6,n7⟩,⟨n8,n9⟩,n10,n11⟩:=E;have S:∀tx:Int,([.sl bl 0 s.locks.length,.Uf tx,dv,.sl bt 0 s.threads.length]:List AV).all AV.one=true:=λtx=>sn hone
 obtain⟨o0,o1⟩:=av.1 hl;have hx:=D2 (ro:=ro) hl;have B:∀j,ac Tryz.prog 115 [.sl j 0 ((aF s o).readers.length+1)] [(j,⟨1,(aF s o).readers.map ah++[[.Uf t]]⟩)] λv L=>v=.tup []/\L=[(j,⟨1,(tX ((aF s o).readers++[t])).map ah⟩)]:=λj=>by have:=GV j ((aF s o).readers++[t]) (by simp;omega);rw[SD,LT]at this;exact this
 have D:∀j,ac Tryz.prog 116 [.sl j 0 ((aF s o).readers.length+1)] [(j,⟨1,(tX ((aF s o).readers++[t])).map ah⟩)] λv L=>∃G:List Int,v=.sl j 0 (si (aF s o).readers t).length/\L=[(j,⟨1,G.map ah⟩)]/\G.take (si (aF s o).readers t).length=si (aF s o).readers t/\(si (aF s o).readers t).length<=G.length:=λj=>by
  have:=xW j (tX ((aF s o).readers++[t])) (by rw[oV];simp;omega);rw[oV,SD]at this;refine this.mono λv L ⟨h1,h2⟩=>⟨_,h1,h2,?_,?_⟩
  .exact List.take_left' rfl
  .simp[si]
 unfold JP
 repeat' (first|refine st ?_|refine a8 rp rfl rfl (S _) rfl ?_|(refine DK [_,_,_,_] Ud (λe=>by rw[N e];rfl) rfl (T8 0) (by simp;omega) (by simp;omega) rfl ?_;intro M u;simp only[SB,Th,or_false,forall_eq_or_imp,forall_eq]at u;obtain⟨q1,q2,q3,q4⟩:=u)|((with_reducible refine bb 115 ?_);(refine fE (B _) rp ?_;rintro _ _ ⟨rfl,rfl⟩))|((with_reducible refine eh 116 ?_);(refine r9 (D _) rp (by(simp only[rm,rc,rz,W.free,cF,↓reduceIte,Nat.reduceEqDiff,af,fk,T1,Tb,Th,not_false_eq_true,implies_true,and_true,true_and,and_self,SO,reduceCtorEq,forall_const,false_implies,Sz,forall_eq,Ta,Tu,SB,or_false,false_or,forall_eq_or_imp,not_or])<;>(repeat' constructor)<;>first|assumption|(exact Ne.symm Ub)|(intro e_;subst e_;simp[SH.names]at *;done)) ?_;rintro _ _ ⟨G,rfl,rfl,Z,Y⟩))|refine sb λM u=>?_|refine s2 (λh=>?_) λh=>?_|fail)
 refine O _ (D1 rp (by simp[cg]) (by simp[cg,cu]) (G1 hl (λ_=>rfl) ?_)) (Fz.sls rp rfl Ud rfl) (λp hp=>by simp only[SB,SC];simp[hp]);rw[<-xV Z];exact Fz.rows (x:=⟨1,G.map ah⟩) rp Ud (by simp;exact Y)
end
end
section
def G2:SyncD:=⟨[],0,[],[]⟩
def dE(w:aI)(s:SyncD)(t k o wake:Int):SyncD×Int×Bool:=if aE w s t k o then((bG w s t k o wake).1,(bG w s t k o wake).2,true)else(G2,0,false)
def JQ(r:SyncD×Int×Bool):AV:=.tup [.agg r.1.enc,.Uf r.2.1,.bool r.2.2]
theorem Ck(ro:Option Nat)(u:List LockD):bZ u.length ro u=u.map LockD.enc:=by
 apply TH;intro i;rcases Fn i u.length with j|j
 .rw[fP _ _ _ _ j,ml,if_neg Ua];simp[j]
 .rw[LE (by rw[cu];exact j),LE (by simpa using j)]
section
variable (s:SyncD) (h1:s.locks.length<2^40) (h2:s.done.length<=140737488351232) (h3:s.threads.length<2^40) (hrd:∀l∈s.locks,l.readers.length<2^40) (hne:s.threads≠[])
include h1 h2 h3 hrd hne
theorem D3:ac Tryz.prog 114 [.agg s.enc] [] λv L=>∃u bt j,v=.agg [.sl u 0 s.locks.length,.Uf s.tx,aJ j s.done.length,.sl bt 0 s.threads.length]/\L=(u,⟨2,s.locks.map LockD.enc⟩)::(ab j 1 (s.done.map aB)++[(bt,⟨3,s.threads.map ThrD.enc⟩)])/\(j=none->s.done=[]):=by
 refine(DZ s s.locks.length h1 h2 h3 hrd).mono ?_;rintro v L ⟨u,M,j,E,rfl,rfl,D,B,G⟩;cases E with
 |none=>exact absurd (B rfl) hne
 |some bt=>exact⟨u,bt,j,rfl,by rw[Ck,C6,if_neg (Nat.lt_irrefl _)];rfl,D⟩
theorem JR(o:Int)(N:inB o s.locks.length=true):ac Tryz.prog 114 [.agg s.enc] [] λv L=>∃B bt ro j,v=.agg [.sl B 0 s.locks.length,.Uf s.tx,aJ j s.done.length,.sl bt 0 s.threads.length]/\L=(B,⟨2,bZ o.toNat ro s.locks⟩)::(ab ro 1 ((aF s o).readers.map ah)++(ab j 1 (s.done.map aB)++[(bt,⟨3,s.threads.map ThrD.enc⟩)]))/\(j=none->s.done=[])/\(ro=none->(aF s o).readers=[]):=by
 obtain⟨S,O⟩:=av.1 N;have u:o.toNat<s.locks.length:=by omega
 refine(DZ s o.toNat h1 h2 h3 hrd).mono ?_;rintro v L ⟨B,ro,j,M,rfl,rfl,G,E,D⟩;cases M with
 |none=>exact absurd (E rfl) hne
 |some bt=>exact⟨B,bt,ro,j,rfl,by rw[C6,if_pos u];rfl,G,λe=>D e u⟩
end
theorem JS{α:Type}(a b c d:α)(X:List α):((a::(X++[b]))++[c,d]).Perm (a::b::c::d::X):=by refine List.Perm.cons a ?_;show((X++[b])++[c,d]).Perm _;rw[S3];exact SG (l₁:=X) (l₂:=[b,c,d])
theorem N8{α:Type}(a b c d:α)(X Y:List α):((a::(X++(Y++[b])))++[c,d]).Perm (a::b::c::d::(X++Y)):=by rw[<-S3];exact JS a b c d (X++Y)
theorem gL(j:Option Nat)(n:Nat):(aJ j n).one=true:=by cases j<;>rfl
theorem L4{s:SyncD}{j:Option Nat}(u:j=none->s.done=[]){L:SH}(B:∀p∈ab j 1 (s.done.map aB),p∈L):Fz L (aJ j s.done.length) (.lst (s.done.map aB)):=by
 cases j with
 |none=>rw[u rfl];exact .refl _
 |some D=>exact Fz.sls (B _ (Sz.2 rfl)) rfl Ud rfl
structure D4(w:aI)(s:SyncD):Prop where
 conds:w.conds.length<2^40
 locks:s.locks.length<2^40
 done:s.done.length<=140737488351232
 threads:s.threads.length<2^40
 rd:∀l∈s.locks,l.readers.length<2^40
section
variable (w:aI) (s:SyncD) (t k o wake:Int)
def wj(v:AV)(L:SH):Prop:=∃v2 L2,az [v] L [v2] L2/\v2=JQ (dE w s t k o wake)/\L2=[]
theorem FN(j:k≠22):(bG w s t k o wake).1.done=s.done:=by
 unfold bG
 repeat' refine iteInduction (motive:=λp:SyncD×Int=>p.1.done=s.done) (λ_=>?_) (λ_=>?_)
 all_goals first
  |rfl
  |(exfalso;omega)
theorem Qz(B:aE w s t k o=true)(D:k≠22)(N bt:Nat)(j:Option Nat)(u:j=none->s.done=[]):nJ w s t o wake N bt k (ab j 1 (s.done.map aB)) (aJ j s.done.length) (wj w s t k o wake):=by intro L M G E;refine⟨_,[],az.all (Fz.tups (.cons (Fz.aggs (.cons M (.cons (.refl _) (.cons (L4 u E) (.cons G .nil))))) (.cons (.refl _) (.cons (.refl _) .nil)))),?_,rfl⟩;unfold dE;rw[if_pos B];show _=AV.tup [.agg (bG w s t k o wake).1.enc,.Uf _,.bool true];unfold SyncD.enc;rw[FN w s t k o wake D]
theorem QA(j:aE w s t 22 o=true)(E bt G:Nat):Nk s o E bt G (wj w s t 22 o wake):=by intro L D B u;refine⟨_,[],az.all (Fz.tups (.cons (Fz.aggs (.cons D (.cons (.refl _) (.cons u (.cons B .nil))))) (.cons (.refl _) (.cons (.refl _) .nil)))),?_,rfl⟩;unfold dE;rw[if_pos j];rfl
def G3(b7 b12:Nat):Prop:=W.callM Tryz.prog 114 [.agg s.enc] [(b12,⟨4,[[.nils,.Uf 0,.nils,.nils]]⟩),(b7,⟨4,[s.enc]⟩)] (mh (wj w s t k o wake) (.Uf k) (.Uf o) (.Uf wake) (.ptr b7 0 0) (.pptr [[.Uf t]] 0 0) (.ptr b12 0 0) (.pptr [w.enc] 0 0))
theorem JT(hs:D4 w s)(hen:aE w s t k o=true)(N u:Nat):
  G3 w s t k o wake N u:=by
 have Y:=hen;unfold aE at Y;simp only[SN]at Y;obtain⟨⟨⟨hfi,hth⟩,hal⟩,hkd⟩:=Y;have hf:=fO.1 hfi;have ht:inB t s.threads.length=true:=by rw[hf.threads];exact hth
 obtain⟨t0,t1⟩:=av.1 ht;have hne:s.threads≠[]:=λe=>by rw[e]at t1;simp at t1;omega
 have M:(∀D B E,(E=none->s.done=[])->(Fh s N u D B (ab E 1 (s.done.map aB))).names.Nodup->GZ w s t o wake N u D B k (wj w s t k o wake) (aJ E s.done.length) (Fh s N u D B (ab E 1 (s.done.map aB))))->
   G3 w s t k o wake N u:=λh=>by
  refine w6 (D3 s hs.locks hs.done hs.threads hs.rd hne) ?_;rintro v K ⟨D,B,E,rfl,rfl,j⟩;exact⟨Fh s N u D B (ab E 1 (s.done.map aB)),JS _ _ _ _ _,h D B E j⟩
 have readers:inB o s.locks.length=true->(∀D B Z E,(E=none->s.done=[])->(Z=none->(aF s o).readers=[])->(JP s o N u D B Z (ab E 1 (s.done.map aB))).names.Nodup->GZ w s t o wake N u D B k (wj w s t k o wake) (aJ E s.done.length) (JP s o N u D B Z (ab E 1 (s.done.map aB))))->
   G3 w s t k o wake N u:=λS h=>by
  refine w6 (JR s hs.locks hs.done hs.threads hs.rd hne o S) ?_;rintro v K ⟨D,B,Z,E,rfl,rfl,j,O⟩;exact⟨JP s o N u D B Z (ab E 1 (s.done.map aB)),N8 _ _ _ _ _ _,h D B Z E j O⟩
 have hrl:∀o,inB o s.locks.length=true->(aF s o).readers.length<2^40:=λo h=>by
  obtain⟨o0,o1⟩:=av.1 h;have hlt:o.toNat<s.locks.length:=by omega
  unfold aF;rw[show s.locks.getD o.toNat default=s.locks[o.toNat] by simp[hlt]];exact hs.rd _ (Sy hlt)
 by_cases h22:k=22
 .subst h22;refine M λD B E j G=>?_
  cases E with
  |none=>
   have S:inB o s.done.length=true:=by rw[hf.done];simpa[allowedS]using hal
   obtain⟨o0,o1⟩:=av.1 S;rw[j rfl]at o1;simp at o1;omega
  |some bd=>exact N7 w s t o wake N u D B _ hf ht bd G hal (QA w s t o wake hen D B bd)
 have e1:=λD B E j=>Qz w s t k o wake hen h22 D B E j
 by_cases h8:k=8
 .subst h8;have S:inB o s.locks.length=true:=by rw[hf.locks];simp[allowedS]at hal;exact hal.1
  exact readers S λD B Z E j O G=>Qy w s t o wake N u D B _ _ (gL _ _) _ S (hrl o S) Z O G (e1 D B E j)
 by_cases h9:k=9
 .subst h9;have S:inB o s.locks.length=true:=by rw[hf.locks];simp[allowedS]at hal;exact hal.1
  refine readers S λD B Z E j O G=>?_
  cases Z with
  |none=>
   have hc:(aF s o).readers.contains t=true:=by have:=hkd;simp[cJ]at this;simpa using this.2
   rw[O rfl]at hc;cases hc
  |some br=>exact Qx w s t o wake N u D B _ _ (gL _ _) _ S (hrl o S) br G (e1 D B E j)
 by_cases h16:k=16\/k=17
 .exact M λD B E j G=>Qv w s t o wake N u D B _ _ (gL _ _) _ hf ht G k hal h16 (e1 D B E j)
 by_cases h18:k=18\/k=19
 .exact M λD B E j G=>Qw w s t o wake N u D B _ _ (gL _ _) _ hf ht G k h18 hs.threads (e1 D B E j)
 rcases kinds k with hk|hk
 .rw[eQ hk]at hal;cases hal
 .exact M λD B E j G=>Qu w s t o wake N u D B _ _ (gL _ _) _ hf ht G k hal Ua (e1 D B E j)
theorem JU(G:D4 w s):aq Tryz.prog 73 [.agg w.enc,.agg s.enc,.Uf t,.Uf k,.Uf o,.Uf wake] (JQ (dE w s t k o wake)):=by
 refine ac.fz (vT _ _ _ _ _ _ _ _ ?_);show nB _ _ _ _ _ _ _ (wj w s t k o wake);refine vw ?_;have M:w.conds.length<2^62:=by have:=G.conds;omega
 have D:=yi w s t k o M G.rd;have j:=JT w s t k o wake G;unfold G3 at j;have fin:aE w s t k o=false->∀L,wj w s t k o wake (.tup [.agg [.nils,.Uf 0,.nils,.nils],.Uf 0,.bool false]) L:=λN L=>by refine⟨_,[],az.all (Fz.tups (.cons (Fz.aggs (.cons .nils (.cons (.refl _) (.cons .nils (.cons .nils .nil))))) (.cons (.refl _) (.cons (.refl _) .nil)))),?_,rfl⟩;unfold dE;rw[N];rfl
 generalize wj w s t k o wake=Q at *;cases u:aE w s t k o with
 |false=>
  rw[u]at D;have O:(!false)=true:=rfl;have fin:=fin u;clear j
  repeat' (first|refine st ?_|(refine pf 47 ?_;refine pm (D) ?_)|refine sb λE B=>?_|refine s2 (λh=>?_) λh=>?_|fail)
  exact fin _
 |true=>
  rw[u]at D;have j:=j u;clear fin
  repeat' (first|exact j _ _|refine st ?_|(refine pf 47 ?_;refine pm (D) ?_)|refine sb λE B=>?_|refine s2 (λh=>?_) λh=>?_|fail)
end
end
def ii(d:Array Int)(G:∀i j,i<j->j<d.size->d[i]!<=d[j]!):∀m,m<=d.size->
  (Lib.compactUpTo d m).Pairwise (·<·)/\(∀x∈Lib.compactUpTo d m,∃j,j<m/\x=d[j]!)/\(∀j,j<m->d[j]!∈Lib.compactUpTo d m)
 |0,_=>⟨by simp[Lib.compactUpTo],by simp[Lib.compactUpTo],by intro j D;omega⟩
 | m+1,hm=>by
  obtain⟨Y,h2,M⟩:=ii d G m Ua;rw[Lib.compactUpTo_succ];by_cases B:Lib.keeps d m=true
  .rw[if_pos B];refine⟨?_,?_,?_⟩
   .rw[List.pairwise_append];refine⟨Y,Ud,?_⟩;intro x u y N;obtain⟨j,D,rfl⟩:=h2 x u;simp at N;subst N;have hle:=G j m D Ua;have Z:d[j]!≠d[m]! :=by
     intro O;have E:0<m:=by omega
     have h4:d[m]!≠d[m-1]! :=by intro S;rw[Lib.keeps_neg E S]at B;cases B
     have S:d[j]!<=d[m-1]! :=by
      rcases Fn j (m-1)with h|h
      .exact G j (m-1) h Ua
      .rw[show j=m-1 from by omega];exact Int.le_refl _
     have h6:d[m-1]!<=d[m]! :=G (m-1) m Ua Ua;exact h4 Ua
    omega
   .intro x u;rw[SC]at u;rcases u with u|u
    .obtain⟨j,D,e⟩:=h2 x u;exact⟨j,Ua,e⟩
    .simp at u;exact⟨m,Ua,u⟩
   .intro j D;rw[SC];rcases Fn j m with h|h
    .exact .inl (M j h)
    .rw[show j=m from by omega];exact .inr Ud
  .rw[if_neg B,Ta];have E:0<m:=by
    rcases Ts m with h|h
    .subst h;exact absurd (Lib.keeps_lt_one d 0 Ua) B
    .exact h
   have O:d[m]! =d[m-1]! :=by apply Classical.byContradiction;intro h;exact B (Lib.keeps_pos h)
   refine⟨Y,λx u=>?_,λj D=>?_⟩
   .obtain⟨j,D,e⟩:=h2 x u;exact⟨j,Ua,e⟩
   .rcases Fn j m with h|h
    .exact M j h
    .rw[show j=m from by omega,O];exact M (m-1) Ua
def L5(l:List Int)(j:Nat)(u:j<l.length):l.toArray[j]! =l[j]:=by rw[getElem!_pos _ _ (by simpa using u)];simp
def yj(l:List Int):∀i j,i<j->j<(tX l).toArray.size->(tX l).toArray[i]!<=(tX l).toArray[j]! :=by
 intro i j B D;have u:j<(tX l).length:=by simpa using D
 rw[L5 _ i Ua,L5 _ j u];have hp:(tX l).Pairwise (λx y=>(decide (x<=y))=true):=List.pairwise_mergeSort (λa b c=>by simp;omega) (λa b=>by simp;omega) l;have:=(List.pairwise_iff_getElem.1 hp) i j Ua u B;simpa using this
def z7(l:List Int):List Int:=Lib.compact (tX l)
def Cl(l:List Int)(x:Int):x∈z7 l↔x∈l:=by
 obtain⟨M,G,E⟩:=ii (tX l).toArray (yj _) (tX l).length Ud;have D:∀y,y∈tX l↔y∈l:=λy=>by simp[tX,List.mem_mergeSort]
 unfold z7 Lib.compact;constructor
 .intro B;obtain⟨j,u,rfl⟩:=G x B;rw[L5 _ j u];exact(D _).1 (Sy _)
 .intro B;obtain⟨j,u,rfl⟩:=TG ((D x).2 B);rw[<-L5 _ j u];exact E j u
def G4(l:List Int):(z7 l).Pairwise (·<·):=
 (ii (tX l).toArray (yj _) (tX l).length Ud).1
def L6{a b:List Int}(B:a.Pairwise (·<·))(u:b.Pairwise (·<·))(h:∀x,x∈a↔x∈b):a=b:=by
 have E:a.Nodup:=B.imp λj=>by omega
 have D:b.Nodup:=u.imp λj=>by omega
 exact List.Perm.eq_of_pairwise (le:=λx y:Int=>x<y) (λx y _ _ M G=>by omega) B u ((List.perm_ext_iff_of_nodup E D).2 h)
structure aC where
 pc:Int
 regs:List Int
 taint:List (List Int)
 ev:Int
def bz(l:List Int):List AV:=[.lst (l.map ah)]
def aC.enc(s:aC):List AV:=[.Uf s.pc,.lst (s.regs.map ah),.lst (s.taint.map bz),.Uf s.ev]
def aC.zero:aC:=⟨0,[],[],0⟩
def aC.has(s:aC)(r:Int):Bool:=inB r s.regs.length
def aC.reg(s:aC)(r:Int):Int:=s.regs.getD r.toNat 0
def aC.tnt(s:aC)(r:Int):List Int:=s.taint.getD r.toNat []
def aC.put(s:aC)(a v:Int)(t:List Int):aC:=⟨IntKind.i64.wrap (s.pc+1),s.regs.set a.toNat v,s.taint.set a.toNat t,s.ev⟩
def JV(n:Int):Int:=if n<1\/100<n then 0 else n
def QB(n a:Int):x9 (JV n) a=x9 n a:=by
 unfold JV;split
 .rename_i h;unfold x9;simp only[show¬(0:Int)=4 by omega,show¬(0:Int)=5 by omega,show¬n=4 by omega,show¬n=5 by omega,if_false]
 .rfl
def N9(n a b:Int):iI (JV n) a b=iI n a b:=by
 unfold JV;split
 .rename_i h;unfold iI;rw[if_neg Ua,if_neg Ua,if_neg Ua,if_neg Ua,if_neg Ua,if_neg Ua,if_neg Ua,if_neg Ua,if_neg Ua,if_neg Ua,if_neg Ua,if_neg Ua,if_neg Ua];rw[if_neg Ua,if_neg Ua,if_neg Ua,if_neg Ua,if_neg Ua,if_neg Ua,if_neg Ua,if_neg Ua,if_neg Ua,if_neg Ua,if_neg Ua,if_neg Ua,if_neg Ua]
 .rfl
def aL(i:aS)(s:aC):Option aC:=
 if i.op=1 then(if s.has i.a then some (s.put i.a i.n [])else none)else
 if i.op=2 then(if s.has i.a&&s.has i.b then some (s.put i.a (s.reg i.b) (s.tnt i.b))else none)else
 if i.op=3 then(if s.has i.a&&s.has i.b&&(x9 i.n (s.reg i.b)).2 then some (s.put i.a (x9 i.n (s.reg i.b)).1 (s.tnt i.b))else none)else
 if i.op=4 then(if s.has i.a&&s.has i.b&&s.has i.c&&(iI i.n (s.reg i.b) (s.reg i.c)).2 then some (s.put i.a (iI i.n (s.reg i.b) (s.reg i.c)).1 (z7 (s.tnt i.b++s.tnt i.c)))else none)else
 some {s with pc:=i.a}
def dQ(ins:List aS):Nat->aC->aC×Bool
 |0,s=>if inB s.pc ins.length then(if(ins.getD s.pc.toNat default).op<1\/5<(ins.getD s.pc.toNat default).op then(s,true)else(aC.zero,false))else(aC.zero,false)
 | k+1,s=>if inB s.pc ins.length then(if(ins.getD s.pc.toNat default).op<1\/5<(ins.getD s.pc.toNat default).op then(s,true)else
   match aL (ins.getD s.pc.toNat default) s with
   |none=>(aC.zero,false)
   |some s2=>dQ ins k s2)else(aC.zero,false)
def aT(c:eb)(s:aC):aC×Bool:=
 if(s.regs.length:Int)=c.regs/\(s.taint.length:Int)=c.regs then dQ c.ins c.ins.length s else(aC.zero,false)
def lT(p:aC×Bool):AV:=.tup [.agg p.1.enc,.bool p.2]
structure gX(U:List Int)(s:aC):Prop where
 len:s.taint.length=s.regs.length
 small:s.regs.length<2^40
 short:∀l∈s.taint,l.length<=2^30
 sub:∀l∈s.taint,∀x∈l,x∈U
def Bp:∀{l U:List Int},l.Nodup->(∀x∈l,x∈U)->l.length<=U.length
 |[],U,_,_=>by simp
 | x::l,U,hn,hs=>by
  have u:x∈U:=hs x Ud;have B:=Tc.1 hn;have:=Bp (l:=l) (U:=U.erase x) B.2 λy j=>(List.mem_erase_of_ne (by rintro rfl;exact B.1 j)).2 (hs y (by simp[j]))
  rw[List.length_erase_of_mem u]at this;have:=List.length_pos_of_mem u;simp only[SQ];omega
def Bq{U l:List Int}(h:∀x∈l,x∈U):(z7 l).length<=U.length:=by have j:(z7 l).Nodup:=(G4 l).imp (λ{a b} (h:a<b)=>by omega);exact Bp j λx u=>h x ((Cl l x).1 u)
def gX.tnt{U:List Int}{s:aC}(h:gX U s)(r:Int):(s.tnt r).length<=2^30/\∀x∈s.tnt r,x∈U:=by
 unfold aC.tnt;rw[Tz];cases j:s.taint[r.toNat]? with
 |none=>simp
 |some l=>exact⟨h.short l (S8 j),h.sub l (S8 j)⟩
def gX.put{U:List Int}{s:aC}(h:gX U s)(a v:Int){t:List Int}(u:t.length<=2^30)(h2:∀x∈t,x∈U):gX U (s.put a v t):=by
 refine⟨by simp[aC.put,h.len],by simpa[aC.put]using h.small,λl j=>?_,λl j=>?_⟩
 .rcases TU j with g|g
  .exact h.short l g
  .rw[g];exact u
 .rcases TU j with g|g
  .exact h.sub l g
  .rw[g];exact h2
def gX.step{U:List Int}(D:U.length<=2^30){s s2:aC}{i:aS}(h:gX U s)(j:aL i s=some s2):gX U s2:=by
 unfold aL at j;split at j
 .split at j
  .cases j;exact h.put _ _ Ud Ud
  .cases j
 .split at j
  .split at j
   .cases j;exact h.put _ _ (h.tnt _).1 (h.tnt _).2
   .cases j
  .split at j
   .split at j
    .cases j;exact h.put _ _ (h.tnt _).1 (h.tnt _).2
    .cases j
   .split at j
    .split at j
     .cases j;have B:∀x∈s.tnt i.b++s.tnt i.c,x∈U:=λx u=>by
       rcases SC.1 u with g|g
       .exact(h.tnt _).2 x g
       .exact(h.tnt _).2 x g
      exact h.put _ _ (SK (Bq B) D) λx u=>B x ((Cl _ _).1 u)
     .cases j
    .cases j;exact⟨h.len,h.small,h.short,h.sub⟩
end Go.Proofs.YtbofdbhnbodbiaaGreatDoor.Am
