/- A part of the proof; the statement is proved in the last part. -/
import Derived.Test.YtbofdbhnbodbiaaGreatDoorQuj
set_option linter.all false
set_option maxRecDepth 100000
set_option maxHeartbeats 20000000
namespace Go.Proofs.YtbofdbhnbodbiaaGreatDoor.Am
section
def c9(s:SyncD)(i:Int)(f:ThrD->ThrD):List ThrD:=s.threads.set i.toNat (f (aR s i))
def cf(s:SyncD)(i:Int)(f:LockD->LockD):List LockD:=s.locks.set i.toNat (f (aH s i))
def BL(s:SyncD)(o:Int):List ThrD:=cO s.threads o s.threads.length
def sJ(l:List Int)(t:Int):List Int:=Lib.compact (uq (l++[t]))
def bG(w:aG)(s:SyncD)(t k o wake:Int):SyncD×Int:=
 if k=1 then({s with threads:=c9 s t λx=>{x with status:=2}},0)
 else if k=2 then({s with threads:=c9 s t λx=>{x with status:=5}},0)
 else if k=6\/k=10 then({s with locks:=cf s o λx=>{x with owner:=t}},0)
 else if k=7\/k=11 then({s with locks:=cf s o λx=>{x with owner:=-1}},0)
 else if k=8 then({s with locks:=cf s o λx=>{x with readers:=sJ x.readers t}},0)
 else if k=9 then({s with locks:=cf s o λx=>{x with readers:=x.readers.filter λy=>!decide (y=t)}},0)
 else if k=12 then({s with tx:=t},0)
 else if k=13 then({s with tx:=-1},0)
 else if k=14 then({s with threads:=c9 s t λx=>{x with atomic:=true}},0)
 else if k=15 then({s with threads:=c9 s t λx=>{x with atomic:=false}},0)
 else if k=16 then({s with locks:=cf s (iu w o) λx=>{x with owner:=-1},threads:=c9 s t λx=>{x with status:=3,cond:=o}},0)
 else if k=17 then({s with locks:=cf s (iu w o) λx=>{x with owner:=t},threads:=c9 s t λx=>{x with status:=2,cond:=0}},0)
 else if k=18 then({s with threads:=eX s.threads o wake},cI s.threads o wake)
 else if k=19 then({s with threads:=BL s o},(aI s.threads o s.threads.length).length)
 else if k=20 then({s with threads:=c9 s o λx=>{x with status:=1}},0)
 else if k=22 then({s with done:=s.done.set o.toNat true},0)
 else(s,0)
theorem ld{s:SyncD}{t:Int}{f:ThrD->ThrD}{r:List AV}(h:r=(f (aR s t)).enc):(s.threads.map ThrD.enc).set (0+t.toNat) r=(c9 s t f).map ThrD.enc:=by rw[h,Uc,c9,Ue]
theorem ph{s:SyncD}{t:Int}{f:LockD->LockD}{r:List AV}(h:r=(f (aH s t)).enc):(s.locks.map LockD.enc).set (0+t.toNat) r=(cf s t f).map LockD.enc:=by rw[h,Uc,cf,Ue]
theorem l7{s:SyncD}{t:Int}(h:inB t s.threads.length=true):(s.threads.map ThrD.enc)[0+t.toNat]? =some (aR s t).enc:=by rw[Uc];exact bS h
theorem sK{s:SyncD}{t:Int}(h:inB t s.locks.length=true):(s.locks.map LockD.enc)[0+t.toNat]? =some (aH s t).enc:=by rw[Uc];exact bS h
theorem sL{bl n bt m:Nat}{tx:Int}{dv:AV}(h:dv.one=true):([.sl bl 0 n,.U1 tx,dv,.sl bt 0 m]:List AV).all AV.one=true:=by show(true&&(true&&(dv.one&&(true&&true))))=true;rw[h];rfl
theorem uy(T:List ThrD)(c wake:Int):(eX T c wake).length=T.length:=by unfold eX fq;split<;>simp
theorem Kl{α:Type}{l:List α}{i:Nat}{x y:α}(h:l[i]? =some y):(l.set i x)[i]? =some x:=by have:=(T4.1 h).1;simp[this]
section
variable (w:aG) (s:SyncD) (t o wake:Int) (b7 b12 bl bt:Nat)
def FM(R:SH):SH:=(bl,⟨2,s.locks.map LockD.enc⟩)::(bt,⟨3,s.threads.map ThrD.enc⟩)::(b12,⟨4,[[.nils,.U1 0,.nils,.nils]]⟩)::(b7,⟨4,[s.enc]⟩)::R
def HA(k:Int)(Q:R)(dv:AV)(L:SH):Prop:=mz Q (.U1 k) (.U1 o) (.U1 wake) (.ptr b7 0 0) (.pptr [[.U1 t]] 0 0) (.ptr b12 0 0) (.pptr [w.enc] 0 0) (.agg [.sl bl 0 s.locks.length,.U1 s.tx,dv,.sl bt 0 s.threads.length]) L
def nU(k:Int)(R:SH)(dv:AV)(Q:AV->SH->Prop):Prop:=∀L:SH,Fz L (.sl bl 0 s.locks.length) (.lst ((bG w s t k o wake).1.locks.map LockD.enc))->Fz L (.sl bt 0 s.threads.length) (.lst ((bG w s t k o wake).1.threads.map ThrD.enc))->(∀p∈R,p∈L)->
 Q (.tup [.agg [.sl bl 0 s.locks.length,.U1 (bG w s t k o wake).1.tx,dv,.sl bt 0 s.threads.length],.U1 (bG w s t k o wake).2,.bool true]) L
variable (R:SH) (dv:AV) (hone:dv.one=true) (Q:AV->SH->Prop) (hf:wK w s) (ht:inB t s.threads.length=true) (hnd:(FM s b7 b12 bl bt R).names.Nodup)
include hone hf ht hnd
theorem Rd(k:Int)(N:allowedS w k o=true)(O:k=1\/k=2\/k=3\/k=4\/k=5\/k=12\/k=13\/k=14\/k=15\/k=20\/k=21\/k=23\/k=6\/k=7\/k=10\/k=11)(D:nU w s t o wake bl bt k R dv Q):HA w s t o wake b7 b12 bl bt k Q dv (FM s b7 b12 bl bt R):=by
 unfold HA;refine vw ?_;simp only[SH.names,FM,Tj,T2,To,not_or]at hnd;obtain⟨⟨n1,n2,n3,n4⟩,⟨n5,n6,n7⟩,⟨n8,n9⟩,n10,n11⟩:=hnd;unfold FM;have hy:=l7 ht;obtain⟨t0,t1⟩:=av.1 ht;have B:k=20->inB o s.threads.length=true:=λh=>by subst h;rw[hf.threads];simpa[allowedS]using N
 have u:k=6\/k=7\/k=10\/k=11->inB o s.locks.length=true:=λh=>by rw[hf.locks];rcases h with rfl|rfl|rfl|rfl<;>(simp[allowedS]at N;exact N.1)
 have G:∀S:Int,([.sl bl 0 s.locks.length,.U1 S,dv,.sl bt 0 s.threads.length]:List AV).all AV.one=true:=λS=>sL hone
 unfold nU bG at D;clear N;by_cases Y:k=6\/k=7\/k=10\/k=11
 .have j:=u Y;have hx:=sK j;obtain⟨o0,o1⟩:=av.1 j;clear B u O hf;rcases Y with rfl|rfl|rfl|rfl
  all_goals
   simp only[Int.reduceEq,Int.reduceNeg,if_true,if_false,or_self,or_true,true_or,or_false,false_or,reduceIte,reduceCtorEq]at D
   repeat' (first|refine st ?_|refine a8 rp rfl rfl (G _) rfl ?_|refine sb λM E=>?_|refine s2 (λh=>?_) λh=>?_|fail)
   exact D _ (Fz.sls mm (ph rfl) UZ (by simp[cf])) (Fz.sls mm rfl UZ rfl) (λp hp=>by simp only[To];simp[hp])
 by_cases Z:k=20
 .have j:=B Z;subst Z;have hx:=l7 j;obtain⟨o0,o1⟩:=av.1 j;clear B u O hf;simp only[Int.reduceEq,Int.reduceNeg,if_true,if_false,or_self,or_true,true_or,or_false,false_or,reduceIte,reduceCtorEq]at D
  repeat' (first|refine st ?_|refine a8 rp rfl rfl (G _) rfl ?_|refine sb λM E=>?_|refine s2 (λh=>?_) λh=>?_|fail)
  exact D _ (Fz.sls mm rfl UZ rfl) (Fz.sls mm (ld rfl) UZ (by simp[c9])) (λp hp=>by simp only[To];simp[hp])
 clear B u hf;rcases O with rfl|rfl|rfl|rfl|rfl|rfl|rfl|rfl|rfl|rfl|rfl|rfl|h
 all_goals try (exfalso;omega)
 all_goals
  simp only[Int.reduceEq,Int.reduceNeg,if_true,if_false,or_self,or_true,true_or,or_false,false_or,reduceIte,reduceCtorEq]at D
  repeat' (first|refine st ?_|refine a8 rp rfl rfl (G _) rfl ?_|refine sb λM E=>?_|refine s2 (λh=>?_) λh=>?_|fail)
  first
   |exact D _ (Fz.sls mm rfl UZ rfl) (Fz.sls mm (ld rfl) UZ (by simp[c9])) (λp hp=>by simp only[To];simp[hp])
   |exact D _ (Fz.sls mm rfl UZ rfl) (Fz.sls mm rfl UZ rfl) (λp hp=>by simp only[To];simp[hp])
theorem Re(k:Int)(O:allowedS w k o=true)(N:k=16\/k=17)(u:nU w s t o wake bl bt k R dv Q):HA w s t o wake b7 b12 bl bt k Q dv (FM s b7 b12 bl bt R):=by
 unfold HA;refine vw ?_;simp only[SH.names,FM,Tj,T2,To,not_or]at hnd;obtain⟨⟨n1,n2,n3,n4⟩,⟨n5,n6,n7⟩,⟨n8,n9⟩,n10,n11⟩:=hnd;unfold FM;have hy:=l7 ht;obtain⟨t0,t1⟩:=av.1 ht;have B:inB o w.conds.length=true:=by rcases N with rfl|rfl<;>simpa[allowedS]using O
 have M:=BF hf B;have hx:=sK M;obtain⟨Z,Y⟩:=av.1 M;have hcx:=bS (f:=bP.enc) B;obtain⟨c0,c1⟩:=av.1 B;unfold iu at hx Z Y;have D:∀E:Int,([.sl bl 0 s.locks.length,.U1 E,dv,.sl bt 0 s.threads.length]:List AV).all AV.one=true:=λE=>sL hone
 have j:∀v,((s.threads.map ThrD.enc).set (0+t.toNat) ((aR s t).enc.set 0 v))[0+t.toNat]? =some ((aR s t).enc.set 0 v):=λv=>Kl hy
 have hy3:=j (.U1 3);have hy4:=j (.U1 2);clear j;unfold nU bG iu at u;clear O hf;rcases N with rfl|rfl
 all_goals
  simp only[Int.reduceEq,Int.reduceNeg,if_true,if_false,or_self,or_true,true_or,or_false,false_or,reduceIte,reduceCtorEq]at u
  repeat' (first|refine st ?_|refine a8 rp rfl rfl (D _) rfl ?_|refine sb λS G=>?_|refine s2 (λh=>?_) λh=>?_|fail)
  exact u _ (Fz.sls mm (ph rfl) UZ (by simp[cf])) (Fz.sls mm (by rw[List.set_set];exact ld rfl) UZ (by simp[c9])) (λp hp=>by simp only[To];simp[hp])
theorem Rf(k:Int)(M:k=18\/k=19)(E:s.threads.length<2^40)(u:nU w s t o wake bl bt k R dv Q):HA w s t o wake b7 b12 bl bt k Q dv (FM s b7 b12 bl bt R):=by
 unfold HA;refine vw ?_;simp only[SH.names,FM,Tj,T2,To,not_or]at hnd;obtain⟨⟨n1,n2,n3,n4⟩,⟨Z,Y,S⟩,⟨O,N⟩,n10,n11⟩:=hnd;have j:∀B:Int,([.sl bl 0 s.locks.length,.U1 B,dv,.sl bt 0 s.threads.length]:List AV).all AV.one=true:=λB=>sL hone
 unfold FM;unfold nU bG at u;rcases M with rfl|rfl
 all_goals
  simp only[Int.reduceEq,Int.reduceNeg,if_true,if_false,or_self,or_true,true_or,or_false,false_or,reduceIte,reduceCtorEq]at u
  repeat' (first|refine st ?_|refine a8 rp rfl rfl (j _) rfl ?_|((with_reducible refine bb 119 ?_);(refine fM (Io _ _ _ bt s.threads o wake E (j _)) rp ?_;rintro _ _ ⟨rfl,rfl⟩))|((with_reducible refine bb 120 ?_);(refine fM (CK _ _ _ bt s.threads o E (j _)) rp ?_;rintro _ _ ⟨rfl,rfl⟩))|refine sb λG D=>?_|refine s2 (λh=>?_) λh=>?_|fail)
  exact u _ (Fz.sls mm rfl UZ rfl) (Fz.sls mm rfl UZ (by first|exact(uy _ _ _).symm|simp[BL,cB])) (λp hp=>by simp only[To,Tn];simp[hp])
def NV(bd:Nat)(Q:AV->SH->Prop):Prop:=∀(L:SH),Fz L (.sl bl 0 s.locks.length) (.lst (s.locks.map LockD.enc))->Fz L (.sl bt 0 s.threads.length) (.lst (s.threads.map ThrD.enc))->Fz L (.sl bd 0 s.done.length) (.lst ((s.done.set o.toNat true).map aB))->
 Q (.tup [.agg [.sl bl 0 s.locks.length,.U1 s.tx,.sl bd 0 s.done.length,.sl bt 0 s.threads.length],.U1 0,.bool true]) L
omit hone hnd in
theorem OL(j:Nat)(hnd:(FM s b7 b12 bl bt [(j,⟨1,s.done.map aB⟩)]).names.Nodup)(G:allowedS w 22 o=true)(E:NV s o bl bt j Q):HA w s t o wake b7 b12 bl bt 22 Q (.sl j 0 s.done.length) (FM s b7 b12 bl bt [(j,⟨1,s.done.map aB⟩)]):=by
 unfold HA FM;refine vw ?_;have B:inB o s.done.length=true:=by rw[hf.done];simpa[allowedS]using G
 obtain⟨N,M⟩:=av.1 B;have O:(s.done.map aB)[0+o.toNat]? =some (aB (s.done.getD o.toNat default)):=by rw[Uc];exact bS B
 repeat' (first|refine st ?_|refine sb λD u=>?_|refine s2 (λh=>?_) λh=>?_|fail)
 refine E _ (Fz.sls mm rfl UZ rfl) (Fz.sls mm rfl UZ rfl) (Fz.sls mm ?_ UZ UZ);rw[Ue,Uc];rfl
end
end
section
theorem Ez{K:SH}{bl:Nat}{rows:List (List AV)}{u:List LockD}{n:Nat}(Z:(bl,⟨2,rows⟩)∈K)(Y:n=u.length)(hl:rows.length=u.length)
  (h:∀(j:Nat) (r:List AV) (x:LockD),rows[j]? =some r->u[j]? =some x->∃a,r=[.U1 x.owner,a]/\Fz K a (.lst (x.readers.map ah))):Fz K (.sl bl 0 n) (.lst (u.map LockD.enc)):=by
 subst Y;rcases Ug u.length with N|N
 .have:u=[]:=T9.1 N;subst this;exact .sl0 bl 0
 .have get:∀(j:Nat) (r D:List AV),rows[0+j]? =some r->(u.map LockD.enc)[j]? =some D->∃x:LockD,u[j]? =some x/\D=x.enc/\∃a,r=[.U1 x.owner,a]/\Fz K a (.lst (x.readers.map ah)):=λj r D E B=>by
   rw[Uc]at E;rw[Tw]at B;cases G:u[j]? with
   |none=>rw[G]at B;cases B
   |some x=>rw[G]at B;cases B;exact⟨x,rfl,rfl,h j r x E G⟩
  refine .sl bl 0 _ ⟨2,rows⟩ _ Z UZ N UZ (by simp;omega) (λj r D E B=>?_) (λj r D q a a2 E B M O=>?_)
  .obtain⟨x,_,rfl,a,rfl,_⟩:=get j r D E B;rfl
  .obtain⟨x,_,rfl,a',rfl,S⟩:=get j r D E B
   match q with
   |0=>cases M;cases O;exact .refl _
   |1=>cases M;cases O;exact S
   |q+2=>simp at M
theorem enc_row(x:LockD){K:SH}:∃a,x.enc=[.U1 x.owner,a]/\Fz K a (.lst (x.readers.map ah)):=⟨_,rfl,.refl _⟩
theorem HB{K:SH}{s:SyncD}{o:Int}{ro:Option Nat}{f:LockD->LockD}{a:AV}(hl:inB o s.locks.length=true)(M:∀x,(f x).owner=x.owner)(N:Fz K a (.lst ((f (aH s o)).readers.map ah))):
  ∀(j:Nat) (r:List AV) (x:LockD),((bZ o.toNat ro s.locks).set (0+o.toNat) [.U1 (aH s o).owner,a])[j]? =some r->(cf s o f)[j]? =some x->∃a,r=[.U1 x.owner,a]/\Fz K a (.lst (x.readers.map ah)):=by
 intro j r x B u;obtain⟨S,O⟩:=av.1 hl;have D:o.toNat<s.locks.length:=by omega
 unfold cf at u;rw[Uc]at B;by_cases G:o.toNat=j
 .subst G;rw[List.getElem?_set_self (by rw[cm];exact D)]at B;rw[List.getElem?_set_self D]at u;cases B;cases u;exact⟨a,by rw[M],N⟩
 .rw[List.getElem?_set_ne G]at B u;have E:j<s.locks.length:=(T4.1 u).1;rw[fX _ _ _ _ E]at B;rw[Td E]at u;cases B;cases u;unfold mC;rw[if_neg (λe=>G e.symm)];exact enc_row _
theorem EA{s:SyncD}{o:Int}{ro:Option Nat}(hl:inB o s.locks.length=true):(bZ o.toNat ro s.locks)[0+o.toNat]? =some [.U1 (aH s o).owner,aj ro (aH s o).readers.length]:=by
 obtain⟨B,u⟩:=av.1 hl;have j:o.toNat<s.locks.length:=by omega
 rw[Uc,fX _ _ _ _ j];unfold mC;rw[if_pos rfl];simp[aH,j]
section
variable (w:aG) (s:SyncD) (t o wake:Int) (b7 b12 bl bt:Nat)
def Km(ro:Option Nat)(R:SH):SH:=(bl,⟨2,bZ o.toNat ro s.locks⟩)::(bt,⟨3,s.threads.map ThrD.enc⟩)::(b12,⟨4,[[.nils,.U1 0,.nils,.nils]]⟩)::(b7,⟨4,[s.enc]⟩)::(ab ro 1 ((aH s o).readers.map ah)++R)
variable (R:SH) (dv:AV) (hone:dv.one=true) (Q:AV->SH->Prop) (hl:inB o s.locks.length=true) (hrd:(aH s o).readers.length<2^40)
include hone hl hrd
theorem Rg(B:Nat)(j:(Km s o b7 b12 bl bt (some B) R).names.Nodup)(D:nU w s t o wake bl bt 9 R dv Q):HA w s t o wake b7 b12 bl bt 9 Q dv (Km s o b7 b12 bl bt (some B) R):=by
 unfold HA;refine vw ?_;unfold nU bG at D;simp only[Int.reduceEq,Int.reduceNeg,if_true,if_false,or_self,or_true,true_or,or_false,false_or,reduceIte,reduceCtorEq]at D;simp only[SH.names,Km,ab,Tj,T2,To,not_or,Uq,Ui]at j;obtain⟨⟨n1,n2,n3,n4,n12⟩,⟨n5,n6,n7,n13⟩,⟨n8,n9,n14⟩,⟨Z,Y⟩,n10,n11⟩:=j;have E:∀N:Int,([.sl bl 0 s.locks.length,.U1 N,dv,.sl bt 0 s.threads.length]:List AV).all AV.one=true:=λN=>sL hone
 obtain⟨o0,o1⟩:=av.1 hl;have hx:=EA (ro:=some B) hl;have u:=Ap 118 [.pptr [[.U1 t]] 0 0] (λx=>decide (x=t)) (Iq t 0 []) B (aH s o).readers UW;unfold Km;simp only[ab,Uq,Ui]
 repeat' (first|refine st ?_|refine a8 rp rfl rfl (E _) rfl ?_|((with_reducible refine ew 117 ?_);(refine sD u rp (by(simp only[rm,rc,rz,W.free,cF,↓reduceIte,Nat.reduceEqDiff,af,fx,UN,T1,T6,not_false_eq_true,implies_true,and_true,true_and,and_self,Tz,reduceCtorEq,forall_const,false_implies,Tl,forall_eq,TZ,Ui,To,or_false,false_or,forall_eq_or_imp,not_or])<;>(repeat' constructor)<;>first|assumption|(exact Ne.symm UX)|(intro e_;subst e_;simp[SH.names]at *;done)) ?_;rintro _ _ ⟨R',rfl,rfl,M,G⟩))|refine sb λS O=>?_|refine s2 (λh=>?_) λh=>?_|fail)
 refine D _ (Ez rp (by simp[cf]) (by simp[cf,cm]) (HB hl (λ_=>rfl) ?_)) (Fz.sls rp rfl UZ rfl) (λp hp=>by simp only[To,Tn];simp[hp]);rw[<-yo M];exact Fz.rows (x:=⟨1,R'.map ah⟩) rp UZ (by simp[G];exact Ux _ _)
theorem Rh(ro:Option Nat)(N:ro=none->(aH s o).readers=[])(E:(Km s o b7 b12 bl bt ro R).names.Nodup)(O:nU w s t o wake bl bt 8 R dv Q):HA w s t o wake b7 b12 bl bt 8 Q dv (Km s o b7 b12 bl bt ro R):=by
 unfold HA;refine vw ?_;unfold nU bG at O;simp only[Int.reduceEq,Int.reduceNeg,if_true,if_false,or_self,or_true,true_or,or_false,false_or,reduceIte,reduceCtorEq]at O;simp only[SH.names,Km,Tj,T2,To,not_or]at E;obtain⟨⟨n1,n2,n3,n4⟩,⟨n5,n6,n7⟩,⟨n8,n9⟩,n10,n11⟩:=E;have S:∀tx:Int,([.sl bl 0 s.locks.length,.U1 tx,dv,.sl bt 0 s.threads.length]:List AV).all AV.one=true:=λtx=>sL hone
 obtain⟨o0,o1⟩:=av.1 hl;have hx:=EA (ro:=ro) hl;have B:∀j,ac Tryz.prog 115 [.sl j 0 ((aH s o).readers.length+1)] [(j,⟨1,(aH s o).readers.map ah++[[.U1 t]]⟩)] λv L=>v=.tup []/\L=[(j,⟨1,(uq ((aH s o).readers++[t])).map ah⟩)]:=λj=>by have:=Hv j ((aH s o).readers++[t]) (by simp;omega);rw[Tp,Ti]at this;exact this
 have D:∀j,ac Tryz.prog 116 [.sl j 0 ((aH s o).readers.length+1)] [(j,⟨1,(uq ((aH s o).readers++[t])).map ah⟩)] λv L=>∃G:List Int,v=.sl j 0 (sJ (aH s o).readers t).length/\L=[(j,⟨1,G.map ah⟩)]/\G.take (sJ (aH s o).readers t).length=sJ (aH s o).readers t/\(sJ (aH s o).readers t).length<=G.length:=λj=>by
  have:=yp j (uq ((aH s o).readers++[t])) (by rw[pg];simp;omega);rw[pg,Tp]at this;refine this.mono λv L ⟨h1,h2⟩=>⟨_,h1,h2,?_,?_⟩
  .exact List.take_left' rfl
  .simp[sJ]
 unfold Km
 repeat' (first|refine st ?_|refine a8 rp rfl rfl (S _) rfl ?_|(refine Eg [_,_,_,_] UZ (λe=>by rw[N e];rfl) rfl (UU 0) (by simp;omega) (by simp;omega) rfl ?_;intro M u;simp only[To,T6,or_false,forall_eq_or_imp,forall_eq]at u;obtain⟨q1,q2,q3,q4⟩:=u)|((with_reducible refine bb 115 ?_);(refine fM (B _) rp ?_;rintro _ _ ⟨rfl,rfl⟩))|((with_reducible refine ew 116 ?_);(refine sD (D _) rp (by(simp only[rm,rc,rz,W.free,cF,↓reduceIte,Nat.reduceEqDiff,af,fx,UN,T1,T6,not_false_eq_true,implies_true,and_true,true_and,and_self,Tz,reduceCtorEq,forall_const,false_implies,Tl,forall_eq,TZ,Ui,To,or_false,false_or,forall_eq_or_imp,not_or])<;>(repeat' constructor)<;>first|assumption|(exact Ne.symm UX)|(intro e_;subst e_;simp[SH.names]at *;done)) ?_;rintro _ _ ⟨G,rfl,rfl,Z,Y⟩))|refine sb λM u=>?_|refine s2 (λh=>?_) λh=>?_|fail)
 refine O _ (Ez rp (by simp[cf]) (by simp[cf,cm]) (HB hl (λ_=>rfl) ?_)) (Fz.sls rp rfl UZ rfl) (λp hp=>by simp only[To,Tn];simp[hp]);rw[<-yo Z];exact Fz.rows (x:=⟨1,G.map ah⟩) rp UZ (by simp;exact Y)
end
end
section
def EB:SyncD:=⟨[],0,[],[]⟩
def eg(w:aG)(s:SyncD)(t k o wake:Int):SyncD×Int×Bool:=if aJ w s t k o then((bG w s t k o wake).1,(bG w s t k o wake).2,true)else(EB,0,false)
def Ko(r:SyncD×Int×Bool):AV:=.tup [.agg r.1.enc,.U1 r.2.1,.bool r.2.2]
theorem CM(ro:Option Nat)(u:List LockD):bZ u.length ro u=u.map LockD.enc:=by
 apply Us;intro i;rcases Tf i u.length with j|j
 .rw[fX _ _ _ _ j,mC,if_neg UW];simp[j]
 .rw[Tg (by rw[cm];exact j),Tg (by simpa using j)]
section
variable (s:SyncD) (h1:s.locks.length<2^40) (h2:s.done.length<=140737488351232) (h3:s.threads.length<2^40) (hrd:∀l∈s.locks,l.readers.length<2^40) (hne:s.threads≠[])
include h1 h2 h3 hrd hne
theorem EC:ac Tryz.prog 114 [.agg s.enc] [] λv L=>∃u bt j,v=.agg [.sl u 0 s.locks.length,.U1 s.tx,aK j s.done.length,.sl bt 0 s.threads.length]/\L=(u,⟨2,s.locks.map LockD.enc⟩)::(ab j 1 (s.done.map aB)++[(bt,⟨3,s.threads.map ThrD.enc⟩)])/\(j=none->s.done=[]):=by
 refine(Ew s s.locks.length h1 h2 h3 hrd).mono ?_;rintro v L ⟨u,M,j,E,rfl,rfl,D,B,G⟩;cases E with
 |none=>exact absurd (B rfl) hne
 |some bt=>exact⟨u,bt,j,rfl,by rw[CM,DC,if_neg (Nat.lt_irrefl _)];rfl,D⟩
theorem Kq(o:Int)(N:inB o s.locks.length=true):ac Tryz.prog 114 [.agg s.enc] [] λv L=>∃B bt ro j,v=.agg [.sl B 0 s.locks.length,.U1 s.tx,aK j s.done.length,.sl bt 0 s.threads.length]/\L=(B,⟨2,bZ o.toNat ro s.locks⟩)::(ab ro 1 ((aH s o).readers.map ah)++(ab j 1 (s.done.map aB)++[(bt,⟨3,s.threads.map ThrD.enc⟩)]))/\(j=none->s.done=[])/\(ro=none->(aH s o).readers=[]):=by
 obtain⟨S,O⟩:=av.1 N;have u:o.toNat<s.locks.length:=by omega
 refine(Ew s o.toNat h1 h2 h3 hrd).mono ?_;rintro v L ⟨B,ro,j,M,rfl,rfl,G,E,D⟩;cases M with
 |none=>exact absurd (E rfl) hne
 |some bt=>exact⟨B,bt,ro,j,rfl,by rw[DC,if_pos u];rfl,G,λe=>D e u⟩
end
theorem Kr{α:Type}(a b c d:α)(X:List α):((a::(X++[b]))++[c,d]).Perm (a::b::c::d::X):=by refine List.Perm.cons a ?_;show((X++[b])++[c,d]).Perm _;rw[TS];exact Tt (l₁:=X) (l₂:=[b,c,d])
theorem OM{α:Type}(a b c d:α)(X Y:List α):((a::(X++(Y++[b])))++[c,d]).Perm (a::b::c::d::(X++Y)):=by rw[<-TS];exact Kr a b c d (X++Y)
theorem gQ(j:Option Nat)(n:Nat):(aK j n).one=true:=by cases j<;>rfl
theorem MC{s:SyncD}{j:Option Nat}(u:j=none->s.done=[]){L:SH}(B:∀p∈ab j 1 (s.done.map aB),p∈L):Fz L (aK j s.done.length) (.lst (s.done.map aB)):=by
 cases j with
 |none=>rw[u rfl];exact .refl _
 |some D=>exact Fz.sls (B _ (Tl.2 rfl)) rfl UZ rfl
structure ED(w:aG)(s:SyncD):Prop where
 conds:w.conds.length<2^40
 locks:s.locks.length<2^40
 done:s.done.length<=140737488351232
 threads:s.threads.length<2^40
 rd:∀l∈s.locks,l.readers.length<2^40
section
variable (w:aG) (s:SyncD) (t k o wake:Int)
def wL(v:AV)(L:SH):Prop:=∃v2 L2,az [v] L [v2] L2/\v2=Ko (eg w s t k o wake)/\L2=[]
theorem Ge(j:k≠22):(bG w s t k o wake).1.done=s.done:=by
 unfold bG
 repeat' refine iteInduction (motive:=λp:SyncD×Int=>p.1.done=s.done) (λ_=>?_) (λ_=>?_)
 all_goals first
  |rfl
  |(exfalso;omega)
theorem Ri(B:aJ w s t k o=true)(D:k≠22)(N bt:Nat)(j:Option Nat)(u:j=none->s.done=[]):nU w s t o wake N bt k (ab j 1 (s.done.map aB)) (aK j s.done.length) (wL w s t k o wake):=by intro L M G E;refine⟨_,[],az.all (Fz.tups (.cons (Fz.aggs (.cons M (.cons (.refl _) (.cons (MC u E) (.cons G .nil))))) (.cons (.refl _) (.cons (.refl _) .nil)))),?_,rfl⟩;unfold eg;rw[if_pos B];show _=AV.tup [.agg (bG w s t k o wake).1.enc,.U1 _,.bool true];unfold SyncD.enc;rw[Ge w s t k o wake D]
theorem Rj(j:aJ w s t 22 o=true)(E bt G:Nat):NV s o E bt G (wL w s t 22 o wake):=by intro L D B u;refine⟨_,[],az.all (Fz.tups (.cons (Fz.aggs (.cons D (.cons (.refl _) (.cons u (.cons B .nil))))) (.cons (.refl _) (.cons (.refl _) .nil)))),?_,rfl⟩;unfold eg;rw[if_pos j];rfl
def HC(b7 b12:Nat):Prop:=W.callM Tryz.prog 114 [.agg s.enc] [(b12,⟨4,[[.nils,.U1 0,.nils,.nils]]⟩),(b7,⟨4,[s.enc]⟩)] (mz (wL w s t k o wake) (.U1 k) (.U1 o) (.U1 wake) (.ptr b7 0 0) (.pptr [[.U1 t]] 0 0) (.ptr b12 0 0) (.pptr [w.enc] 0 0))
theorem Ks(hs:ED w s)(hen:aJ w s t k o=true)(N u:Nat):
  HC w s t k o wake N u:=by
 have Y:=hen;unfold aJ at Y;simp only[Ty]at Y;obtain⟨⟨⟨hfi,hth⟩,hal⟩,hkd⟩:=Y;have hf:=fW.1 hfi;have ht:inB t s.threads.length=true:=by rw[hf.threads];exact hth
 obtain⟨t0,t1⟩:=av.1 ht;have hne:s.threads≠[]:=λe=>by rw[e]at t1;simp at t1;omega
 have M:(∀D B E,(E=none->s.done=[])->(FM s N u D B (ab E 1 (s.done.map aB))).names.Nodup->HA w s t o wake N u D B k (wL w s t k o wake) (aK E s.done.length) (FM s N u D B (ab E 1 (s.done.map aB))))->
   HC w s t k o wake N u:=λh=>by
  refine xr (EC s hs.locks hs.done hs.threads hs.rd hne) ?_;rintro v K ⟨D,B,E,rfl,rfl,j⟩;exact⟨FM s N u D B (ab E 1 (s.done.map aB)),Kr _ _ _ _ _,h D B E j⟩
 have readers:inB o s.locks.length=true->(∀D B Z E,(E=none->s.done=[])->(Z=none->(aH s o).readers=[])->(Km s o N u D B Z (ab E 1 (s.done.map aB))).names.Nodup->HA w s t o wake N u D B k (wL w s t k o wake) (aK E s.done.length) (Km s o N u D B Z (ab E 1 (s.done.map aB))))->
   HC w s t k o wake N u:=λS h=>by
  refine xr (Kq s hs.locks hs.done hs.threads hs.rd hne o S) ?_;rintro v K ⟨D,B,Z,E,rfl,rfl,j,O⟩;exact⟨Km s o N u D B Z (ab E 1 (s.done.map aB)),OM _ _ _ _ _ _,h D B Z E j O⟩
 have hrl:∀o,inB o s.locks.length=true->(aH s o).readers.length<2^40:=λo h=>by
  obtain⟨o0,o1⟩:=av.1 h;have hlt:o.toNat<s.locks.length:=by omega
  unfold aH;rw[show s.locks.getD o.toNat default=s.locks[o.toNat] by simp[hlt]];exact hs.rd _ (Tk hlt)
 by_cases h22:k=22
 .subst h22;refine M λD B E j G=>?_
  cases E with
  |none=>
   have S:inB o s.done.length=true:=by rw[hf.done];simpa[allowedS]using hal
   obtain⟨o0,o1⟩:=av.1 S;rw[j rfl]at o1;simp at o1;omega
  |some bd=>exact OL w s t o wake N u D B _ hf ht bd G hal (Rj w s t o wake hen D B bd)
 have e1:=λD B E j=>Ri w s t k o wake hen h22 D B E j
 by_cases h8:k=8
 .subst h8;have S:inB o s.locks.length=true:=by rw[hf.locks];simp[allowedS]at hal;exact hal.1
  exact readers S λD B Z E j O G=>Rh w s t o wake N u D B _ _ (gQ _ _) _ S (hrl o S) Z O G (e1 D B E j)
 by_cases h9:k=9
 .subst h9;have S:inB o s.locks.length=true:=by rw[hf.locks];simp[allowedS]at hal;exact hal.1
  refine readers S λD B Z E j O G=>?_
  cases Z with
  |none=>
   have hc:(aH s o).readers.contains t=true:=by have:=hkd;simp[cL]at this;simpa using this.2
   rw[O rfl]at hc;cases hc
  |some br=>exact Rg w s t o wake N u D B _ _ (gQ _ _) _ S (hrl o S) br G (e1 D B E j)
 by_cases h16:k=16\/k=17
 .exact M λD B E j G=>Re w s t o wake N u D B _ _ (gQ _ _) _ hf ht G k hal h16 (e1 D B E j)
 by_cases h18:k=18\/k=19
 .exact M λD B E j G=>Rf w s t o wake N u D B _ _ (gQ _ _) _ hf ht G k h18 hs.threads (e1 D B E j)
 rcases kinds k with hk|hk
 .rw[eW hk]at hal;cases hal
 .exact M λD B E j G=>Rd w s t o wake N u D B _ _ (gQ _ _) _ hf ht G k hal UW (e1 D B E j)
theorem Kt(G:ED w s):aq Tryz.prog 73 [.agg w.enc,.agg s.enc,.U1 t,.U1 k,.U1 o,.U1 wake] (Ko (eg w s t k o wake)):=by
 refine ac.fz (wA _ _ _ _ _ _ _ _ ?_);show nM _ _ _ _ _ _ _ (wL w s t k o wake);refine vw ?_;have M:w.conds.length<2^62:=by have:=G.conds;omega
 have D:=Gd w s t k o M G.rd;have j:=Ks w s t k o wake G;unfold HC at j;have fin:aJ w s t k o=false->∀L,wL w s t k o wake (.tup [.agg [.nils,.U1 0,.nils,.nils],.U1 0,.bool false]) L:=λN L=>by refine⟨_,[],az.all (Fz.tups (.cons (Fz.aggs (.cons .nils (.cons (.refl _) (.cons .nils (.cons .nils .nil))))) (.cons (.refl _) (.cons (.refl _) .nil)))),?_,rfl⟩;unfold eg;rw[N];rfl
 generalize wL w s t k o wake=Q at *;cases u:aJ w s t k o with
 |false=>
  rw[u]at D;have O:(!false)=true:=rfl;have fin:=fin u;clear j
  repeat' (first|refine st ?_|(refine pf 47 ?_;refine pm (D) ?_)|refine sb λE B=>?_|refine s2 (λh=>?_) λh=>?_|fail)
  exact fin _
 |true=>
  rw[u]at D;have j:=j u;clear fin
  repeat' (first|exact j _ _|refine st ?_|(refine pf 47 ?_;refine pm (D) ?_)|refine sb λE B=>?_|refine s2 (λh=>?_) λh=>?_|fail)
end
end
def iv(d:Array Int)(G:∀i j,i<j->j<d.size->d[i]!<=d[j]!):∀m,m<=d.size->
  (Lib.compactUpTo d m).Pairwise (·<·)/\(∀x∈Lib.compactUpTo d m,∃j,j<m/\x=d[j]!)/\(∀j,j<m->d[j]!∈Lib.compactUpTo d m)
 |0,_=>⟨by simp[Lib.compactUpTo],by simp[Lib.compactUpTo],by intro j D;omega⟩
 | m+1,hm=>by
  obtain⟨Y,h2,M⟩:=iv d G m UW;rw[Lib.compactUpTo_succ];by_cases B:Lib.keeps d m=true
  .rw[if_pos B];refine⟨?_,?_,?_⟩
   .rw[List.pairwise_append];refine⟨Y,UZ,?_⟩;intro x u y N;obtain⟨j,D,rfl⟩:=h2 x u;simp at N;subst N;have hle:=G j m D UW;have Z:d[j]!≠d[m]! :=by
     intro O;have E:0<m:=by omega
     have h4:d[m]!≠d[m-1]! :=by intro S;rw[Lib.keeps_neg E S]at B;cases B
     have S:d[j]!<=d[m-1]! :=by
      rcases Tf j (m-1)with h|h
      .exact G j (m-1) h UW
      .rw[show j=m-1 from by omega];exact Int.le_refl _
     have h6:d[m-1]!<=d[m]! :=G (m-1) m UW UW;exact h4 UW
    omega
   .intro x u;rw[Tn]at u;rcases u with u|u
    .obtain⟨j,D,e⟩:=h2 x u;exact⟨j,UW,e⟩
    .simp at u;exact⟨m,UW,u⟩
   .intro j D;rw[Tn];rcases Tf j m with h|h
    .exact .inl (M j h)
    .rw[show j=m from by omega];exact .inr UZ
  .rw[if_neg B,TZ];have E:0<m:=by
    rcases Ug m with h|h
    .subst h;exact absurd (Lib.keeps_lt_one d 0 UW) B
    .exact h
   have O:d[m]! =d[m-1]! :=by apply Classical.byContradiction;intro h;exact B (Lib.keeps_pos h)
   refine⟨Y,λx u=>?_,λj D=>?_⟩
   .obtain⟨j,D,e⟩:=h2 x u;exact⟨j,UW,e⟩
   .rcases Tf j m with h|h
    .exact M j h
    .rw[show j=m from by omega,O];exact M (m-1) UW
def MD(l:List Int)(j:Nat)(u:j<l.length):l.toArray[j]! =l[j]:=by rw[getElem!_pos _ _ (by simpa using u)];simp
def yE(l:List Int):∀i j,i<j->j<(uq l).toArray.size->(uq l).toArray[i]!<=(uq l).toArray[j]! :=by
 intro i j B D;have u:j<(uq l).length:=by simpa using D
 rw[MD _ i UW,MD _ j u];have hp:(uq l).Pairwise (λx y=>(decide (x<=y))=true):=List.pairwise_mergeSort (λa b c=>by simp;omega) (λa b=>by simp;omega) l;have:=(List.pairwise_iff_getElem.1 hp) i j UW u B;simpa using this
def Aq(l:List Int):List Int:=Lib.compact (uq l)
def CN(l:List Int)(x:Int):x∈Aq l↔x∈l:=by
 obtain⟨M,G,E⟩:=iv (uq l).toArray (yE _) (uq l).length UZ;have D:∀y,y∈uq l↔y∈l:=λy=>by simp[uq,List.mem_mergeSort]
 unfold Aq Lib.compact;constructor
 .intro B;obtain⟨j,u,rfl⟩:=G x B;rw[MD _ j u];exact(D _).1 (Tk _)
 .intro B;obtain⟨j,u,rfl⟩:=Ur ((D x).2 B);rw[<-MD _ j u];exact E j u
def HD(l:List Int):(Aq l).Pairwise (·<·):=
 (iv (uq l).toArray (yE _) (uq l).length UZ).1
def ME{a b:List Int}(B:a.Pairwise (·<·))(u:b.Pairwise (·<·))(h:∀x,x∈a↔x∈b):a=b:=by
 have E:a.Nodup:=B.imp λj=>by omega
 have D:b.Nodup:=u.imp λj=>by omega
 exact List.Perm.eq_of_pairwise (le:=λx y:Int=>x<y) (λx y _ _ M G=>by omega) B u ((List.perm_ext_iff_of_nodup E D).2 h)
structure aD where
 pc:Int
 regs:List Int
 taint:List (List Int)
 ev:Int
def bC(l:List Int):List AV:=[.lst (l.map ah)]
def aD.enc(s:aD):List AV:=[.U1 s.pc,.lst (s.regs.map ah),.lst (s.taint.map bC),.U1 s.ev]
def aD.zero:aD:=⟨0,[],[],0⟩
def aD.has(s:aD)(r:Int):Bool:=inB r s.regs.length
def aD.reg(s:aD)(r:Int):Int:=s.regs.getD r.toNat 0
def aD.tnt(s:aD)(r:Int):List Int:=s.taint.getD r.toNat []
def aD.put(s:aD)(a v:Int)(t:List Int):aD:=⟨IntKind.i64.wrap (s.pc+1),s.regs.set a.toNat v,s.taint.set a.toNat t,s.ev⟩
def Ku(n:Int):Int:=if n<1\/100<n then 0 else n
def Rk(n a:Int):yw (Ku n) a=yw n a:=by
 unfold Ku;split
 .rename_i h;unfold yw;simp only[show¬(0:Int)=4 by omega,show¬(0:Int)=5 by omega,show¬n=4 by omega,show¬n=5 by omega,if_false]
 .rfl
def ON(n a b:Int):iQ (Ku n) a b=iQ n a b:=by
 unfold Ku;split
 .rename_i h;unfold iQ;rw[if_neg UW,if_neg UW,if_neg UW,if_neg UW,if_neg UW,if_neg UW,if_neg UW,if_neg UW,if_neg UW,if_neg UW,if_neg UW,if_neg UW,if_neg UW];rw[if_neg UW,if_neg UW,if_neg UW,if_neg UW,if_neg UW,if_neg UW,if_neg UW,if_neg UW,if_neg UW,if_neg UW,if_neg UW,if_neg UW,if_neg UW]
 .rfl
def aM(i:aT)(s:aD):Option aD:=
 if i.op=1 then(if s.has i.a then some (s.put i.a i.n [])else none)else
 if i.op=2 then(if s.has i.a&&s.has i.b then some (s.put i.a (s.reg i.b) (s.tnt i.b))else none)else
 if i.op=3 then(if s.has i.a&&s.has i.b&&(yw i.n (s.reg i.b)).2 then some (s.put i.a (yw i.n (s.reg i.b)).1 (s.tnt i.b))else none)else
 if i.op=4 then(if s.has i.a&&s.has i.b&&s.has i.c&&(iQ i.n (s.reg i.b) (s.reg i.c)).2 then some (s.put i.a (iQ i.n (s.reg i.b) (s.reg i.c)).1 (Aq (s.tnt i.b++s.tnt i.c)))else none)else
 some {s with pc:=i.a}
def dT(ins:List aT):Nat->aD->aD×Bool
 |0,s=>if inB s.pc ins.length then(if(ins.getD s.pc.toNat default).op<1\/5<(ins.getD s.pc.toNat default).op then(s,true)else(aD.zero,false))else(aD.zero,false)
 | k+1,s=>if inB s.pc ins.length then(if(ins.getD s.pc.toNat default).op<1\/5<(ins.getD s.pc.toNat default).op then(s,true)else
   match aM (ins.getD s.pc.toNat default) s with
   |none=>(aD.zero,false)
   |some s2=>dT ins k s2)else(aD.zero,false)
def aU(c:eB)(s:aD):aD×Bool:=
 if(s.regs.length:Int)=c.regs/\(s.taint.length:Int)=c.regs then dT c.ins c.ins.length s else(aD.zero,false)
def l8(p:aD×Bool):AV:=.tup [.agg p.1.enc,.bool p.2]
structure hM(U:List Int)(s:aD):Prop where
 len:s.taint.length=s.regs.length
 small:s.regs.length<2^40
 short:∀l∈s.taint,l.length<=2^30
 sub:∀l∈s.taint,∀x∈l,x∈U
def BM:∀{l U:List Int},l.Nodup->(∀x∈l,x∈U)->l.length<=U.length
 |[],U,_,_=>by simp
 | x::l,U,hn,hs=>by
  have u:x∈U:=hs x UZ;have B:=T2.1 hn;have:=BM (l:=l) (U:=U.erase x) B.2 λy j=>(List.mem_erase_of_ne (by rintro rfl;exact B.1 j)).2 (hs y (by simp[j]))
  rw[List.length_erase_of_mem u]at this;have:=List.length_pos_of_mem u;simp only[TC];omega
def BN{U l:List Int}(h:∀x∈l,x∈U):(Aq l).length<=U.length:=by have j:(Aq l).Nodup:=(HD l).imp (λ{a b} (h:a<b)=>by omega);exact BM j λx u=>h x ((CN l x).1 u)
def hM.tnt{U:List Int}{s:aD}(h:hM U s)(r:Int):(s.tnt r).length<=2^30/\∀x∈s.tnt r,x∈U:=by
 unfold aD.tnt;rw[Un];cases j:s.taint[r.toNat]? with
 |none=>simp
 |some l=>exact⟨h.short l (T0 j),h.sub l (T0 j)⟩
def hM.put{U:List Int}{s:aD}(h:hM U s)(a v:Int){t:List Int}(u:t.length<=2^30)(h2:∀x∈t,x∈U):hM U (s.put a v t):=by
 refine⟨by simp[aD.put,h.len],by simpa[aD.put]using h.small,λl j=>?_,λl j=>?_⟩
 .rcases UG j with g|g
  .exact h.short l g
  .rw[g];exact u
 .rcases UG j with g|g
  .exact h.sub l g
  .rw[g];exact h2
def hM.step{U:List Int}(D:U.length<=2^30){s s2:aD}{i:aT}(h:hM U s)(j:aM i s=some s2):hM U s2:=by
 unfold aM at j;split at j
 .split at j
  .cases j;exact h.put _ _ UZ UZ
  .cases j
 .split at j
  .split at j
   .cases j;exact h.put _ _ (h.tnt _).1 (h.tnt _).2
   .cases j
  .split at j
   .split at j
    .cases j;exact h.put _ _ (h.tnt _).1 (h.tnt _).2
    .cases j
   .split at j
    .split at j
     .cases j;have B:∀x∈s.tnt i.b++s.tnt i.c,x∈U:=λx u=>by
       rcases Tn.1 u with g|g
       .exact(h.tnt _).2 x g
       .exact(h.tnt _).2 x g
      exact h.put _ _ (Tx (BN B) D) λx u=>B x ((CN _ _).1 u)
     .cases j
    .cases j;exact⟨h.len,h.small,h.short,h.sub⟩
end Go.Proofs.YtbofdbhnbodbiaaGreatDoor.Am
