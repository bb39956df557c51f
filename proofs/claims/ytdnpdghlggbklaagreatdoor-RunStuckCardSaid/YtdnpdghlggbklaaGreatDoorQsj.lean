/- A part of the proof; the statement is proved in the last part. -/
import Derived.Test.YtdnpdghlggbklaaGreatDoorQsi
set_option linter.unusedSimpArgs false
set_option linter.unusedVariables false
namespace Go.Proofs.YtdnpdghlggbklaaGreatDoor.Am
section
set_option maxRecDepth 100000
set_option linter.unusedSimpArgs false
set_option linter.unusedSectionVars false
def bC(s:SyncD)(i:Int)(f:ThrD→ThrD):List ThrD:=s.threads.set i.toNat (f (bE s i))
def aJ(s:SyncD)(i:Int)(f:LockD→LockD):List LockD:=s.locks.set i.toNat (f (aL s i))
def ID(s:SyncD)(o:Int):List ThrD:=da s.threads o s.threads.length
def w6(l:List Int)(t:Int):List Int:=Lib.compact (zB (l++[t]))
def bR(w:aM)(s:SyncD)(t k o wake:Int):SyncD×Int:=
 if k=1 then({s with threads:=bC s t λx=>{x with status:=2}},0)
 else if k=2 then({s with threads:=bC s t λx=>{x with status:=5}},0)
 else if k=6∨k=10 then({s with locks:=aJ s o λx=>{x with owner:=t}},0)
 else if k=7∨k=11 then({s with locks:=aJ s o λx=>{x with owner:=-1}},0)
 else if k=8 then({s with locks:=aJ s o λx=>{x with readers:=w6 x.readers t}},0)
 else if k=9 then({s with locks:=aJ s o λx=>{x with readers:=x.readers.filter λy=>!decide (y=t)}},0)
 else if k=12 then({s with tx:=t},0)
 else if k=13 then({s with tx:=-1},0)
 else if k=14 then({s with threads:=bC s t λx=>{x with atomic:=true}},0)
 else if k=15 then({s with threads:=bC s t λx=>{x with atomic:=false}},0)
 else if k=16 then({s with locks:=aJ s (lJ w o) λx=>{x with owner:=-1},threads:=bC s t λx=>{x with status:=3,cond:=o}},0)
 else if k=17 then({s with locks:=aJ s (lJ w o) λx=>{x with owner:=t},threads:=bC s t λx=>{x with status:=2,cond:=0}},0)
 else if k=18 then({s with threads:=jh s.threads o wake},dN s.threads o wake)
 else if k=19 then({s with threads:=ID s o},(cj s.threads o s.threads.length).length)
 else if k=20 then({s with threads:=bC s o λx=>{x with status:=1}},0)
 else if k=22 then({s with done:=s.done.set o.toNat true},0)
 else(s,0)
theorem ji{s:SyncD}{t:Int}{f:ThrD→ThrD}{r:List AV}(h:r=(f (bE s t)).enc):(s.threads.map ThrD.enc).set (0+t.toNat) r=(bC s t f).map ThrD.enc:=by rw[h,WG,bC,WH]
theorem iW{s:SyncD}{t:Int}{f:LockD→LockD}{r:List AV}(h:r=(f (aL s t)).enc):(s.locks.map LockD.enc).set (0+t.toNat) r=(aJ s t f).map LockD.enc:=by rw[h,WG,aJ,WH]
theorem cQ{s:SyncD}{t:Int}(h:inB t s.threads.length=true):(s.threads.map ThrD.enc)[0+t.toNat]? =some (bE s t).enc:=by rw[WG];exact dK h
theorem lL{s:SyncD}{t:Int}(h:inB t s.locks.length=true):(s.locks.map LockD.enc)[0+t.toNat]? =some (aL s t).enc:=by rw[WG];exact dK h
theorem aR{bl n bt m:Nat}{tx:Int}{dv:AV}(h:dv.one=true):([.sl bl 0 n,.Xw tx,dv,.sl bt 0 m]:List AV).all AV.one=true:=by show(true&&(true&&(dv.one&&(true&&true))))=true;rw[h];rfl
theorem zQ(T:List ThrD)(c wake:Int):(jh T c wake).length=T.length:=by unfold jh F6;split<;>simp
theorem N6{α:Type}{l:List α}{i:Nat}{x y:α}(h:l[i]? =some y):(l.set i x)[i]? =some x:=by have:=(Wt.1 h).1;simp[this]
section
variable (w:aM) (s:SyncD) (t o wake:Int) (b7 b12 bl bt:Nat) (od:Option Nat)
def eV(R:SH):SH:=(bl,⟨2,s.locks.map LockD.enc⟩)::(bt,⟨3,s.threads.map ThrD.enc⟩)::(b12,⟨4,[[.nils,.Xw 0,.nils,.nils]]⟩)::(b7,⟨4,[s.enc]⟩)::R
def eD(k:Int)(R:SH)(dv:AV)(Q:AV→SH→Prop):Prop:=∀(tx val:Int) (ls:List LockD) (th:List ThrD) (L:SH),Fz L (.sl bl 0 s.locks.length) (.lst (ls.map LockD.enc))→Fz L (.sl bt 0 s.threads.length) (.lst (th.map ThrD.enc))→(∀p∈R,p∈L)→
 bR w s t k o wake=(⟨ls,tx,s.done,th⟩,val)→Q (.tup [.agg [.sl bl 0 s.locks.length,.Xw tx,dv,.sl bt 0 s.threads.length],.Xw val,.bool true]) L
variable (R:SH) (dv:AV) (hone:dv.one=true) (Q:AV→SH→Prop) (hf:NX w s) (ht:inB t s.threads.length=true) (hnd:(eV s b7 b12 bl bt R).names.Nodup)
include hone hf ht hnd
theorem Ui(ha:allowedS w 1 o=true)(hq:eD w s t o wake bl bt 1 R dv Q):ai Q (.Xw 1) (.Xw o) (.Xw wake) (.ptr b7 0 0) (.pptr [[.Xw t]] 0 0) (.ptr b12 0 0) (.pptr [w.enc] 0 0) (.agg [.sl bl 0 s.locks.length,.Xw s.tx,dv,.sl bt 0 s.threads.length]) (eV s b7 b12 bl bt R):=by
 unfold ai;simp only[SH.names,eV,VM,VW,VN,not_or]at hnd;obtain⟨⟨n1,n2,n3,n4⟩,⟨n5,n6,n7⟩,⟨n8,n9⟩,n10,n11⟩:=hnd;have hb1:([.sl bl 0 s.locks.length,.Xw s.tx,dv,.sl bt 0 s.threads.length]:List AV).all AV.one=true:=aR hone;unfold eV;have hy:=cQ ht;obtain⟨t0,t1⟩:=aw.1 ht;have hb2:∀tx:Int,([.sl bl 0 s.locks.length,.Xw tx,dv,.sl bt 0 s.threads.length]:List AV).all AV.one=true:=λtx=>aR hone
 repeat' (first|refine st ?_|refine au rp rfl rfl hb1 rfl ?_|refine au rp rfl rfl (hb2 _) rfl ?_|refine sb λnb_ hnb_=>?_|refine s2 (λh=>?_) λh=>?_|fail)
 exact hq _ _ (s.locks) (bC s t λx=>{x with status:=2}) _ (Fz.sls rp rfl Xu (by simp[aJ])) (Fz.sls rp (ji rfl) Xu (by simp[bC])) (λp hp=>by simp only[VN];simp[hp]) (by simp only[bR,Int.reduceEq,Int.reduceNeg,if_true,if_false,or_self,or_true,true_or,or_false,false_or,reduceIte,reduceCtorEq])
theorem Uj(ha:allowedS w 2 o=true)(hq:eD w s t o wake bl bt 2 R dv Q):ai Q (.Xw 2) (.Xw o) (.Xw wake) (.ptr b7 0 0) (.pptr [[.Xw t]] 0 0) (.ptr b12 0 0) (.pptr [w.enc] 0 0) (.agg [.sl bl 0 s.locks.length,.Xw s.tx,dv,.sl bt 0 s.threads.length]) (eV s b7 b12 bl bt R):=by
 unfold ai;simp only[SH.names,eV,VM,VW,VN,not_or]at hnd;obtain⟨⟨n1,n2,n3,n4⟩,⟨n5,n6,n7⟩,⟨n8,n9⟩,n10,n11⟩:=hnd;have hb1:([.sl bl 0 s.locks.length,.Xw s.tx,dv,.sl bt 0 s.threads.length]:List AV).all AV.one=true:=aR hone;unfold eV;have hy:=cQ ht;obtain⟨t0,t1⟩:=aw.1 ht;have hb2:∀tx:Int,([.sl bl 0 s.locks.length,.Xw tx,dv,.sl bt 0 s.threads.length]:List AV).all AV.one=true:=λtx=>aR hone
 repeat' (first|refine st ?_|refine au rp rfl rfl hb1 rfl ?_|refine au rp rfl rfl (hb2 _) rfl ?_|refine sb λnb_ hnb_=>?_|refine s2 (λh=>?_) λh=>?_|fail)
 exact hq _ _ (s.locks) (bC s t λx=>{x with status:=5}) _ (Fz.sls rp rfl Xu (by simp[aJ])) (Fz.sls rp (ji rfl) Xu (by simp[bC])) (λp hp=>by simp only[VN];simp[hp]) (by simp only[bR,Int.reduceEq,Int.reduceNeg,if_true,if_false,or_self,or_true,true_or,or_false,false_or,reduceIte,reduceCtorEq])
theorem Uk(ha:allowedS w 3 o=true)(hq:eD w s t o wake bl bt 3 R dv Q):ai Q (.Xw 3) (.Xw o) (.Xw wake) (.ptr b7 0 0) (.pptr [[.Xw t]] 0 0) (.ptr b12 0 0) (.pptr [w.enc] 0 0) (.agg [.sl bl 0 s.locks.length,.Xw s.tx,dv,.sl bt 0 s.threads.length]) (eV s b7 b12 bl bt R):=by
 unfold ai;simp only[SH.names,eV,VM,VW,VN,not_or]at hnd;obtain⟨⟨n1,n2,n3,n4⟩,⟨n5,n6,n7⟩,⟨n8,n9⟩,n10,n11⟩:=hnd;have hb1:([.sl bl 0 s.locks.length,.Xw s.tx,dv,.sl bt 0 s.threads.length]:List AV).all AV.one=true:=aR hone;unfold eV;have hy:=cQ ht;obtain⟨t0,t1⟩:=aw.1 ht;have hb2:∀tx:Int,([.sl bl 0 s.locks.length,.Xw tx,dv,.sl bt 0 s.threads.length]:List AV).all AV.one=true:=λtx=>aR hone
 repeat' (first|refine st ?_|refine au rp rfl rfl hb1 rfl ?_|refine au rp rfl rfl (hb2 _) rfl ?_|refine sb λnb_ hnb_=>?_|refine s2 (λh=>?_) λh=>?_|fail)
 exact hq _ _ (s.locks) (s.threads) _ (Fz.sls rp rfl Xu (by simp[aJ])) (Fz.sls rp rfl Xu (by simp[bC])) (λp hp=>by simp only[VN];simp[hp]) (by simp only[bR,Int.reduceEq,Int.reduceNeg,if_true,if_false,or_self,or_true,true_or,or_false,false_or,reduceIte,reduceCtorEq])
theorem Ul(ha:allowedS w 4 o=true)(hq:eD w s t o wake bl bt 4 R dv Q):ai Q (.Xw 4) (.Xw o) (.Xw wake) (.ptr b7 0 0) (.pptr [[.Xw t]] 0 0) (.ptr b12 0 0) (.pptr [w.enc] 0 0) (.agg [.sl bl 0 s.locks.length,.Xw s.tx,dv,.sl bt 0 s.threads.length]) (eV s b7 b12 bl bt R):=by
 unfold ai;simp only[SH.names,eV,VM,VW,VN,not_or]at hnd;obtain⟨⟨n1,n2,n3,n4⟩,⟨n5,n6,n7⟩,⟨n8,n9⟩,n10,n11⟩:=hnd;have hb1:([.sl bl 0 s.locks.length,.Xw s.tx,dv,.sl bt 0 s.threads.length]:List AV).all AV.one=true:=aR hone;unfold eV;have hy:=cQ ht;obtain⟨t0,t1⟩:=aw.1 ht;have hb2:∀tx:Int,([.sl bl 0 s.locks.length,.Xw tx,dv,.sl bt 0 s.threads.length]:List AV).all AV.one=true:=λtx=>aR hone
 repeat' (first|refine st ?_|refine au rp rfl rfl hb1 rfl ?_|refine au rp rfl rfl (hb2 _) rfl ?_|refine sb λnb_ hnb_=>?_|refine s2 (λh=>?_) λh=>?_|fail)
 exact hq _ _ (s.locks) (s.threads) _ (Fz.sls rp rfl Xu (by simp[aJ])) (Fz.sls rp rfl Xu (by simp[bC])) (λp hp=>by simp only[VN];simp[hp]) (by simp only[bR,Int.reduceEq,Int.reduceNeg,if_true,if_false,or_self,or_true,true_or,or_false,false_or,reduceIte,reduceCtorEq])
theorem Um(ha:allowedS w 5 o=true)(hq:eD w s t o wake bl bt 5 R dv Q):ai Q (.Xw 5) (.Xw o) (.Xw wake) (.ptr b7 0 0) (.pptr [[.Xw t]] 0 0) (.ptr b12 0 0) (.pptr [w.enc] 0 0) (.agg [.sl bl 0 s.locks.length,.Xw s.tx,dv,.sl bt 0 s.threads.length]) (eV s b7 b12 bl bt R):=by
 unfold ai;simp only[SH.names,eV,VM,VW,VN,not_or]at hnd;obtain⟨⟨n1,n2,n3,n4⟩,⟨n5,n6,n7⟩,⟨n8,n9⟩,n10,n11⟩:=hnd;have hb1:([.sl bl 0 s.locks.length,.Xw s.tx,dv,.sl bt 0 s.threads.length]:List AV).all AV.one=true:=aR hone;unfold eV;have hy:=cQ ht;obtain⟨t0,t1⟩:=aw.1 ht;have hb2:∀tx:Int,([.sl bl 0 s.locks.length,.Xw tx,dv,.sl bt 0 s.threads.length]:List AV).all AV.one=true:=λtx=>aR hone
 repeat' (first|refine st ?_|refine au rp rfl rfl hb1 rfl ?_|refine au rp rfl rfl (hb2 _) rfl ?_|refine sb λnb_ hnb_=>?_|refine s2 (λh=>?_) λh=>?_|fail)
 exact hq _ _ (s.locks) (s.threads) _ (Fz.sls rp rfl Xu (by simp[aJ])) (Fz.sls rp rfl Xu (by simp[bC])) (λp hp=>by simp only[VN];simp[hp]) (by simp only[bR,Int.reduceEq,Int.reduceNeg,if_true,if_false,or_self,or_true,true_or,or_false,false_or,reduceIte,reduceCtorEq])
theorem Un(ha:allowedS w 6 o=true)(hq:eD w s t o wake bl bt 6 R dv Q):ai Q (.Xw 6) (.Xw o) (.Xw wake) (.ptr b7 0 0) (.pptr [[.Xw t]] 0 0) (.ptr b12 0 0) (.pptr [w.enc] 0 0) (.agg [.sl bl 0 s.locks.length,.Xw s.tx,dv,.sl bt 0 s.threads.length]) (eV s b7 b12 bl bt R):=by
 unfold ai;simp only[SH.names,eV,VM,VW,VN,not_or]at hnd;obtain⟨⟨n1,n2,n3,n4⟩,⟨n5,n6,n7⟩,⟨n8,n9⟩,n10,n11⟩:=hnd;have hb1:([.sl bl 0 s.locks.length,.Xw s.tx,dv,.sl bt 0 s.threads.length]:List AV).all AV.one=true:=aR hone;unfold eV;have hy:=cQ ht;obtain⟨t0,t1⟩:=aw.1 ht;have hl:inB o s.locks.length=true:=by rw[hf.locks];simp[allowedS]at ha;exact ha.1
 have hx:=lL hl;obtain⟨o0,o1⟩:=aw.1 hl;have hb2:∀tx:Int,([.sl bl 0 s.locks.length,.Xw tx,dv,.sl bt 0 s.threads.length]:List AV).all AV.one=true:=λtx=>aR hone
 repeat' (first|refine st ?_|refine au rp rfl rfl hb1 rfl ?_|refine au rp rfl rfl (hb2 _) rfl ?_|refine sb λnb_ hnb_=>?_|refine s2 (λh=>?_) λh=>?_|fail)
 exact hq _ _ (aJ s o λx=>{x with owner:=t}) (s.threads) _ (Fz.sls rp (iW rfl) Xu (by simp[aJ])) (Fz.sls rp rfl Xu (by simp[bC])) (λp hp=>by simp only[VN];simp[hp]) (by simp only[bR,Int.reduceEq,Int.reduceNeg,if_true,if_false,or_self,or_true,true_or,or_false,false_or,reduceIte,reduceCtorEq])
theorem Uo(ha:allowedS w 7 o=true)(hq:eD w s t o wake bl bt 7 R dv Q):ai Q (.Xw 7) (.Xw o) (.Xw wake) (.ptr b7 0 0) (.pptr [[.Xw t]] 0 0) (.ptr b12 0 0) (.pptr [w.enc] 0 0) (.agg [.sl bl 0 s.locks.length,.Xw s.tx,dv,.sl bt 0 s.threads.length]) (eV s b7 b12 bl bt R):=by
 unfold ai;simp only[SH.names,eV,VM,VW,VN,not_or]at hnd;obtain⟨⟨n1,n2,n3,n4⟩,⟨n5,n6,n7⟩,⟨n8,n9⟩,n10,n11⟩:=hnd;have hb1:([.sl bl 0 s.locks.length,.Xw s.tx,dv,.sl bt 0 s.threads.length]:List AV).all AV.one=true:=aR hone;unfold eV;have hy:=cQ ht;obtain⟨t0,t1⟩:=aw.1 ht;have hl:inB o s.locks.length=true:=by rw[hf.locks];simp[allowedS]at ha;exact ha.1
 have hx:=lL hl;obtain⟨o0,o1⟩:=aw.1 hl;have hb2:∀tx:Int,([.sl bl 0 s.locks.length,.Xw tx,dv,.sl bt 0 s.threads.length]:List AV).all AV.one=true:=λtx=>aR hone
 repeat' (first|refine st ?_|refine au rp rfl rfl hb1 rfl ?_|refine au rp rfl rfl (hb2 _) rfl ?_|refine sb λnb_ hnb_=>?_|refine s2 (λh=>?_) λh=>?_|fail)
 exact hq _ _ (aJ s o λx=>{x with owner:=-1}) (s.threads) _ (Fz.sls rp (iW rfl) Xu (by simp[aJ])) (Fz.sls rp rfl Xu (by simp[bC])) (λp hp=>by simp only[VN];simp[hp]) (by simp only[bR,Int.reduceEq,Int.reduceNeg,if_true,if_false,or_self,or_true,true_or,or_false,false_or,reduceIte,reduceCtorEq])
theorem R4(ha:allowedS w 10 o=true)(hq:eD w s t o wake bl bt 10 R dv Q):ai Q (.Xw 10) (.Xw o) (.Xw wake) (.ptr b7 0 0) (.pptr [[.Xw t]] 0 0) (.ptr b12 0 0) (.pptr [w.enc] 0 0) (.agg [.sl bl 0 s.locks.length,.Xw s.tx,dv,.sl bt 0 s.threads.length]) (eV s b7 b12 bl bt R):=by
 unfold ai;simp only[SH.names,eV,VM,VW,VN,not_or]at hnd;obtain⟨⟨n1,n2,n3,n4⟩,⟨n5,n6,n7⟩,⟨n8,n9⟩,n10,n11⟩:=hnd;have hb1:([.sl bl 0 s.locks.length,.Xw s.tx,dv,.sl bt 0 s.threads.length]:List AV).all AV.one=true:=aR hone;unfold eV;have hy:=cQ ht;obtain⟨t0,t1⟩:=aw.1 ht;have hl:inB o s.locks.length=true:=by rw[hf.locks];simp[allowedS]at ha;exact ha.1
 have hx:=lL hl;obtain⟨o0,o1⟩:=aw.1 hl;have hb2:∀tx:Int,([.sl bl 0 s.locks.length,.Xw tx,dv,.sl bt 0 s.threads.length]:List AV).all AV.one=true:=λtx=>aR hone
 repeat' (first|refine st ?_|refine au rp rfl rfl hb1 rfl ?_|refine au rp rfl rfl (hb2 _) rfl ?_|refine sb λnb_ hnb_=>?_|refine s2 (λh=>?_) λh=>?_|fail)
 exact hq _ _ (aJ s o λx=>{x with owner:=t}) (s.threads) _ (Fz.sls rp (iW rfl) Xu (by simp[aJ])) (Fz.sls rp rfl Xu (by simp[bC])) (λp hp=>by simp only[VN];simp[hp]) (by simp only[bR,Int.reduceEq,Int.reduceNeg,if_true,if_false,or_self,or_true,true_or,or_false,false_or,reduceIte,reduceCtorEq])
theorem R5(ha:allowedS w 11 o=true)(hq:eD w s t o wake bl bt 11 R dv Q):ai Q (.Xw 11) (.Xw o) (.Xw wake) (.ptr b7 0 0) (.pptr [[.Xw t]] 0 0) (.ptr b12 0 0) (.pptr [w.enc] 0 0) (.agg [.sl bl 0 s.locks.length,.Xw s.tx,dv,.sl bt 0 s.threads.length]) (eV s b7 b12 bl bt R):=by
 unfold ai;simp only[SH.names,eV,VM,VW,VN,not_or]at hnd;obtain⟨⟨n1,n2,n3,n4⟩,⟨n5,n6,n7⟩,⟨n8,n9⟩,n10,n11⟩:=hnd;have hb1:([.sl bl 0 s.locks.length,.Xw s.tx,dv,.sl bt 0 s.threads.length]:List AV).all AV.one=true:=aR hone;unfold eV;have hy:=cQ ht;obtain⟨t0,t1⟩:=aw.1 ht;have hl:inB o s.locks.length=true:=by rw[hf.locks];simp[allowedS]at ha;exact ha.1
 have hx:=lL hl;obtain⟨o0,o1⟩:=aw.1 hl;have hb2:∀tx:Int,([.sl bl 0 s.locks.length,.Xw tx,dv,.sl bt 0 s.threads.length]:List AV).all AV.one=true:=λtx=>aR hone
 repeat' (first|refine st ?_|refine au rp rfl rfl hb1 rfl ?_|refine au rp rfl rfl (hb2 _) rfl ?_|refine sb λnb_ hnb_=>?_|refine s2 (λh=>?_) λh=>?_|fail)
 exact hq _ _ (aJ s o λx=>{x with owner:=-1}) (s.threads) _ (Fz.sls rp (iW rfl) Xu (by simp[aJ])) (Fz.sls rp rfl Xu (by simp[bC])) (λp hp=>by simp only[VN];simp[hp]) (by simp only[bR,Int.reduceEq,Int.reduceNeg,if_true,if_false,or_self,or_true,true_or,or_false,false_or,reduceIte,reduceCtorEq])
theorem R6(ha:allowedS w 12 o=true)(hq:eD w s t o wake bl bt 12 R dv Q):ai Q (.Xw 12) (.Xw o) (.Xw wake) (.ptr b7 0 0) (.pptr [[.Xw t]] 0 0) (.ptr b12 0 0) (.pptr [w.enc] 0 0) (.agg [.sl bl 0 s.locks.length,.Xw s.tx,dv,.sl bt 0 s.threads.length]) (eV s b7 b12 bl bt R):=by
 unfold ai;simp only[SH.names,eV,VM,VW,VN,not_or]at hnd;obtain⟨⟨n1,n2,n3,n4⟩,⟨n5,n6,n7⟩,⟨n8,n9⟩,n10,n11⟩:=hnd;have hb1:([.sl bl 0 s.locks.length,.Xw s.tx,dv,.sl bt 0 s.threads.length]:List AV).all AV.one=true:=aR hone;unfold eV;have hy:=cQ ht;obtain⟨t0,t1⟩:=aw.1 ht;have hb2:∀tx:Int,([.sl bl 0 s.locks.length,.Xw tx,dv,.sl bt 0 s.threads.length]:List AV).all AV.one=true:=λtx=>aR hone
 repeat' (first|refine st ?_|refine au rp rfl rfl hb1 rfl ?_|refine au rp rfl rfl (hb2 _) rfl ?_|refine sb λnb_ hnb_=>?_|refine s2 (λh=>?_) λh=>?_|fail)
 exact hq _ _ (s.locks) (s.threads) _ (Fz.sls rp rfl Xu (by simp[aJ])) (Fz.sls rp rfl Xu (by simp[bC])) (λp hp=>by simp only[VN];simp[hp]) (by simp only[bR,Int.reduceEq,Int.reduceNeg,if_true,if_false,or_self,or_true,true_or,or_false,false_or,reduceIte,reduceCtorEq])
theorem R7(ha:allowedS w 13 o=true)(hq:eD w s t o wake bl bt 13 R dv Q):ai Q (.Xw 13) (.Xw o) (.Xw wake) (.ptr b7 0 0) (.pptr [[.Xw t]] 0 0) (.ptr b12 0 0) (.pptr [w.enc] 0 0) (.agg [.sl bl 0 s.locks.length,.Xw s.tx,dv,.sl bt 0 s.threads.length]) (eV s b7 b12 bl bt R):=by
 unfold ai;simp only[SH.names,eV,VM,VW,VN,not_or]at hnd;obtain⟨⟨n1,n2,n3,n4⟩,⟨n5,n6,n7⟩,⟨n8,n9⟩,n10,n11⟩:=hnd;have hb1:([.sl bl 0 s.locks.length,.Xw s.tx,dv,.sl bt 0 s.threads.length]:List AV).all AV.one=true:=aR hone;unfold eV;have hy:=cQ ht;obtain⟨t0,t1⟩:=aw.1 ht;have hb2:∀tx:Int,([.sl bl 0 s.locks.length,.Xw tx,dv,.sl bt 0 s.threads.length]:List AV).all AV.one=true:=λtx=>aR hone
 repeat' (first|refine st ?_|refine au rp rfl rfl hb1 rfl ?_|refine au rp rfl rfl (hb2 _) rfl ?_|refine sb λnb_ hnb_=>?_|refine s2 (λh=>?_) λh=>?_|fail)
 exact hq _ _ (s.locks) (s.threads) _ (Fz.sls rp rfl Xu (by simp[aJ])) (Fz.sls rp rfl Xu (by simp[bC])) (λp hp=>by simp only[VN];simp[hp]) (by simp only[bR,Int.reduceEq,Int.reduceNeg,if_true,if_false,or_self,or_true,true_or,or_false,false_or,reduceIte,reduceCtorEq])
theorem R8(ha:allowedS w 14 o=true)(hq:eD w s t o wake bl bt 14 R dv Q):ai Q (.Xw 14) (.Xw o) (.Xw wake) (.ptr b7 0 0) (.pptr [[.Xw t]] 0 0) (.ptr b12 0 0) (.pptr [w.enc] 0 0) (.agg [.sl bl 0 s.locks.length,.Xw s.tx,dv,.sl bt 0 s.threads.length]) (eV s b7 b12 bl bt R):=by
 unfold ai;simp only[SH.names,eV,VM,VW,VN,not_or]at hnd;obtain⟨⟨n1,n2,n3,n4⟩,⟨n5,n6,n7⟩,⟨n8,n9⟩,n10,n11⟩:=hnd;have hb1:([.sl bl 0 s.locks.length,.Xw s.tx,dv,.sl bt 0 s.threads.length]:List AV).all AV.one=true:=aR hone;unfold eV;have hy:=cQ ht;obtain⟨t0,t1⟩:=aw.1 ht;have hb2:∀tx:Int,([.sl bl 0 s.locks.length,.Xw tx,dv,.sl bt 0 s.threads.length]:List AV).all AV.one=true:=λtx=>aR hone
 repeat' (first|refine st ?_|refine au rp rfl rfl hb1 rfl ?_|refine au rp rfl rfl (hb2 _) rfl ?_|refine sb λnb_ hnb_=>?_|refine s2 (λh=>?_) λh=>?_|fail)
 exact hq _ _ (s.locks) (bC s t λx=>{x with atomic:=true}) _ (Fz.sls rp rfl Xu (by simp[aJ])) (Fz.sls rp (ji rfl) Xu (by simp[bC])) (λp hp=>by simp only[VN];simp[hp]) (by simp only[bR,Int.reduceEq,Int.reduceNeg,if_true,if_false,or_self,or_true,true_or,or_false,false_or,reduceIte,reduceCtorEq])
theorem R9(ha:allowedS w 15 o=true)(hq:eD w s t o wake bl bt 15 R dv Q):ai Q (.Xw 15) (.Xw o) (.Xw wake) (.ptr b7 0 0) (.pptr [[.Xw t]] 0 0) (.ptr b12 0 0) (.pptr [w.enc] 0 0) (.agg [.sl bl 0 s.locks.length,.Xw s.tx,dv,.sl bt 0 s.threads.length]) (eV s b7 b12 bl bt R):=by
 unfold ai;simp only[SH.names,eV,VM,VW,VN,not_or]at hnd;obtain⟨⟨n1,n2,n3,n4⟩,⟨n5,n6,n7⟩,⟨n8,n9⟩,n10,n11⟩:=hnd;have hb1:([.sl bl 0 s.locks.length,.Xw s.tx,dv,.sl bt 0 s.threads.length]:List AV).all AV.one=true:=aR hone;unfold eV;have hy:=cQ ht;obtain⟨t0,t1⟩:=aw.1 ht;have hb2:∀tx:Int,([.sl bl 0 s.locks.length,.Xw tx,dv,.sl bt 0 s.threads.length]:List AV).all AV.one=true:=λtx=>aR hone
 repeat' (first|refine st ?_|refine au rp rfl rfl hb1 rfl ?_|refine au rp rfl rfl (hb2 _) rfl ?_|refine sb λnb_ hnb_=>?_|refine s2 (λh=>?_) λh=>?_|fail)
 exact hq _ _ (s.locks) (bC s t λx=>{x with atomic:=false}) _ (Fz.sls rp rfl Xu (by simp[aJ])) (Fz.sls rp (ji rfl) Xu (by simp[bC])) (λp hp=>by simp only[VN];simp[hp]) (by simp only[bR,Int.reduceEq,Int.reduceNeg,if_true,if_false,or_self,or_true,true_or,or_false,false_or,reduceIte,reduceCtorEq])
theorem Sa(ha:allowedS w 16 o=true)(hq:eD w s t o wake bl bt 16 R dv Q):ai Q (.Xw 16) (.Xw o) (.Xw wake) (.ptr b7 0 0) (.pptr [[.Xw t]] 0 0) (.ptr b12 0 0) (.pptr [w.enc] 0 0) (.agg [.sl bl 0 s.locks.length,.Xw s.tx,dv,.sl bt 0 s.threads.length]) (eV s b7 b12 bl bt R):=by
 unfold ai;simp only[SH.names,eV,VM,VW,VN,not_or]at hnd;obtain⟨⟨n1,n2,n3,n4⟩,⟨n5,n6,n7⟩,⟨n8,n9⟩,n10,n11⟩:=hnd;have hb1:([.sl bl 0 s.locks.length,.Xw s.tx,dv,.sl bt 0 s.threads.length]:List AV).all AV.one=true:=aR hone;unfold eV;have hy:=cQ ht;obtain⟨t0,t1⟩:=aw.1 ht;have hc:inB o w.conds.length=true:=by simpa[allowedS]using ha
 have hl:=Lp hf hc;have hx:=lL hl;obtain⟨o0,o1⟩:=aw.1 hl;unfold lJ at hl hx o0 o1;have hy2:((s.threads.map ThrD.enc).set (0+t.toNat) ((bE s t).enc.set 0 (.Xw 3)))[0+t.toNat]? =some ((bE s t).enc.set 0 (.Xw 3)):=N6 hy;have hb2:∀tx:Int,([.sl bl 0 s.locks.length,.Xw tx,dv,.sl bt 0 s.threads.length]:List AV).all AV.one=true:=λtx=>aR hone
 repeat' (first|refine st ?_|refine au rp rfl rfl hb1 rfl ?_|refine au rp rfl rfl (hb2 _) rfl ?_|refine sb λnb_ hnb_=>?_|refine s2 (λh=>?_) λh=>?_|fail)
 exact hq _ _ (aJ s (lJ w o) λx=>{x with owner:=-1}) (bC s t λx=>{x with status:=3,cond:=o}) _ (Fz.sls rp (iW rfl) Xu (by simp[aJ])) (Fz.sls rp (by rw[List.set_set];exact ji rfl) Xu (by simp[bC])) (λp hp=>by simp only[VN];simp[hp]) (by simp only[bR,Int.reduceEq,Int.reduceNeg,if_true,if_false,or_self,or_true,true_or,or_false,false_or,reduceIte,reduceCtorEq])
theorem Sb(ha:allowedS w 17 o=true)(hq:eD w s t o wake bl bt 17 R dv Q):ai Q (.Xw 17) (.Xw o) (.Xw wake) (.ptr b7 0 0) (.pptr [[.Xw t]] 0 0) (.ptr b12 0 0) (.pptr [w.enc] 0 0) (.agg [.sl bl 0 s.locks.length,.Xw s.tx,dv,.sl bt 0 s.threads.length]) (eV s b7 b12 bl bt R):=by
 unfold ai;simp only[SH.names,eV,VM,VW,VN,not_or]at hnd;obtain⟨⟨n1,n2,n3,n4⟩,⟨n5,n6,n7⟩,⟨n8,n9⟩,n10,n11⟩:=hnd;have hb1:([.sl bl 0 s.locks.length,.Xw s.tx,dv,.sl bt 0 s.threads.length]:List AV).all AV.one=true:=aR hone;unfold eV;have hy:=cQ ht;obtain⟨t0,t1⟩:=aw.1 ht;have hc:inB o w.conds.length=true:=by simpa[allowedS]using ha
 have hl:=Lp hf hc;have hx:=lL hl;obtain⟨o0,o1⟩:=aw.1 hl;unfold lJ at hl hx o0 o1;have hy2:((s.threads.map ThrD.enc).set (0+t.toNat) ((bE s t).enc.set 0 (.Xw 2)))[0+t.toNat]? =some ((bE s t).enc.set 0 (.Xw 2)):=N6 hy;have hb2:∀tx:Int,([.sl bl 0 s.locks.length,.Xw tx,dv,.sl bt 0 s.threads.length]:List AV).all AV.one=true:=λtx=>aR hone
 repeat' (first|refine st ?_|refine au rp rfl rfl hb1 rfl ?_|refine au rp rfl rfl (hb2 _) rfl ?_|refine sb λnb_ hnb_=>?_|refine s2 (λh=>?_) λh=>?_|fail)
 exact hq _ _ (aJ s (lJ w o) λx=>{x with owner:=t}) (bC s t λx=>{x with status:=2,cond:=0}) _ (Fz.sls rp (iW rfl) Xu (by simp[aJ])) (Fz.sls rp (by rw[List.set_set];exact ji rfl) Xu (by simp[bC])) (λp hp=>by simp only[VN];simp[hp]) (by simp only[bR,Int.reduceEq,Int.reduceNeg,if_true,if_false,or_self,or_true,true_or,or_false,false_or,reduceIte,reduceCtorEq])
theorem Sc(ha:allowedS w 20 o=true)(hq:eD w s t o wake bl bt 20 R dv Q):ai Q (.Xw 20) (.Xw o) (.Xw wake) (.ptr b7 0 0) (.pptr [[.Xw t]] 0 0) (.ptr b12 0 0) (.pptr [w.enc] 0 0) (.agg [.sl bl 0 s.locks.length,.Xw s.tx,dv,.sl bt 0 s.threads.length]) (eV s b7 b12 bl bt R):=by
 unfold ai;simp only[SH.names,eV,VM,VW,VN,not_or]at hnd;obtain⟨⟨n1,n2,n3,n4⟩,⟨n5,n6,n7⟩,⟨n8,n9⟩,n10,n11⟩:=hnd;have hb1:([.sl bl 0 s.locks.length,.Xw s.tx,dv,.sl bt 0 s.threads.length]:List AV).all AV.one=true:=aR hone;unfold eV;have hy:=cQ ht;obtain⟨t0,t1⟩:=aw.1 ht;have hl:inB o s.threads.length=true:=by rw[hf.threads];simpa[allowedS]using ha
 have hx:=cQ hl;obtain⟨o0,o1⟩:=aw.1 hl;have hb2:∀tx:Int,([.sl bl 0 s.locks.length,.Xw tx,dv,.sl bt 0 s.threads.length]:List AV).all AV.one=true:=λtx=>aR hone
 repeat' (first|refine st ?_|refine au rp rfl rfl hb1 rfl ?_|refine au rp rfl rfl (hb2 _) rfl ?_|refine sb λnb_ hnb_=>?_|refine s2 (λh=>?_) λh=>?_|fail)
 exact hq _ _ (s.locks) (bC s o λx=>{x with status:=1}) _ (Fz.sls rp rfl Xu (by simp[aJ])) (Fz.sls rp (ji rfl) Xu (by simp[bC])) (λp hp=>by simp only[VN];simp[hp]) (by simp only[bR,Int.reduceEq,Int.reduceNeg,if_true,if_false,or_self,or_true,true_or,or_false,false_or,reduceIte,reduceCtorEq])
theorem Sd(ha:allowedS w 21 o=true)(hq:eD w s t o wake bl bt 21 R dv Q):ai Q (.Xw 21) (.Xw o) (.Xw wake) (.ptr b7 0 0) (.pptr [[.Xw t]] 0 0) (.ptr b12 0 0) (.pptr [w.enc] 0 0) (.agg [.sl bl 0 s.locks.length,.Xw s.tx,dv,.sl bt 0 s.threads.length]) (eV s b7 b12 bl bt R):=by
 unfold ai;simp only[SH.names,eV,VM,VW,VN,not_or]at hnd;obtain⟨⟨n1,n2,n3,n4⟩,⟨n5,n6,n7⟩,⟨n8,n9⟩,n10,n11⟩:=hnd;have hb1:([.sl bl 0 s.locks.length,.Xw s.tx,dv,.sl bt 0 s.threads.length]:List AV).all AV.one=true:=aR hone;unfold eV;have hy:=cQ ht;obtain⟨t0,t1⟩:=aw.1 ht;have hb2:∀tx:Int,([.sl bl 0 s.locks.length,.Xw tx,dv,.sl bt 0 s.threads.length]:List AV).all AV.one=true:=λtx=>aR hone
 repeat' (first|refine st ?_|refine au rp rfl rfl hb1 rfl ?_|refine au rp rfl rfl (hb2 _) rfl ?_|refine sb λnb_ hnb_=>?_|refine s2 (λh=>?_) λh=>?_|fail)
 exact hq _ _ (s.locks) (s.threads) _ (Fz.sls rp rfl Xu (by simp[aJ])) (Fz.sls rp rfl Xu (by simp[bC])) (λp hp=>by simp only[VN];simp[hp]) (by simp only[bR,Int.reduceEq,Int.reduceNeg,if_true,if_false,or_self,or_true,true_or,or_false,false_or,reduceIte,reduceCtorEq])
theorem Se(ha:allowedS w 23 o=true)(hq:eD w s t o wake bl bt 23 R dv Q):ai Q (.Xw 23) (.Xw o) (.Xw wake) (.ptr b7 0 0) (.pptr [[.Xw t]] 0 0) (.ptr b12 0 0) (.pptr [w.enc] 0 0) (.agg [.sl bl 0 s.locks.length,.Xw s.tx,dv,.sl bt 0 s.threads.length]) (eV s b7 b12 bl bt R):=by
 unfold ai;simp only[SH.names,eV,VM,VW,VN,not_or]at hnd;obtain⟨⟨n1,n2,n3,n4⟩,⟨n5,n6,n7⟩,⟨n8,n9⟩,n10,n11⟩:=hnd;have hb1:([.sl bl 0 s.locks.length,.Xw s.tx,dv,.sl bt 0 s.threads.length]:List AV).all AV.one=true:=aR hone;unfold eV;have hy:=cQ ht;obtain⟨t0,t1⟩:=aw.1 ht;have hb2:∀tx:Int,([.sl bl 0 s.locks.length,.Xw tx,dv,.sl bt 0 s.threads.length]:List AV).all AV.one=true:=λtx=>aR hone
 repeat' (first|refine st ?_|refine au rp rfl rfl hb1 rfl ?_|refine au rp rfl rfl (hb2 _) rfl ?_|refine sb λnb_ hnb_=>?_|refine s2 (λh=>?_) λh=>?_|fail)
 exact hq _ _ (s.locks) (s.threads) _ (Fz.sls rp rfl Xu (by simp[aJ])) (Fz.sls rp rfl Xu (by simp[bC])) (λp hp=>by simp only[VN];simp[hp]) (by simp only[bR,Int.reduceEq,Int.reduceNeg,if_true,if_false,or_self,or_true,true_or,or_false,false_or,reduceIte,reduceCtorEq])
theorem Sf(hT:s.threads.length<2^40)(hq:eD w s t o wake bl bt 18 R dv Q):ai Q (.Xw 18) (.Xw o) (.Xw wake) (.ptr b7 0 0) (.pptr [[.Xw t]] 0 0) (.ptr b12 0 0) (.pptr [w.enc] 0 0) (.agg [.sl bl 0 s.locks.length,.Xw s.tx,dv,.sl bt 0 s.threads.length]) (eV s b7 b12 bl bt R):=by
 unfold ai;simp only[SH.names,eV,VM,VW,VN,not_or]at hnd;obtain⟨⟨n1,n2,n3,n4⟩,⟨n5,n6,n7⟩,⟨n8,n9⟩,n10,n11⟩:=hnd;have hb2:∀tx:Int,([.sl bl 0 s.locks.length,.Xw tx,dv,.sl bt 0 s.threads.length]:List AV).all AV.one=true:=λtx=>aR hone
 unfold eV
 repeat' (first|refine st ?_|refine au rp rfl rfl (hb2 _) rfl ?_|((with_reducible refine aY 78 ?_);(refine j9 (Me _ _ _ bt s.threads o wake hT (hb2 _)) rp ?_;rintro _ _ ⟨rfl,rfl⟩))|refine sb λnb_ hnb_=>?_|refine s2 (λh=>?_) λh=>?_|fail)
 exact hq _ _ s.locks (jh s.threads o wake) _ (Fz.sls rp rfl Xu rfl) (Fz.sls rp rfl Xu (zQ _ _ _).symm) (λp hp=>by simp only[VN,VY];simp[hp]) (by simp only[bR,Int.reduceEq,Int.reduceNeg,if_true,if_false,or_self,or_true,true_or,or_false,false_or,reduceIte,reduceCtorEq])
theorem Sg(hT:s.threads.length<2^40)(hq:eD w s t o wake bl bt 19 R dv Q):ai Q (.Xw 19) (.Xw o) (.Xw wake) (.ptr b7 0 0) (.pptr [[.Xw t]] 0 0) (.ptr b12 0 0) (.pptr [w.enc] 0 0) (.agg [.sl bl 0 s.locks.length,.Xw s.tx,dv,.sl bt 0 s.threads.length]) (eV s b7 b12 bl bt R):=by
 unfold ai;simp only[SH.names,eV,VM,VW,VN,not_or]at hnd;obtain⟨⟨n1,n2,n3,n4⟩,⟨n5,n6,n7⟩,⟨n8,n9⟩,n10,n11⟩:=hnd;have hb2:∀tx:Int,([.sl bl 0 s.locks.length,.Xw tx,dv,.sl bt 0 s.threads.length]:List AV).all AV.one=true:=λtx=>aR hone
 unfold eV
 repeat' (first|refine st ?_|refine au rp rfl rfl (hb2 _) rfl ?_|((with_reducible refine aY 79 ?_);(refine j9 (GU _ _ _ bt s.threads o hT (hb2 _)) rp ?_;rintro _ _ ⟨rfl,rfl⟩))|refine sb λnb_ hnb_=>?_|refine s2 (λh=>?_) λh=>?_|fail)
 exact hq _ _ s.locks (ID s o) _ (Fz.sls rp rfl Xu rfl) (Fz.sls rp rfl Xu (db _ _ _).symm) (λp hp=>by simp only[VN,VY];simp[hp]) (by simp only[bR,Int.reduceEq,Int.reduceNeg,if_true,if_false,or_self,or_true,true_or,or_false,false_or,reduceIte,reduceCtorEq])
def Q9(bd:Nat)(Q:AV→SH→Prop):Prop:=∀(L:SH),Fz L (.sl bl 0 s.locks.length) (.lst (s.locks.map LockD.enc))→Fz L (.sl bt 0 s.threads.length) (.lst (s.threads.map ThrD.enc))→Fz L (.sl bd 0 s.done.length) (.lst ((s.done.set o.toNat true).map aI))→
 Q (.tup [.agg [.sl bl 0 s.locks.length,.Xw s.tx,.sl bd 0 s.done.length,.sl bt 0 s.threads.length],.Xw 0,.bool true]) L
omit hone hnd in
theorem Sh(bd:Nat)(hnd:(eV s b7 b12 bl bt [(bd,⟨1,s.done.map aI⟩)]).names.Nodup)(ha:allowedS w 22 o=true)(hq:Q9 s o bl bt bd Q):ai Q (.Xw 22) (.Xw o) (.Xw wake) (.ptr b7 0 0) (.pptr [[.Xw t]] 0 0) (.ptr b12 0 0) (.pptr [w.enc] 0 0) (.agg [.sl bl 0 s.locks.length,.Xw s.tx,.sl bd 0 s.done.length,.sl bt 0 s.threads.length]) (eV s b7 b12 bl bt [(bd,⟨1,s.done.map aI⟩)]):=by
 unfold ai eV;have hl:inB o s.done.length=true:=by rw[hf.done];simpa[allowedS]using ha
 obtain⟨o0,o1⟩:=aw.1 hl;have hx:(s.done.map aI)[0+o.toNat]? =some (aI (s.done.getD o.toNat default)):=by rw[WG];exact dK hl
 repeat' (first|refine st ?_|refine sb λnb_ hnb_=>?_|refine s2 (λh=>?_) λh=>?_|fail)
 refine hq _ (Fz.sls rp rfl Xu rfl) (Fz.sls rp rfl Xu rfl) (Fz.sls rp ?_ Xu Xu);rw[WH,WG];rfl
end
end
section
set_option maxRecDepth 100000
set_option linter.unusedSimpArgs false
set_option linter.unusedSectionVars false
theorem IE{K:SH}{bl:Nat}{rows:List (List AV)}{ls:List LockD}{n:Nat}(hm:(bl,⟨2,rows⟩)∈K)(hn:n=ls.length)(hl:rows.length=ls.length)
  (h:∀(j:Nat) (r:List AV) (x:LockD),rows[j]? =some r→ls[j]? =some x→∃a,r=[.Xw x.owner,a]∧Fz K a (.lst (x.readers.map aj))):Fz K (.sl bl 0 n) (.lst (ls.map LockD.enc)):=by
 subst hn;rcases WE ls.length with h0|h0
 ·have:ls=[]:=WS.1 h0;subst this;exact .sl0 bl 0
 ·have get:∀(j:Nat) (r r2:List AV),rows[0+j]? =some r→(ls.map LockD.enc)[j]? =some r2→∃x:LockD,ls[j]? =some x∧r2=x.enc∧∃a,r=[.Xw x.owner,a]∧Fz K a (.lst (x.readers.map aj)):=λj r r2 h1 h2=>by
   rw[WG]at h1;rw[VZ]at h2;cases hj:ls[j]? with
   |none=>rw[hj]at h2;cases h2
   |some x=>rw[hj]at h2;cases h2;exact⟨x,rfl,rfl,h j r x h1 hj⟩
  refine .sl bl 0 _ ⟨2,rows⟩ _ hm Xu h0 Xu (by simp;omega) (λj r r2 h1 h2=>?_) (λj r r2 q a a2 h1 h2 h3 h4=>?_)
  ·obtain⟨x,_,rfl,a,rfl,_⟩:=get j r r2 h1 h2;rfl
  ·obtain⟨x,_,rfl,a',rfl,hz⟩:=get j r r2 h1 h2
   match q with
   |0=>cases h3;cases h4;exact .refl _
   |1=>cases h3;cases h4;exact hz
   |q+2=>simp at h3
theorem enc_row(x:LockD){K:SH}:∃a,x.enc=[.Xw x.owner,a]∧Fz K a (.lst (x.readers.map aj)):=⟨_,rfl,.refl _⟩
theorem Lq{K:SH}{s:SyncD}{o:Int}{ro:Option Nat}{f:LockD→LockD}{a:AV}(hl:inB o s.locks.length=true)(hf:∀x,(f x).owner=x.owner)(ha:Fz K a (.lst ((f (aL s o)).readers.map aj))):
  ∀(j:Nat) (r:List AV) (x:LockD),((bZ o.toNat ro s.locks).set (0+o.toNat) [.Xw (aL s o).owner,a])[j]? =some r→(aJ s o f)[j]? =some x→∃a,r=[.Xw x.owner,a]∧Fz K a (.lst (x.readers.map aj)):=by
 intro j r x h1 h2;obtain⟨o0,o1⟩:=aw.1 hl;have hlt:o.toNat<s.locks.length:=by omega
 unfold aJ at h2;rw[WG]at h1;by_cases hj:o.toNat=j
 ·subst hj;rw[List.getElem?_set_self (by rw[co];exact hlt)]at h1;rw[List.getElem?_set_self hlt]at h2;cases h1;cases h2;exact⟨a,by rw[hf],ha⟩
 ·rw[List.getElem?_set_ne hj]at h1 h2;have hjl:j<s.locks.length:=(Wt.1 h2).1;rw[fG _ _ _ _ hjl]at h1;rw[VK hjl]at h2;cases h1;cases h2;unfold ng;rw[if_neg (λe=>hj e.symm)];exact enc_row _
theorem IF{s:SyncD}{o:Int}{ro:Option Nat}(hl:inB o s.locks.length=true):(bZ o.toNat ro s.locks)[0+o.toNat]? =some [.Xw (aL s o).owner,am ro (aL s o).readers.length]:=by
 obtain⟨o0,o1⟩:=aw.1 hl;have hlt:o.toNat<s.locks.length:=by omega
 rw[WG,fG _ _ _ _ hlt];unfold ng;rw[if_pos rfl];simp[aL,hlt]
section
variable (w:aM) (s:SyncD) (t o wake:Int) (b7 b12 bl bt:Nat)
def N7(ro:Option Nat)(R:SH):SH:=(bl,⟨2,bZ o.toNat ro s.locks⟩)::(bt,⟨3,s.threads.map ThrD.enc⟩)::(b12,⟨4,[[.nils,.Xw 0,.nils,.nils]]⟩)::(b7,⟨4,[s.enc]⟩)::(ae ro 1 ((aL s o).readers.map aj)++R)
variable (R:SH) (dv:AV) (hone:dv.one=true) (Q:AV→SH→Prop) (hl:inB o s.locks.length=true) (hrd:(aL s o).readers.length<2^40)
include hone hl hrd
theorem Up(br:Nat)(hnd:(N7 s o b7 b12 bl bt (some br) R).names.Nodup)(hq:eD w s t o wake bl bt 9 R dv Q):ai Q (.Xw 9) (.Xw o) (.Xw wake) (.ptr b7 0 0) (.pptr [[.Xw t]] 0 0) (.ptr b12 0 0) (.pptr [w.enc] 0 0) (.agg [.sl bl 0 s.locks.length,.Xw s.tx,dv,.sl bt 0 s.threads.length]) (N7 s o b7 b12 bl bt (some br) R):=by
 unfold ai;simp only[SH.names,N7,ae,VM,VW,VN,not_or,W2,WN]at hnd;obtain⟨⟨n1,n2,n3,n4,n12⟩,⟨n5,n6,n7,n13⟩,⟨n8,n9,n14⟩,⟨n15,n16⟩,n10,n11⟩:=hnd;have hb2:∀tx:Int,([.sl bl 0 s.locks.length,.Xw tx,dv,.sl bt 0 s.threads.length]:List AV).all AV.one=true:=λtx=>aR hone
 obtain⟨o0,o1⟩:=aw.1 hl;have hx:=IF (ro:=some br) hl;have hdel:=Fg 77 [.pptr [[.Xw t]] 0 0] (λx=>decide (x=t)) (Mg t 0 []) br (aL s o).readers Xr;unfold N7;simp only[ae,W2,WN]
 repeat' (first|refine st ?_|refine au rp rfl rfl (hb2 _) rfl ?_|((with_reducible refine ee 76 ?_);(refine Di hdel rp (by(simp only[rm,rc,rz,W.free,av,↓reduceIte,Nat.reduceEqDiff,aa,dR,Xp,Wp,Wi,not_false_eq_true,implies_true,and_true,true_and,and_self,Wd,reduceCtorEq,forall_const,false_implies,VR,forall_eq,Wr,WN,VN,or_false,false_or,forall_eq_or_imp,not_or])<;>(repeat' constructor)<;>first|assumption|(exact Ne.symm Xs)|(intro e_;subst e_;simp[SH.names]at *;done)) ?_;rintro _ _ ⟨R',rfl,rfl,hR1,hR2⟩))|refine sb λnb_ hnb_=>?_|refine s2 (λh=>?_) λh=>?_|fail)
 refine hq _ _ (aJ s o λx=>{x with readers:=x.readers.filter λy=>!decide (y=t)}) s.threads _ (IE rp (by simp[aJ]) (by simp[aJ,co]) (Lq hl (λ_=>rfl) ?_)) (Fz.sls rp rfl Xu rfl) (λp hp=>by simp only[VN,VY];simp[hp]) (by simp only[bR,Int.reduceEq,if_true,if_false,or_self,reduceIte]);rw[←Dm hR1];exact Fz.rows (x:=⟨1,R'.map aj⟩) rp Xu (by simp[hR2];exact Xi _ _)
theorem Uq(ro:Option Nat)(hro:ro=none→(aL s o).readers=[])(hnd:(N7 s o b7 b12 bl bt ro R).names.Nodup)(hq:eD w s t o wake bl bt 8 R dv Q):ai Q (.Xw 8) (.Xw o) (.Xw wake) (.ptr b7 0 0) (.pptr [[.Xw t]] 0 0) (.ptr b12 0 0) (.pptr [w.enc] 0 0) (.agg [.sl bl 0 s.locks.length,.Xw s.tx,dv,.sl bt 0 s.threads.length]) (N7 s o b7 b12 bl bt ro R):=by
 unfold ai;simp only[SH.names,N7,VM,VW,VN,not_or]at hnd;obtain⟨⟨n1,n2,n3,n4⟩,⟨n5,n6,n7⟩,⟨n8,n9⟩,n10,n11⟩:=hnd;have hb2:∀tx:Int,([.sl bl 0 s.locks.length,.Xw tx,dv,.sl bt 0 s.threads.length]:List AV).all AV.one=true:=λtx=>aR hone
 obtain⟨o0,o1⟩:=aw.1 hl;have hx:=IF (ro:=ro) hl;have hsort:∀nb,af Tryz.prog 74 [.sl nb 0 ((aL s o).readers.length+1)] [(nb,⟨1,(aL s o).readers.map aj++[[.Xw t]]⟩)] λv L=>v=.tup []∧L=[(nb,⟨1,(zB ((aL s o).readers++[t])).map aj⟩)]:=λnb=>by have:=Lk nb ((aL s o).readers++[t]) (by simp;omega);rw[VT,VQ]at this;exact this
 have hcomp:∀nb,af Tryz.prog 75 [.sl nb 0 ((aL s o).readers.length+1)] [(nb,⟨1,(zB ((aL s o).readers++[t])).map aj⟩)] λv L=>∃R':List Int,v=.sl nb 0 (w6 (aL s o).readers t).length∧L=[(nb,⟨1,R'.map aj⟩)]∧R'.take (w6 (aL s o).readers t).length=w6 (aL s o).readers t∧(w6 (aL s o).readers t).length≤R'.length:=λnb=>by
  have:=Dn nb (zB ((aL s o).readers++[t])) (by rw[qi];simp;omega);rw[qi,VT]at this;refine this.mono λv L ⟨h1,h2⟩=>⟨_,h1,h2,?_,?_⟩
  ·exact List.take_left' rfl
  ·simp[w6]
 unfold N7
 repeat' (first|refine st ?_|refine au rp rfl rfl (hb2 _) rfl ?_|(refine Im [_,_,_,_] Xu (λe=>by rw[hro e];rfl) rfl (Nat.succ_pos 0) (by simp;omega) (by simp;omega) rfl ?_;intro nb_ hnb_;simp only[VN,Wi,or_false,forall_eq_or_imp,forall_eq]at hnb_;obtain⟨q1,q2,q3,q4⟩:=hnb_)|((with_reducible refine aY 74 ?_);(refine j9 (hsort _) rp ?_;rintro _ _ ⟨rfl,rfl⟩))|((with_reducible refine ee 75 ?_);(refine Di (hcomp _) rp (by(simp only[rm,rc,rz,W.free,av,↓reduceIte,Nat.reduceEqDiff,aa,dR,Xp,Wp,Wi,not_false_eq_true,implies_true,and_true,true_and,and_self,Wd,reduceCtorEq,forall_const,false_implies,VR,forall_eq,Wr,WN,VN,or_false,false_or,forall_eq_or_imp,not_or])<;>(repeat' constructor)<;>first|assumption|(exact Ne.symm Xs)|(intro e_;subst e_;simp[SH.names]at *;done)) ?_;rintro _ _ ⟨R',rfl,rfl,hR1,hR2⟩))|refine sb λnb_ hnb_=>?_|refine s2 (λh=>?_) λh=>?_|fail)
 refine hq _ _ (aJ s o λx=>{x with readers:=w6 x.readers t}) s.threads _ (IE rp (by simp[aJ]) (by simp[aJ,co]) (Lq hl (λ_=>rfl) ?_)) (Fz.sls rp rfl Xu rfl) (λp hp=>by simp only[VN,VY];simp[hp]) (by simp only[bR,Int.reduceEq,if_true,if_false,or_self,reduceIte]);rw[←Dm hR1];exact Fz.rows (x:=⟨1,R'.map aj⟩) rp Xu (by simp;exact hR2)
end
end
section
set_option maxRecDepth 100000
set_option linter.unusedSimpArgs false
set_option linter.unusedSectionVars false
def Lr:SyncD:=⟨[],0,[],[]⟩
def fy(w:aM)(s:SyncD)(t k o wake:Int):SyncD×Int×Bool:=if bv w s t k o then((bR w s t k o wake).1,(bR w s t k o wake).2,true)else(Lr,0,false)
def Si(r:SyncD×Int×Bool):AV:=.tup [.agg r.1.enc,.Xw r.2.1,.bool r.2.2]
theorem GW(ro:Option Nat)(ls:List LockD):bZ ls.length ro ls=ls.map LockD.enc:=by
 apply WU;intro i;rcases VO i ls.length with hi|hi
 ·rw[fG _ _ _ _ hi,ng,if_neg Xr];simp[hi]
 ·rw[VP (by rw[co];exact hi),VP (by simpa using hi)]
section
variable (s:SyncD) (h1:s.locks.length<2^40) (h2:s.done.length≤140737488351232) (h3:s.threads.length<2^40) (hrd:∀l∈s.locks,l.readers.length<2^40) (hne:s.threads≠[])
include h1 h2 h3 hrd hne
theorem IG:af Tryz.prog 73 [.agg s.enc] [] λv L=>∃bl bt od,v=.agg [.sl bl 0 s.locks.length,.Xw s.tx,aP od s.done.length,.sl bt 0 s.threads.length]∧L=(bl,⟨2,s.locks.map LockD.enc⟩)::(ae od 1 (s.done.map aI)++[(bt,⟨3,s.threads.map ThrD.enc⟩)])∧(od=none→s.done=[]):=by
 refine(IB s s.locks.length h1 h2 h3 hrd).mono ?_;rintro v L ⟨bl,ro,od,ot,rfl,rfl,hod,hot,hro⟩;cases ot with
 |none=>exact absurd (hot rfl) hne
 |some bt=>exact⟨bl,bt,od,rfl,by rw[GW,HG,if_neg (Nat.lt_irrefl _)];rfl,hod⟩
theorem N8(o:Int)(hl:inB o s.locks.length=true):af Tryz.prog 73 [.agg s.enc] [] λv L=>∃bl bt ro od,v=.agg [.sl bl 0 s.locks.length,.Xw s.tx,aP od s.done.length,.sl bt 0 s.threads.length]∧L=(bl,⟨2,bZ o.toNat ro s.locks⟩)::(ae ro 1 ((aL s o).readers.map aj)++(ae od 1 (s.done.map aI)++[(bt,⟨3,s.threads.map ThrD.enc⟩)]))∧(od=none→s.done=[])∧(ro=none→(aL s o).readers=[]):=by
 obtain⟨o0,o1⟩:=aw.1 hl;have hlt:o.toNat<s.locks.length:=by omega
 refine(IB s o.toNat h1 h2 h3 hrd).mono ?_;rintro v L ⟨bl,ro,od,ot,rfl,rfl,hod,hot,hro⟩;cases ot with
 |none=>exact absurd (hot rfl) hne
 |some bt=>exact⟨bl,bt,ro,od,rfl,by rw[HG,if_pos hlt];rfl,hod,λe=>hro e hlt⟩
end
theorem N9{α:Type}(a b c d:α)(X:List α):((a::(X++[b]))++[c,d]).Perm (a::b::c::d::X):=by refine List.Perm.cons a ?_;show((X++[b])++[c,d]).Perm _;rw[Wq];exact Wf (l₁:=X) (l₂:=[b,c,d])
theorem Sj{α:Type}(a b c d:α)(X Y:List α):((a::(X++(Y++[b])))++[c,d]).Perm (a::b::c::d::(X++Y)):=by rw[←Wq];exact N9 a b c d (X++Y)
theorem bF(od:Option Nat)(n:Nat):(aP od n).one=true:=by cases od<;>rfl
theorem P5{s:SyncD}{od:Option Nat}(hod:od=none→s.done=[]){L:SH}(hR:∀p∈ae od 1 (s.done.map aI),p∈L):Fz L (aP od s.done.length) (.lst (s.done.map aI)):=by
 cases od with
 |none=>rw[hod rfl];exact .refl _
 |some bd=>exact Fz.sls (hR _ (VR.2 rfl)) rfl Xu rfl
structure Oa(w:aM)(s:SyncD):Prop where
 conds:w.conds.length<2^40
 locks:s.locks.length<2^40
 done:s.done.length≤140737488351232
 threads:s.threads.length<2^40
 rd:∀l∈s.locks,l.readers.length<2^40
section
variable (w:aM) (s:SyncD) (t k o wake:Int)
def Fh(v:AV)(L:SH):Prop:=∃v2 L2,aF [v] L [v2] L2∧v2=Si (fy w s t k o wake)∧L2=[]
theorem Ur(hen:bv w s t k o=true)(bl bt:Nat)(od:Option Nat)(hod:od=none→s.done=[]):eD w s t o wake bl bt k (ae od 1 (s.done.map aI)) (aP od s.done.length) (Fh w s t k o wake):=by intro tx val ls th L f1 f2 hR e;refine⟨_,[],aF.all (Fz.tups (.cons (Fz.aggs (.cons f1 (.cons (.refl _) (.cons (P5 hod hR) (.cons f2 .nil))))) (.cons (.refl _) (.cons (.refl _) .nil)))),?_,rfl⟩;unfold fy;rw[if_pos hen,e];rfl
theorem Us(hen:bv w s t 22 o=true)(bl bt bd:Nat):Q9 s o bl bt bd (Fh w s t 22 o wake):=by intro L f1 f2 f3;refine⟨_,[],aF.all (Fz.tups (.cons (Fz.aggs (.cons f1 (.cons (.refl _) (.cons f3 (.cons f2 .nil))))) (.cons (.refl _) (.cons (.refl _) .nil)))),?_,rfl⟩;unfold fy;rw[if_pos hen];rfl
theorem Ob(hs:Oa w s)(hen:bv w s t k o=true)(b7 b12:Nat):
  W.callM Tryz.prog 73 [.agg s.enc] [(b12,⟨4,[[.nils,.Xw 0,.nils,.nils]]⟩),(b7,⟨4,[s.enc]⟩)] (ai (Fh w s t k o wake) (.Xw k) (.Xw o) (.Xw wake) (.ptr b7 0 0) (.pptr [[.Xw t]] 0 0) (.ptr b12 0 0) (.pptr [w.enc] 0 0)):=by
 have hen':=hen;unfold bv at hen';simp only[V5]at hen';obtain⟨⟨⟨hfi,hth⟩,hal⟩,hkd⟩:=hen';have hf:=zO.1 hfi;have ht:inB t s.threads.length=true:=by rw[hf.threads];exact hth
 obtain⟨t0,t1⟩:=aw.1 ht;have hne:s.threads≠[]:=λe=>by rw[e]at t1;simp at t1;omega
 have plain:(∀bl bt od,(od=none→s.done=[])→(eV s b7 b12 bl bt (ae od 1 (s.done.map aI))).names.Nodup→ai (Fh w s t k o wake) (.Xw k) (.Xw o) (.Xw wake) (.ptr b7 0 0) (.pptr [[.Xw t]] 0 0) (.ptr b12 0 0) (.pptr [w.enc] 0 0) (.agg [.sl bl 0 s.locks.length,.Xw s.tx,aP od s.done.length,.sl bt 0 s.threads.length]) (eV s b7 b12 bl bt (ae od 1 (s.done.map aI))))→
   W.callM Tryz.prog 73 [.agg s.enc] [(b12,⟨4,[[.nils,.Xw 0,.nils,.nils]]⟩),(b7,⟨4,[s.enc]⟩)] (ai (Fh w s t k o wake) (.Xw k) (.Xw o) (.Xw wake) (.ptr b7 0 0) (.pptr [[.Xw t]] 0 0) (.ptr b12 0 0) (.pptr [w.enc] 0 0)):=λh=>by
  refine Li (IG s hs.locks hs.done hs.threads hs.rd hne) ?_;rintro v K ⟨bl,bt,od,rfl,rfl,hod⟩;exact⟨eV s b7 b12 bl bt (ae od 1 (s.done.map aI)),N9 _ _ _ _ _,h bl bt od hod⟩
 have readers:inB o s.locks.length=true→(∀bl bt ro od,(od=none→s.done=[])→(ro=none→(aL s o).readers=[])→(N7 s o b7 b12 bl bt ro (ae od 1 (s.done.map aI))).names.Nodup→ai (Fh w s t k o wake) (.Xw k) (.Xw o) (.Xw wake) (.ptr b7 0 0) (.pptr [[.Xw t]] 0 0) (.ptr b12 0 0) (.pptr [w.enc] 0 0) (.agg [.sl bl 0 s.locks.length,.Xw s.tx,aP od s.done.length,.sl bt 0 s.threads.length]) (N7 s o b7 b12 bl bt ro (ae od 1 (s.done.map aI))))→
   W.callM Tryz.prog 73 [.agg s.enc] [(b12,⟨4,[[.nils,.Xw 0,.nils,.nils]]⟩),(b7,⟨4,[s.enc]⟩)] (ai (Fh w s t k o wake) (.Xw k) (.Xw o) (.Xw wake) (.ptr b7 0 0) (.pptr [[.Xw t]] 0 0) (.ptr b12 0 0) (.pptr [w.enc] 0 0)):=λhl h=>by
  refine Li (N8 s hs.locks hs.done hs.threads hs.rd hne o hl) ?_;rintro v K ⟨bl,bt,ro,od,rfl,rfl,hod,hro⟩;exact⟨N7 s o b7 b12 bl bt ro (ae od 1 (s.done.map aI)),Sj _ _ _ _ _ _,h bl bt ro od hod hro⟩
 have e1:=λbl bt od hod=>Ur w s t k o wake hen bl bt od hod
 have hrl:∀o,inB o s.locks.length=true→(aL s o).readers.length<2^40:=λo h=>by
  obtain⟨o0,o1⟩:=aw.1 h;have hlt:o.toNat<s.locks.length:=by omega
  unfold aL;rw[show s.locks.getD o.toNat default=s.locks[o.toNat] by simp[hlt]];exact hs.rd _ (V3 hlt)
 rcases kinds k with hk|rfl|rfl|rfl|rfl|rfl|rfl|rfl|rfl|rfl|rfl|rfl|rfl|rfl|rfl|rfl|rfl|rfl|rfl|rfl|rfl|rfl|rfl|rfl
 ·simp only[allowedS]at hal
  repeat (rw[if_neg Xr]at hal)
  cases hal
 ·exact plain λbl bt od hod hnd=>Ui w s t o wake b7 b12 bl bt _ _ (bF _ _) _ hf ht hnd hal (e1 bl bt od hod)
 ·exact plain λbl bt od hod hnd=>Uj w s t o wake b7 b12 bl bt _ _ (bF _ _) _ hf ht hnd hal (e1 bl bt od hod)
 ·exact plain λbl bt od hod hnd=>Uk w s t o wake b7 b12 bl bt _ _ (bF _ _) _ hf ht hnd hal (e1 bl bt od hod)
 ·exact plain λbl bt od hod hnd=>Ul w s t o wake b7 b12 bl bt _ _ (bF _ _) _ hf ht hnd hal (e1 bl bt od hod)
 ·exact plain λbl bt od hod hnd=>Um w s t o wake b7 b12 bl bt _ _ (bF _ _) _ hf ht hnd hal (e1 bl bt od hod)
 ·exact plain λbl bt od hod hnd=>Un w s t o wake b7 b12 bl bt _ _ (bF _ _) _ hf ht hnd hal (e1 bl bt od hod)
 ·exact plain λbl bt od hod hnd=>Uo w s t o wake b7 b12 bl bt _ _ (bF _ _) _ hf ht hnd hal (e1 bl bt od hod)
 ·have hl:inB o s.locks.length=true:=by rw[hf.locks];simp[allowedS]at hal;exact hal.1
  exact readers hl λbl bt ro od hod hro hnd=>Uq w s t o wake b7 b12 bl bt _ _ (bF _ _) _ hl (hrl o hl) ro hro hnd (e1 bl bt od hod)
 ·have hl:inB o s.locks.length=true:=by rw[hf.locks];simp[allowedS]at hal;exact hal.1
  refine readers hl λbl bt ro od hod hro hnd=>?_
  cases ro with
  |none=>
   have hc:(aL s o).readers.contains t=true:=by have:=hkd;simp[cP]at this;simpa using this.2
   rw[hro rfl]at hc;cases hc
  |some br=>exact Up w s t o wake b7 b12 bl bt _ _ (bF _ _) _ hl (hrl o hl) br hnd (e1 bl bt od hod)
 ·exact plain λbl bt od hod hnd=>R4 w s t o wake b7 b12 bl bt _ _ (bF _ _) _ hf ht hnd hal (e1 bl bt od hod)
 ·exact plain λbl bt od hod hnd=>R5 w s t o wake b7 b12 bl bt _ _ (bF _ _) _ hf ht hnd hal (e1 bl bt od hod)
 ·exact plain λbl bt od hod hnd=>R6 w s t o wake b7 b12 bl bt _ _ (bF _ _) _ hf ht hnd hal (e1 bl bt od hod)
 ·exact plain λbl bt od hod hnd=>R7 w s t o wake b7 b12 bl bt _ _ (bF _ _) _ hf ht hnd hal (e1 bl bt od hod)
 ·exact plain λbl bt od hod hnd=>R8 w s t o wake b7 b12 bl bt _ _ (bF _ _) _ hf ht hnd hal (e1 bl bt od hod)
 ·exact plain λbl bt od hod hnd=>R9 w s t o wake b7 b12 bl bt _ _ (bF _ _) _ hf ht hnd hal (e1 bl bt od hod)
 ·exact plain λbl bt od hod hnd=>Sa w s t o wake b7 b12 bl bt _ _ (bF _ _) _ hf ht hnd hal (e1 bl bt od hod)
 ·exact plain λbl bt od hod hnd=>Sb w s t o wake b7 b12 bl bt _ _ (bF _ _) _ hf ht hnd hal (e1 bl bt od hod)
 ·exact plain λbl bt od hod hnd=>Sf w s t o wake b7 b12 bl bt _ _ (bF _ _) _ hf ht hnd hs.threads (e1 bl bt od hod)
 ·exact plain λbl bt od hod hnd=>Sg w s t o wake b7 b12 bl bt _ _ (bF _ _) _ hf ht hnd hs.threads (e1 bl bt od hod)
 ·exact plain λbl bt od hod hnd=>Sc w s t o wake b7 b12 bl bt _ _ (bF _ _) _ hf ht hnd hal (e1 bl bt od hod)
 ·exact plain λbl bt od hod hnd=>Sd w s t o wake b7 b12 bl bt _ _ (bF _ _) _ hf ht hnd hal (e1 bl bt od hod)
 ·refine plain λbl bt od hod hnd=>?_
  cases od with
  |none=>
   have hl:inB o s.done.length=true:=by rw[hf.done];simpa[allowedS]using hal
   obtain⟨o0,o1⟩:=aw.1 hl;rw[hod rfl]at o1;simp at o1;omega
  |some bd=>exact Sh w s t o wake b7 b12 bl bt _ hf ht bd hnd hal (Us w s t o wake hen bl bt bd)
 ·exact plain λbl bt od hod hnd=>Se w s t o wake b7 b12 bl bt _ _ (bF _ _) _ hf ht hnd hal (e1 bl bt od hod)
theorem Oc(hs:Oa w s):ax Tryz.prog 50 [.agg w.enc,.agg s.enc,.Xw t,.Xw k,.Xw o,.Xw wake] (Si (fy w s t k o wake)):=by
 refine af.fz (BG _ _ _ _ _ _ _ _ ?_);show je _ _ _ _ _ _ _ (Fh w s t k o wake);unfold je;have hcn:w.conds.length<2^62:=by have:=hs.conds;omega
 have he:=Dv w s t k o hcn hs.rd;have hc8:=Ob w s t k o wake hs;have fin:bv w s t k o=false→∀L,Fh w s t k o wake (.tup [.agg [.nils,.Xw 0,.nils,.nils],.Xw 0,.bool false]) L:=λhn L=>by refine⟨_,[],aF.all (Fz.tups (.cons (Fz.aggs (.cons .nils (.cons (.refl _) (.cons .nils (.cons .nils .nil))))) (.cons (.refl _) (.cons (.refl _) .nil)))),?_,rfl⟩;unfold fy;rw[hn];rfl
 generalize Fh w s t k o wake=Q at *;cases hen:bv w s t k o with
 |false=>
  rw[hen]at he;have nh:(!false)=true:=rfl;have fin:=fin hen;clear hc8
  repeat' (first|refine st ?_|(refine pf 24 ?_;refine pm (he) ?_)|refine sb λnb_ hnb_=>?_|refine s2 (λh=>?_) λh=>?_|fail)
  exact fin _
 |true=>
  rw[hen]at he;have hc8:=hc8 hen;clear fin
  repeat' (first|exact hc8 _ _|refine st ?_|(refine pf 24 ?_;refine pm (he) ?_)|refine sb λnb_ hnb_=>?_|refine s2 (λh=>?_) λh=>?_|fail)
end
end
theorem ip(d:Array Int)(hs:∀i j,i<j→j<d.size→d[i]!≤d[j]!):∀m,m≤d.size→
  (Lib.compactUpTo d m).Pairwise (·<·)∧(∀x∈Lib.compactUpTo d m,∃j,j<m∧x=d[j]!)∧(∀j,j<m→d[j]!∈Lib.compactUpTo d m)
 |0,_=>⟨by simp[Lib.compactUpTo],by simp[Lib.compactUpTo],by intro j hj;omega⟩
 | m+1,hm=>by
  obtain⟨h1,h2,h3⟩:=ip d hs m Xr;rw[Lib.compactUpTo_succ];by_cases hk:Lib.keeps d m=true
  ·rw[if_pos hk];refine⟨?_,?_,?_⟩
   ·rw[List.pairwise_append];refine⟨h1,Xu,?_⟩;intro x hx y hy;obtain⟨j,hj,rfl⟩:=h2 x hx;simp at hy;subst hy;have hle:=hs j m hj Xr;have hne:d[j]!≠d[m]! :=by
     intro he;have hm0:0<m:=by omega
     have h4:d[m]!≠d[m-1]! :=by intro h5;rw[Lib.keeps_neg hm0 h5]at hk;cases hk
     have h5:d[j]!≤d[m-1]! :=by
      rcases VO j (m-1)with h|h
      ·exact hs j (m-1) h Xr
      ·rw[show j=m-1 from by omega];exact Int.le_refl _
     have h6:d[m-1]!≤d[m]! :=hs (m-1) m Xr Xr;exact h4 Xr
    omega
   ·intro x hx;rw[VY]at hx;rcases hx with hx|hx
    ·obtain⟨j,hj,e⟩:=h2 x hx;exact⟨j,Xr,e⟩
    ·simp at hx;exact⟨m,Xr,hx⟩
   ·intro j hj;rw[VY];rcases VO j m with h|h
    ·exact .inl (h3 j h)
    ·rw[show j=m from by omega];exact .inr Xu
  ·rw[if_neg hk,Wr];have hm0:0<m:=by
    rcases WE m with h|h
    ·subst h;exact absurd (Lib.keeps_lt_one d 0 Xr) hk
    ·exact h
   have he:d[m]! =d[m-1]! :=by apply Classical.byContradiction;intro h;exact hk (Lib.keeps_pos h)
   refine⟨h1,λx hx=>?_,λj hj=>?_⟩
   ·obtain⟨j,hj,e⟩:=h2 x hx;exact⟨j,Xr,e⟩
   ·rcases VO j m with h|h
    ·exact h3 j h
    ·rw[show j=m from by omega,he];exact h3 (m-1) Xr
theorem P6(l:List Int)(j:Nat)(hj:j<l.length):l.toArray[j]! =l[j]:=by rw[getElem!_pos _ _ (by simpa using hj)];simp
theorem Dw(l:List Int):∀i j,i<j→j<(zB l).toArray.size→(zB l).toArray[i]!≤(zB l).toArray[j]! :=by
 intro i j hij hj;have hj':j<(zB l).length:=by simpa using hj
 rw[P6 _ i Xr,P6 _ j hj'];have hp:(zB l).Pairwise (λx y=>(decide (x≤y))=true):=List.pairwise_mergeSort (λa b c=>by simp;omega) (λa b=>by simp;omega) l;have:=(List.pairwise_iff_getElem.1 hp) i j Xr hj' hij;simpa using this
def Ka(l:List Int):List Int:=Lib.compact (zB l)
theorem Ls(l:List Int)(x:Int):x∈Ka l↔x∈l:=by
 obtain⟨h1,h2,h3⟩:=ip (zB l).toArray (Dw _) (zB l).length Xu;have hm:∀y,y∈zB l↔y∈l:=λy=>by simp[zB,List.mem_mergeSort]
 unfold Ka Lib.compact;constructor
 ·intro hx;obtain⟨j,hj,rfl⟩:=h2 x hx;rw[P6 _ j hj];exact(hm _).1 (V3 _)
 ·intro hx;obtain⟨j,hj,rfl⟩:=WO ((hm x).2 hx);rw[←P6 _ j hj];exact h3 j hj
theorem P7(l:List Int):(Ka l).Pairwise (·<·):=
 (ip (zB l).toArray (Dw _) (zB l).length Xu).1
structure aU where
 pc:Int
 regs:List Int
 taint:List (List Int)
 ev:Int
def cp(l:List Int):List AV:=[.lst (l.map aj)]
def aU.enc(s:aU):List AV:=[.Xw s.pc,.lst (s.regs.map aj),.lst (s.taint.map cp),.Xw s.ev]
def aU.zero:aU:=⟨0,[],[],0⟩
def aU.has(s:aU)(r:Int):Bool:=inB r s.regs.length
def aU.reg(s:aU)(r:Int):Int:=s.regs.getD r.toNat 0
def aU.tnt(s:aU)(r:Int):List Int:=s.taint.getD r.toNat []
def aU.put(s:aU)(a v:Int)(t:List Int):aU:=⟨IntKind.i64.wrap (s.pc+1),s.regs.set a.toNat v,s.taint.set a.toNat t,s.ev⟩
def bU(i:bj)(s:aU):Option aU:=
 if i.op=1 then(if s.has i.a then some (s.put i.a i.n [])else none)else
 if i.op=2 then(if s.has i.a&&s.has i.b then some (s.put i.a (s.reg i.b) (s.tnt i.b))else none)else
 if i.op=3 then(if s.has i.a&&s.has i.b&&(Pn i.n (s.reg i.b)).2 then some (s.put i.a (Pn i.n (s.reg i.b)).1 (s.tnt i.b))else none)else
 if i.op=4 then(if s.has i.a&&s.has i.b&&s.has i.c&&(Dr i.n (s.reg i.b) (s.reg i.c)).2 then some (s.put i.a (Dr i.n (s.reg i.b) (s.reg i.c)).1 (Ka (s.tnt i.b++s.tnt i.c)))else none)else
 some {s with pc:=i.a}
def fV(ins:List bj):Nat→aU→aU×Bool
 |0,s=>if inB s.pc ins.length then(if(ins.getD s.pc.toNat default).op<1∨5<(ins.getD s.pc.toNat default).op then(s,true)else(aU.zero,false))else(aU.zero,false)
 | k+1,s=>if inB s.pc ins.length then(if(ins.getD s.pc.toNat default).op<1∨5<(ins.getD s.pc.toNat default).op then(s,true)else
   match bU (ins.getD s.pc.toNat default) s with
   |none=>(aU.zero,false)
   |some s2=>fV ins k s2)else(aU.zero,false)
def bN(c:gL)(s:aU):aU×Bool:=
 if(s.regs.length:Int)=c.regs∧(s.taint.length:Int)=c.regs then fV c.ins c.ins.length s else(aU.zero,false)
def Dx(p:aU×Bool):AV:=.tup [.agg p.1.enc,.bool p.2]
structure jU(U:List Int)(s:aU):Prop where
 len:s.taint.length=s.regs.length
 small:s.regs.length<2^40
 short:∀l∈s.taint,l.length≤2^30
 sub:∀l∈s.taint,∀x∈l,x∈U
theorem F9:∀{l U:List Int},l.Nodup→(∀x∈l,x∈U)→l.length≤U.length
 |[],U,_,_=>by simp
 | x::l,U,hn,hs=>by
  have hx:x∈U:=hs x Xu;have h1:=VW.1 hn;have:=F9 (l:=l) (U:=U.erase x) h1.2 λy hy=>(List.mem_erase_of_ne (by rintro rfl;exact h1.1 hy)).2 (hs y (by simp[hy]))
  rw[List.length_erase_of_mem hx]at this;have:=List.length_pos_of_mem hx;simp only[V8];omega
theorem Mh{U l:List Int}(h:∀x∈l,x∈U):(Ka l).length≤U.length:=by have hnd:(Ka l).Nodup:=(P7 l).imp (λ{a b} (h:a<b)=>by omega);exact F9 hnd λx hx=>h x ((Ls l x).1 hx)
theorem jU.tnt{U:List Int}{s:aU}(h:jU U s)(r:Int):(s.tnt r).length≤2^30∧∀x∈s.tnt r,x∈U:=by
 unfold aU.tnt;rw[Xf];cases he:s.taint[r.toNat]? with
 |none=>simp
 |some l=>exact⟨h.short l (Wo he),h.sub l (Wo he)⟩
theorem jU.put{U:List Int}{s:aU}(h:jU U s)(a v:Int){t:List Int}(h1:t.length≤2^30)(h2:∀x∈t,x∈U):jU U (s.put a v t):=by
 refine⟨by simp[aU.put,h.len],by simpa[aU.put]using h.small,λl hl=>?_,λl hl=>?_⟩
 ·rcases W5 hl with g|g
  ·exact h.short l g
  ·rw[g];exact h1
 ·rcases W5 hl with g|g
  ·exact h.sub l g
  ·rw[g];exact h2
theorem jU.step{U:List Int}(hU:U.length≤2^30){s s2:aU}{i:bj}(h:jU U s)(he:bU i s=some s2):jU U s2:=by
 unfold bU at he;split at he
 ·split at he
  ·cases he;exact h.put _ _ Xu Xu
  ·cases he
 ·split at he
  ·split at he
   ·cases he;exact h.put _ _ (h.tnt _).1 (h.tnt _).2
   ·cases he
  ·split at he
   ·split at he
    ·cases he;exact h.put _ _ (h.tnt _).1 (h.tnt _).2
    ·cases he
   ·split at he
    ·split at he
     ·cases he;have hs:∀x∈s.tnt i.b++s.tnt i.c,x∈U:=λx hx=>by
       rcases VY.1 hx with g|g
       ·exact(h.tnt _).2 x g
       ·exact(h.tnt _).2 x g
      exact h.put _ _ (V2 (Mh hs) hU) λx hx=>hs x ((Ls _ _).1 hx)
     ·cases he
    ·cases he;exact⟨h.len,h.small,h.short,h.sub⟩
section
set_option maxRecDepth 100000
def w7(a:AV)(L:SH)(Q:R):Prop:=wk a (Q (.Xw 1) L) (Q (.Xw 0) L)
theorem Fi(t0:AV)(L:SH)(Q:R)(h:w7 t0 L Q):af Tryz.prog 129 [t0] L Q:=
 fs [] [] [] [] Tryz.func129 h
def Fj(Q:R)(L:SH)(a b:AV):Prop:=wb .eql 3 a (.Xw 5) λc=>wk c (wb .eql 2 b (.Xw 0) λd=>wc (.fn 129 []) [d] L λe f=>Q (.tup [e,(.bool true)]) f) (Q (.tup [(.Xw 0),(.bool false)]) L)
def w8(a b:AV)(L:SH)(Q:R):Prop:=wb .eql 3 a (.Xw 4) λc=>wk c (W.un .neg b λd=>Q (.tup [d,(.bool true)]) L) ((Fj Q L a b))
theorem Fk(t0 t1:AV)(L:SH)(Q:R)(h:w8 t0 t1 L Q):af Tryz.prog 103 [t0,t1] L Q:=
 fs [] [] [] [] Tryz.func103 h
def Dy(Q:R)(L:SH)(b c:AV):Prop:=wb .neq 2 b (.Xw 0) λa=>bH a true c L λd e=>wg a true (wb .neq 2 d (.Xw 0)) e λf g=>W.pick a f (.bool false) λh=>wc (.fn 129 []) [h] g λi j=>Q (.tup [i,(.bool true)]) j
def Dz(Q:R)(L:SH)(b c:AV):Prop:=wb .neq 2 b (.Xw 0) λa=>bH a false c L λd e=>wg a false (wb .neq 2 d (.Xw 0)) e λf g=>W.pick a (.bool true) f λh=>wc (.fn 129 []) [h] g λi j=>Q (.tup [i,(.bool true)]) j
def DA(Q:R)(L:SH)(a b c:AV):Prop:=wb .eql 3 a (.Xw 17) λd=>wk d ((Dy Q L b c)) (wb .eql 3 a (.Xw 18) λe=>wk e ((Dz Q L b c)) (Q (.tup [(.Xw 0),(.bool false)]) L))
def DB(Q:R)(L:SH)(a b c:AV):Prop:=wb .eql 3 a (.Xw 16) λd=>wk d (wb .geq 2 b c λe=>wc (.fn 129 []) [e] L λf g=>Q (.tup [f,(.bool true)]) g) ((DA Q L a b c))
def DC(Q:R)(L:SH)(a b c:AV):Prop:=wb .eql 3 a (.Xw 15) λd=>wk d (wb .gtr 2 b c λe=>wc (.fn 129 []) [e] L λf g=>Q (.tup [f,(.bool true)]) g) ((DB Q L a b c))
def DD(Q:R)(L:SH)(a b c:AV):Prop:=wb .eql 3 a (.Xw 14) λd=>wk d (wb .leq 2 b c λe=>wc (.fn 129 []) [e] L λf g=>Q (.tup [f,(.bool true)]) g) ((DC Q L a b c))
def DE(Q:R)(L:SH)(a b c:AV):Prop:=wb .eql 3 a (.Xw 13) λd=>wk d (wb .lss 2 b c λe=>wc (.fn 129 []) [e] L λf g=>Q (.tup [f,(.bool true)]) g) ((DD Q L a b c))
def DF(Q:R)(L:SH)(a b c:AV):Prop:=wb .eql 3 a (.Xw 12) λd=>wk d (wb .neq 2 b c λe=>wc (.fn 129 []) [e] L λf g=>Q (.tup [f,(.bool true)]) g) ((DE Q L a b c))
def DG(Q:R)(L:SH)(a b c:AV):Prop:=wb .eql 3 a (.Xw 11) λd=>wk d (wb .eql 2 b c λe=>wc (.fn 129 []) [e] L λf g=>Q (.tup [f,(.bool true)]) g) ((DF Q L a b c))
def DH(Q:R)(L:SH)(b a c:AV):Prop:=wb .eql 3 b (.Xw 10) λd=>wk d (wb .eql 2 a (.Xw 0) λe=>wk e (Q (.tup [(.Xw 0),(.bool true)]) L) (wb .rem 2 c a λf=>Q (.tup [f,(.bool true)]) L)) ((DG Q L b c a))
def B1(Q:R)(L:SH)(b a c:AV):Prop:=wb .eql 3 b (.Xw 9) λd=>wk d (wb .eql 2 a (.Xw 0) λe=>wk e (Q (.tup [(.Xw 0),(.bool true)]) L) (wb .quo 2 c a λf=>Q (.tup [f,(.bool true)]) L)) ((DH Q L b a c))
def B2(Q:R)(L:SH)(a b c:AV):Prop:=wb .eql 3 a (.Xw 7) λd=>wk d (wb .sub 2 b c λe=>Q (.tup [e,(.bool true)]) L) (wb .eql 3 a (.Xw 8) λf=>wk f (wb .mul 2 b c λg=>Q (.tup [g,(.bool true)]) L) ((B1 Q L a c b)))
def r7(a b c:AV)(L:SH)(Q:R):Prop:=wb .eql 3 a (.Xw 6) λd=>wk d (wb .add 2 b c λe=>Q (.tup [e,(.bool true)]) L) ((B2 Q L a b c))
theorem DI(t0 t1 t2:AV)(L:SH)(Q:R)(h:r7 t0 t1 t2 L Q):af Tryz.prog 104 [t0,t1,t2] L Q:=
 fs [] [] [] [] Tryz.func104 h
def pk(a b:AV)(L:SH)(Q:R):Prop:=W.len a λd=>W.len b λe=>wb .add 3 d e λf=>W.mslice 1 8 [(.Xw 0)] (.Xw 0) f L λg h=>W.append 1 8 g a h λi j=>W.append 1 8 i b j λc k=>wc (.fn 74 []) [c] k λo l=>wc (.fn 75 []) [c] l λm n=>Q m n
theorem B3(t0 t1:AV)(L:SH)(Q:R)(h:pk t0 t1 L Q):af Tryz.prog 117 [t0,t1] L Q:=
 fs [] [] [] [] Tryz.func117 h
def iq(d:Kn)(a b e f g h i:AV)(c:SH):Prop:=W.idx 1 a b c λj=>W.store 1 j i c λk=>wb .add 3 b (.Xw 1) λl=>d [e,f,a,g,h,l] k
def ir(Q:R)(j:Vs)(a:SH)(k:Kn):Prop:=Iv 1 2 3 15 16 17 j λb c e f g d=>wb .lss 3 d g λl=>wk l (wo 1 f d a λm=>wc (.fn 81 []) [m] a (iq k e d b c f g)) (W.faddr 2 b λn=>W.store 1 n e a λh=>bS 4 b h λo=>W.store 4 c o h λi=>W.load true 4 c i λp=>Q p i)
def np(Q:R)(a f g:AV)(h:SH):Prop:=W.faddr 1 a λi=>W.store 1 i g h λb=>aB 2 a b λj=>W.len j λc=>W.mslice 1 24 [.nils] c c b λk d=>aB 2 a d λe=>W.len e λl=>W.loop (ir Q) [a,f,k,e,l,(.Xw 0)] d
def pn(c:AV)(L:SH)(Q:R):Prop:=W.box c L λa d=>W.alloc [(.Xw 0),.nils,.nils,(.Xw 0)] d λe b=>aB 1 a b λf=>wc (.fn 80 []) [f] b (np Q a e)
theorem B4(t0:AV)(L:SH)(Q:R)(h:pn t0 L Q):af Tryz.prog 82 [t0] L Q:=
 fs [] [(4,[1,2,3,15,16,17])] [] [] Tryz.func82 h
def jj(b e:AV)(L:SH)(Q:R):Prop:=wb .geq 3 b (.Xw 0) λa=>bH a true b L λf c=>wg a true (wl e c) c λg h=>wg a true (W.nilchk g) h λi j=>wg a true (W.faddr 1 i) j λk d=>wg a true (wl k d) d λl m=>wg a true (W.len l) m λn o=>wg a true (wb .lss 3 f n) o λp q=>W.pick a p (.bool false) λr=>Q r q
theorem qu(t0 t1:AV)(L:SH)(Q:R)(h:jj t0 t1 L Q):af Tryz.prog 116 [t0,t1] L Q:=
 fs [] [] [] [] Tryz.func116 h
def w9(Q:R)(c:Vs)(a:SH):Prop:=wq 2 4 6 c λd k e=>wl d a λb=>dL 0 b a λf=>wb .add 3 f (.Xw 1) λg=>W.nilchk b λh=>W.faddr 0 h λi=>W.store 1 i g a λj=>Q e j
def xc(k:Kn)(a:SH)(e f:AV):Prop:=(true=true)∧(dl [] 0 e a λl b=>W.nilchk l λm=>aN 1 m [] 3 a λn c=>aN 1 f [rm 3 c,rm 0 b] 5 a λo d=>dl [rm 5 d,rm 3 c,rm 0 b] 6 e a λp h=>W.nilchk p λq=>aN 2 q [rm 5 d,rm 3 c,rm 0 b] 9 a λr i=>aN 1 f [rm 9 i,rm 6 h,rm 5 d,rm 3 c,rm 0 b] 11 a λs g=>aN 4 f [rm 11 g,rm 9 i,rm 6 h,rm 5 d,rm 3 c,rm 0 b] 13 a λt x=>di [rm 11 g] 14 1 n o a λu y=>ds [rm 11 g] 15 1 u t a λj z=>di [] 16 1 r s j λv A=>ds [] 17 1 v .nils j λw B=>k [e,(.bool false),(.bool true)] w)
def xd(Q:R)(b:Kn)(c d e:AV)(a:SH):Prop:=W.un .not e λf=>wk f (Q (.bool false) a) ((xc b a c d))
def xe(d:Kn)(e:SH)(f g h i j k:AV)(a:Fp)(l:AV)(b:SH)(m:Ns):Prop:=wn [] m [] e.names λq=>di [rm 11 a] 29 1 f g b λn r=>ds [rm 11 a] 30 1 n h b λc s=>di [] 31 1 i j c λo t=>ds [] 32 1 o l c λp u=>d [k,(.bool false),(.bool true)] p
def xf(o:Kn)(a:SH)(m n:AV):Prop:=(true=true)∧(dl [] 0 m a λp b=>W.nilchk p λq=>aN 1 q [] 3 a λr c=>aN 1 n [rm 3 c,rm 0 b] 5 a λs d=>dl [rm 5 d,rm 3 c,rm 0 b] 6 m a λt e=>W.nilchk t λu=>aN 2 u [rm 5 d,rm 3 c,rm 0 b] 9 a λv f=>aN 1 n [rm 9 f,rm 6 e,rm 5 d,rm 3 c,rm 0 b] 11 a λw g=>dl [rm 11 g,rm 9 f,rm 6 e,rm 5 d,rm 3 c,rm 0 b] 12 m a λx h=>W.nilchk x λy=>aN 1 y [rm 11 g,rm 9 f,rm 6 e,rm 5 d,rm 3 c,rm 0 b] 15 a λz i=>aN 2 n [rm 15 i,rm 12 h,rm 11 g,rm 9 f,rm 6 e,rm 5 d,rm 3 c,rm 0 b] 17 a λA j=>di [rm 11 g,rm 9 f,rm 6 e,rm 5 d,rm 3 c,rm 0 b] 18 1 z A a λB k=>dl [rm 11 g,rm 9 f,rm 6 e,rm 5 d,rm 3 c,rm 0 b] 19 B a λC l=>dl [rm 19 l,rm 18 k,rm 17 j,rm 15 i,rm 12 h,rm 11 g,rm 9 f,rm 6 e,rm 5 d,rm 3 c,rm 0 b] 20 m a λD E=>W.nilchk D λF=>aN 2 F [rm 19 l,rm 18 k,rm 17 j,rm 15 i,rm 12 h,rm 11 g,rm 9 f,rm 6 e,rm 5 d,rm 3 c,rm 0 b] 23 a λG H=>aN 2 n [rm 23 H,rm 20 E,rm 19 l,rm 18 k,rm 17 j,rm 15 i,rm 12 h,rm 11 g,rm 9 f,rm 6 e,rm 5 d,rm 3 c,rm 0 b] 25 a λI N=>di [rm 19 l,rm 18 k,rm 17 j,rm 15 i,rm 12 h,rm 11 g,rm 9 f,rm 6 e,rm 5 d,rm 3 c,rm 0 b] 26 1 G I a λJ O=>dl [rm 19 l,rm 18 k,rm 17 j,rm 15 i,rm 12 h,rm 11 g,rm 9 f,rm 6 e,rm 5 d,rm 3 c,rm 0 b] 27 J a λM P=>wd [rm 19 l,rm 18 k,rm 17 j,rm 15 i,rm 12 h,rm 11 g,rm 9 f,rm 6 e,rm 5 d,rm 3 c,rm 0 b] 28 (.fn 81 []) [M] a (xe o a r s C v w m g))
def xg(Q:R)(g:Kn)(b c h:AV)(i:SH):Prop:=W.un .not h λa=>bH a false (.fn 116 [b]) i λj k=>wg a false (W.faddr 2 c) k λl d=>wg a false (wl l d) d λm e=>W.grd a false (λn=>wc j [m] e λo p=>n o p) e λq r=>wg a false (W.un .not q) r λs f=>W.pick a (.bool true) s λt=>wk t (Q (.bool false) f) ((xf g f b c))
def xh(b:Kn)(c:SH)(d e f g h:AV)(a:SH)(i:Ns):Prop:=wn [] i [] c.names λl=>di [] 15 1 d e a λj m=>ds [] 16 1 j h a λk n=>b [f,(.bool false),g] k
def xi(i:Kn)(j:SH)(k l e f g:AV)(h:SH)(m:Ns):Prop:=wn [] m [] j.names λC=>W.ext 0 g λn=>W.ext 1 g λo=>di [] 20 1 k l h λp D=>ds [] 21 1 p n h λa E=>(true=true)∧(dl [] 0 e a λq b=>W.nilchk q λr=>aN 2 r [] 3 a λs c=>aN 1 f [rm 3 c,rm 0 b] 5 a λt d=>dl [rm 5 d,rm 3 c,rm 0 b] 6 e a λu v=>W.nilchk u λw=>aN 2 w [rm 5 d,rm 3 c,rm 0 b] 9 a λx y=>aN 2 f [rm 9 y,rm 6 v,rm 5 d,rm 3 c,rm 0 b] 11 a λz F=>di [rm 5 d,rm 3 c,rm 0 b] 12 1 x z a λA G=>dl [rm 5 d,rm 3 c,rm 0 b] 13 A a λB H=>wd [rm 5 d,rm 3 c,rm 0 b] 14 (.fn 81 []) [B] a (xh i a s t e o))
def xj(h:Kn)(a:SH)(g f:AV):Prop:=(true=true)∧(dl [] 0 g a λi b=>W.nilchk i λj=>aN 1 j [] 3 a λk c=>aN 1 f [rm 3 c,rm 0 b] 5 a λl d=>aN 4 f [rm 5 d,rm 3 c,rm 0 b] 7 a λm e=>dl [rm 7 e,rm 5 d,rm 3 c,rm 0 b] 8 g a λn o=>W.nilchk n λp=>aN 1 p [rm 7 e,rm 5 d,rm 3 c,rm 0 b] 11 a λq r=>aN 2 f [rm 11 r,rm 8 o,rm 7 e,rm 5 d,rm 3 c,rm 0 b] 13 a λs v=>di [rm 7 e,rm 5 d,rm 3 c,rm 0 b] 14 1 q s a λt w=>dl [rm 7 e,rm 5 d,rm 3 c,rm 0 b] 15 t a λu x=>wd [rm 5 d,rm 3 c,rm 0 b] 16 (.fn 103 []) [m,u] a (xi h a k l g f))
def xk(Q:R)(g:Kn)(b c h:AV)(i:SH):Prop:=W.un .not h λa=>bH a false (.fn 116 [b]) i λj k=>wg a false (W.faddr 2 c) k λl d=>wg a false (wl l d) d λm e=>W.grd a false (λn=>wc j [m] e λo p=>n o p) e λq r=>wg a false (W.un .not q) r λs f=>W.pick a (.bool true) s λt=>wk t (Q (.bool false) f) ((xj g f b c))
def xl(b:Kn)(c:SH)(d e f g h:AV)(a:SH)(i:Ns):Prop:=wn [] i [] c.names λl=>di [] 23 1 d e a λj m=>ds [] 24 1 j h a λk n=>b [f,(.bool false),g] k
def xm(n:Kn)(o:SH)(p q j k l:AV)(m:SH)(r:Ns):Prop:=wn [] r [] o.names λP=>W.ext 0 l λs=>W.ext 1 l λt=>di [] 28 1 p q m λu S=>ds [] 29 1 u s m λa T=>(true=true)∧(dl [] 0 j a λv b=>W.nilchk v λw=>aN 2 w [] 3 a λx c=>aN 1 k [rm 3 c,rm 0 b] 5 a λy d=>dl [rm 5 d,rm 3 c,rm 0 b] 6 j a λz e=>W.nilchk z λA=>aN 2 A [rm 5 d,rm 3 c,rm 0 b] 9 a λB f=>aN 2 k [rm 9 f,rm 6 e,rm 5 d,rm 3 c,rm 0 b] 11 a λC g=>di [rm 5 d,rm 3 c,rm 0 b] 12 1 B C a λD h=>dl [rm 5 d,rm 3 c,rm 0 b] 13 D a λE i=>dl [rm 13 i,rm 12 h,rm 11 g,rm 9 f,rm 6 e,rm 5 d,rm 3 c,rm 0 b] 14 j a λF G=>W.nilchk F λH=>aN 2 H [rm 13 i,rm 12 h,rm 11 g,rm 9 f,rm 6 e,rm 5 d,rm 3 c,rm 0 b] 17 a λI J=>aN 3 k [rm 17 J,rm 14 G,rm 13 i,rm 12 h,rm 11 g,rm 9 f,rm 6 e,rm 5 d,rm 3 c,rm 0 b] 19 a λM U=>di [rm 13 i,rm 12 h,rm 11 g,rm 9 f,rm 6 e,rm 5 d,rm 3 c,rm 0 b] 20 1 I M a λN V=>dl [rm 13 i,rm 12 h,rm 11 g,rm 9 f,rm 6 e,rm 5 d,rm 3 c,rm 0 b] 21 N a λO X=>wd [rm 5 d,rm 3 c,rm 0 b] 22 (.fn 117 []) [E,O] a (xl n a x y j t))
def xn(m:Kn)(a:SH)(l h:AV):Prop:=(true=true)∧(dl [] 0 l a λn b=>W.nilchk n λo=>aN 1 o [] 3 a λp c=>aN 1 h [rm 3 c,rm 0 b] 5 a λq d=>aN 4 h [rm 5 d,rm 3 c,rm 0 b] 7 a λr e=>dl [rm 7 e,rm 5 d,rm 3 c,rm 0 b] 8 l a λs f=>W.nilchk s λt=>aN 1 t [rm 7 e,rm 5 d,rm 3 c,rm 0 b] 11 a λu g=>aN 2 h [rm 11 g,rm 8 f,rm 7 e,rm 5 d,rm 3 c,rm 0 b] 13 a λv i=>di [rm 7 e,rm 5 d,rm 3 c,rm 0 b] 14 1 u v a λw j=>dl [rm 7 e,rm 5 d,rm 3 c,rm 0 b] 15 w a λx k=>dl [rm 15 k,rm 14 j,rm 13 i,rm 11 g,rm 8 f,rm 7 e,rm 5 d,rm 3 c,rm 0 b] 16 l a λy z=>W.nilchk y λA=>aN 1 A [rm 15 k,rm 14 j,rm 13 i,rm 11 g,rm 8 f,rm 7 e,rm 5 d,rm 3 c,rm 0 b] 19 a λB C=>aN 3 h [rm 19 C,rm 16 z,rm 15 k,rm 14 j,rm 13 i,rm 11 g,rm 8 f,rm 7 e,rm 5 d,rm 3 c,rm 0 b] 21 a λD G=>di [rm 15 k,rm 14 j,rm 13 i,rm 11 g,rm 8 f,rm 7 e,rm 5 d,rm 3 c,rm 0 b] 22 1 B D a λE H=>dl [rm 15 k,rm 14 j,rm 13 i,rm 11 g,rm 8 f,rm 7 e,rm 5 d,rm 3 c,rm 0 b] 23 E a λF I=>wd [rm 5 d,rm 3 c,rm 0 b] 24 (.fn 104 []) [r,x,F] a (xm m a p q l h))
def xo(Q:R)(j:Kn)(c d k:AV)(l:SH):Prop:=W.un .not k λa=>bH a false (.fn 116 [c]) l λm n=>wg a false (W.faddr 2 d) n λo e=>wg a false (wl o e) e λp f=>W.grd a false (λq=>wc m [p] f λr s=>q r s) f λt u=>wg a false (W.un .not t) u λv w=>W.pick a (.bool true) v λb=>bH b false (.fn 116 [c]) w λx y=>wg b false (W.faddr 3 d) y λz g=>wg b false (wl z g) g λA h=>W.grd b false (λB=>wc x [A] h λC D=>B C D) h λE F=>wg b false (W.un .not E) F λG i=>W.pick b (.bool true) G λH=>wk H (Q (.bool false) i) ((xn j i c d))
def sM(Q:R)(a:Vs)(b:SH):Prop:=wq 2 4 6 a λd c e=>Q c b
def xp(Q:R)(a:SH)(b c:AV):Prop:=wl b a λd=>aB 1 c a λe=>W.nilchk d λf=>W.faddr 0 f λg=>W.store 1 g e a λh=>W.join (sM Q) λi=>i [b,(.bool true),(.bool true)] h
def xq(Q:R)(d:Kn)(a:SH)(e c b:AV):Prop:=wb .eql 3 e (.Xw 4) λf=>wk f (aB 1 c a λg=>wc (.fn 116 [b]) [g] a (xo Q d b c)) (wb .eql 3 e (.Xw 5) λh=>wk h ((xp Q a b c)) (d [b,(.bool false),(.bool true)] a))
def xr(Q:R)(d:Kn)(a:SH)(e b c:AV):Prop:=wb .eql 3 e (.Xw 3) λf=>wk f (aB 1 b a λg=>wc (.fn 116 [c]) [g] a (xk Q d c b)) ((xq Q d a e b c))
def xt(Q:R)(d:Kn)(a:SH)(e b c:AV):Prop:=wb .eql 3 e (.Xw 2) λf=>wk f (aB 1 b a λg=>wc (.fn 116 [c]) [g] a (xg Q d c b)) ((xr Q d a e b c))
def cT(f g:AV)(L:SH)(Q:R):Prop:=W.box f L λh i=>W.box g i λj k=>W.frz1 h k λc l=>W.frz1 j l λa b=>W.join (w9 Q) λd=>aB 0 a b λe=>wb .eql 3 e (.Xw 1) λm=>wk m (aB 1 a b λn=>wc (.fn 116 [c]) [n] b (xd Q d c a)) ((xt Q d b e a c))
theorem de(t0 t1:AV)(L:SH)(Q:R)(h:cT t0 t1 L Q):af Tryz.prog 83 [t0,t1] L Q:=
 fs [(24,[2,4,6])] [] [(0,[2,3])] [(7,[0,1,3,7,0,16,0,64,192,448,0,1024,0,4096,13311,29695,65535,131071]),(11,[0,1,3,7,0,16,0,64,192,448,0,1024,0,4096,12288,28672,0,65536,258048,520192,0,1048576,3145728,7340032,0,16777216,66060288,133169152,267386880,536867839,1073738751,2147483647,4294967295]),(15,[0,1,3,7,0,16,0,64,0,256,768,1792,0,4096,16128,32512,65472,131008,262080,262080,524287,1572863,4194303]),(16,[0,1,3,7,0,16,0,64,192,448,0,1024,4032,8128,16320,32767,65535]),(20,[0,1,3,7,0,16,0,64,0,256,768,1792,0,4096,16128,32512,0,65536,196608,458752,0,1048576,4128768,8323072,16777152,33554368,67108800,67108800,134217727,402653183,1073741823]),(21,[0,1,3,7,0,16,0,64,192,448,0,1024,4032,8128,0,16384,49152,114688,0,262144,1032192,2080768,4194240,8388607,16777215])] Tryz.func83 h
def zR(Q:R)(c:SH)(a:AV):Prop:=W.build [(.Xw 0),.nils,.nils,(.Xw 0)] [] λd=>W.store 4 a d c λb=>W.load true 4 a b λe=>Q (.tup [e,(.bool false)]) b
def zS(Q:R)(c:SH)(a:AV):Prop:=W.build [(.Xw 0),.nils,.nils,(.Xw 0)] [] λd=>W.store 4 a d c λb=>W.load true 4 a b λe=>Q (.tup [e,(.bool false)]) b
def zT(Q:R)(c:SH)(a:AV):Prop:=W.build [(.Xw 0),.nils,.nils,(.Xw 0)] [] λd=>W.store 4 a d c λb=>W.load true 4 a b λe=>Q (.tup [e,(.bool false)]) b
def zU(Q:R)(i:Kn)(b:SH)(c d j e f:AV):Prop:=aB 1 c b λk=>W.len k λl=>wb .eql 3 d l λa=>wg a false (bS 6 j b) b λm g=>W.grd a false (λn=>wc (.fn 83 []) [e,m] g λo p=>n o p) g λq r=>wg a false (W.un .not q) r λs h=>W.pick a (.bool true) s λt=>wk t ((zT Q h f)) (wb .add 3 d (.Xw 1) λu=>i [c,e,f,u] h)
def zV(Q:R)(k:Kn)(a:SH)(g c d l:AV):Prop:=aB 1 g a λm=>aB 0 c a λn=>lE 6 m n a λo=>o6 [(.Xw 0),(.Xw 0),(.Xw 0),(.Xw 0),(.Xw 0),(.Xw 0)] 6 o a λe h=>aB 0 e h λp=>wb .lss 3 p (.Xw 1) λb=>wg b false (W.faddr 0 e) h λq i=>wg b false (wl q i) i λr s=>wg b false (wb .gtr 3 r (.Xw 5)) s λt f=>W.pick b (.bool true) t λu=>wk u (bS 4 c f λv=>W.store 4 d v f λj=>W.load true 4 d j λw=>Q (.tup [w,(.bool true)]) j) ((zU Q k f g l e c d))
def gN(Q:R)(i:Vs)(c:SH)(j:Kn):Prop:=wu 2 3 4 6 i λd b e k=>aB 0 b c λl=>wb .lss 3 l (.Xw 0) λa=>wg a false (W.faddr 0 b) c λm f=>wg a false (wl m f) f λn o=>wg a false (W.faddr 1 d) o λp g=>wg a false (wl p g) g λq r=>wg a false (W.len q) r λs t=>wg a false (wb .geq 3 n s) t λu h=>W.pick a (.bool true) u λv=>wk v ((zS Q h e)) ((zV Q j h d b e k))
def zW(Q:R)(a b c d:AV)(e:SH):Prop:=W.store 4 a d e λf=>W.loop (gN Q) [b,a,c,(.Xw 0)] f
def nq(i j:AV)(L:SH)(Q:R):Prop:=W.box i L λk l=>W.box j l λb m=>W.alloc [(.Xw 0),.nils,.nils,(.Xw 0)] m λf n=>W.frz1 k n λc d=>aB 1 b d λo=>W.len o λp=>aB 0 c d λq=>wb .neq 3 p q λa=>wg a false (W.faddr 2 b) d λr g=>wg a false (wl r g) g λs t=>wg a false (W.len s) t λu v=>wg a false (W.faddr 0 c) v λw h=>wg a false (wl w h) h λx y=>wg a false (wb .neq 3 u x) y λz e=>W.pick a (.bool true) z λA=>wk A ((zR Q e f)) (bS 4 b e λB=>wc (.fn 82 []) [B] e (zW Q b c f))
theorem zX(t0 t1:AV)(L:SH)(Q:R)(h:nq t0 t1 L Q):af Tryz.prog 52 [t0,t1] L Q:=
 fs [] [(6,[2,3,4,6])] [(0,[2]),(8,[7])] [] Tryz.func52 h
end
section
set_option maxRecDepth 100000
set_option linter.unusedSimpArgs false
set_option linter.unusedSectionVars false
theorem qk(xs:List Int)(hl:xs.length*8≤140737488355328):af Tryz.prog 80 [.lst (xs.map aj)] [] λv L=>∃o,v=aP o xs.length∧L=ae o 1 (xs.map aj)∧(o=none→xs=[]):=by refine(fF (λA n c xs w hf h1 hn hA=>cloneJ_any A n c xs w hf h1 hn hA) ⟨_,_,Tryz.func80,rfl⟩ (xs.map aj) (by simp[aj,AV.one]) (λr hr=>by obtain⟨x,_,rfl⟩:=Wm.1 hr;rfl) (by simpa using hl)).mono ?_;rintro v L ⟨o,rfl,rfl,h⟩;exact⟨o,Xu,rfl,λe=>by simpa using h e⟩
theorem cR(xs:List Int)(hl:xs.length*8≤140737488355328):ax Tryz.prog 81 [.lst (xs.map aj)] (.lst (xs.map aj)):=by refine af.fz ((FZ xs hl).mono ?_);rintro v L ⟨o,rfl,rfl,ho⟩;exact⟨_,[],aF.all (Fz.slot (f:=aj) rfl (λe=>by rw[ho e];rfl) Xv (λy _=>rfl) (λy _ q a a2 h1 h2=>by rw[h1]at h2;cases h2;exact .refl _)),rfl,rfl⟩
def Lt(s:aU)(v:AV)(L:SH):Prop:=
 ∃(o t:Option Nat),v=.agg [.Xw s.pc,aP o s.regs.length,aP t s.taint.length,.Xw s.ev]∧L=ae o 1 (s.regs.map aj)++ae t 1 (s.taint.map cp)∧(o=none→s.regs=[])∧(t=none→s.taint=[])
def nr(t:List (List Int))(k:Nat):List (List AV):=(t.take k).map cp++List.replicate (t.length-k) [.nils]
theorem Mi(t:List (List Int))(k:Nat)(hk:k≤t.length):(nr t k).length=t.length:=by simp[nr];omega
theorem Od(t:List (List Int))(k:Nat)(hk:k<t.length):(nr t k)[k]? =some [.nils]:=by
 unfold nr;have hl:((t.take k).map cp).length=k:=by simp;omega
 rw[VS Xr,hl,Nat.sub_self];obtain⟨m,hm⟩:∃m,t.length-k=m+1:=⟨t.length-k-1,Xr⟩;rw[hm];rfl
theorem Ga(t:List (List Int))(k:Nat)(hk:k<t.length):(nr t k).set k (cp t[k])=nr t (k+1):=by
 unfold nr;have hl:((t.take k).map cp).length=k:=by simp;omega
 rw[List.set_append_right _ _ Xr,hl,Nat.sub_self];obtain⟨m,hm⟩:∃m,t.length-k=m+1:=⟨t.length-k-1,Xr⟩;rw[hm,List.replicate_succ,List.set_cons_zero,VV hk,show t.length-(k+1)=m by omega,VQ,Wq];rfl
theorem Kb(s:aU)(h1:s.regs.length<2^40)(h2:s.taint.length<2^40)(h3:∀l∈s.taint,l.length≤2^30):af Tryz.prog 82 [.agg s.enc] [] (Lt s):=by
 refine af.fz (B4 _ _ _ ?_);unfold pn;generalize hQ:(λ(v:AV) (L:SH)=>∃v2 L2,aF [v] L [v2] L2∧Lt s v2 L2)=Q
 repeat' (first|refine st ?_|refine sb λnb_ hnb_=>?_|refine s2 (λh=>?_) λh=>?_|fail)
 rename_i b1 _;revert nb_;intro b2 _;refine o8 (qk s.regs Xr) ?_;rintro v K ⟨o,rfl,rfl,ho⟩;unfold np;have fin:∀(bt:Nat) (L:SH),(∃x y:Blk,L=(bt,⟨1,s.taint.map cp⟩)::(b2,x)::(b1,y)::ae o 1 (s.regs.map aj))→Q (.agg [.Xw s.pc,aP o s.regs.length,.sl bt 0 s.taint.length,.Xw s.ev]) L:=by rintro bt L ⟨x,y,rfl⟩;subst hQ;refine⟨_,_,aF.forget (K:=[(b2,x),(b1,y)]) (R:=ae o 1 (s.regs.map aj)++[(bt,⟨1,s.taint.map cp⟩)]) ?_,o,some bt,rfl,rfl,ho,nofun⟩;refine(List.Perm.trans (List.Perm.swap _ _ _) ?_);refine List.Perm.cons _ ((List.Perm.swap _ _ _).trans (List.Perm.cons _ ?_));exact(Wf (l₁:=[(bt,(⟨1,s.taint.map cp⟩:Blk))]) (l₂:=ae o 1 (s.regs.map aj)))
 have loop:∀(bt:Nat) (y:Blk),y=⟨4,[[.Xw s.pc,aP o s.regs.length,.lst (s.taint.map cp),.Xw s.ev]]⟩→W.loop (ir Q) [.ptr b1 0 0,.ptr b2 0 0,.sl bt 0 s.taint.length,.lst (s.taint.map cp),.Xw s.taint.length,.Xw (0:Nat)] ((bt,⟨1,List.replicate s.taint.length [.nils]⟩)::(b2,⟨4,[[.Xw 0,.nils,.nils,.Xw 0]]⟩)::(b1,y)::ae o 1 (s.regs.map aj)):=by
  intro bt y hy;subst hy;refine cb s.taint.length (λk (_:Unit)=>([.ptr b1 0 0,.ptr b2 0 0,.sl bt 0 s.taint.length,.lst (s.taint.map cp),.Xw s.taint.length,.Xw k],(bt,⟨1,nr s.taint k⟩)::(b2,⟨4,[[.Xw 0,.nils,.nils,.Xw 0]]⟩)::(b1,⟨4,[[.Xw s.pc,aP o s.regs.length,.lst (s.taint.map cp),.Xw s.ev]]⟩)::ae o 1 (s.regs.map aj))) (λ_ _=>True) () trivial (fS rfl (by simp[nr])) ?_;intro k _ hk _;dsimp only;unfold ir;rcases Nat.lt_or_ge k s.taint.length with g1|g1
  ·have hd:=bK g1;have hx:=ay (f:=cp) g1;have hz:=Od s.taint k g1;have hkl:k<(nr s.taint k).length:=by rw[Mi _ _ hk];exact g1
   have hrk:(s.taint[k]).length*8≤140737488355328:=by have:=h3 _ (V3 g1);omega
   cases o with
   |none=>
    dsimp only[ae,aP]
    repeat' (first|refine st ?_|(refine pf 81 ?_;refine pm (cR _ hrk) ?_)|unfold iq|refine sb λnb_ hnb_=>?_|refine s2 (λh=>?_) λh=>?_|fail)
    exact⟨k+1,(),Xr,Xr,trivial,fS (by rw[aD g1 Xr]<;>rfl) (by rw[←Ga _ _ g1];rfl)⟩
   |some b'=>
    dsimp only[ae,aP]
    repeat' (first|refine st ?_|(refine pf 81 ?_;refine pm (cR _ hrk) ?_)|unfold iq|refine sb λnb_ hnb_=>?_|refine s2 (λh=>?_) λh=>?_|fail)
    exact⟨k+1,(),Xr,Xr,trivial,fS (by rw[aD g1 Xr]<;>rfl) (by rw[←Ga _ _ g1];rfl)⟩
  ·have hd:=bO g1;have hk0:k=s.taint.length:=by omega
   subst hk0;have e:nr s.taint s.taint.length=s.taint.map cp:=by simp[nr]
   rw[e];cases o with
   |none=>
    dsimp only[ae,aP]at fin ⊢
    repeat' (first|refine st ?_|refine sb λnb_ hnb_=>?_|refine s2 (λh=>?_) λh=>?_|fail)
    exact fin _ _ ⟨_,_,rfl⟩
   |some b'=>
    dsimp only[ae,aP]at fin ⊢
    repeat' (first|refine st ?_|refine sb λnb_ hnb_=>?_|refine s2 (λh=>?_) λh=>?_|fail)
    exact fin _ _ ⟨_,_,rfl⟩
 cases o with
 |none=>
  dsimp only[ae,aP]at loop ⊢
  repeat' (first|refine st ?_|refine sb λnb_ hnb_=>?_|refine s2 (λh=>?_) λh=>?_|fail)
  exact loop _ _ rfl
 |some b'=>
  dsimp only[ae,aP]at loop ⊢
  repeat' (first|refine st ?_|refine sb λnb_ hnb_=>?_|refine s2 (λh=>?_) λh=>?_|fail)
  exact loop _ _ rfl
end
section
set_option maxRecDepth 100000
set_option linter.unusedSimpArgs false
set_option linter.unusedSectionVars false
theorem Oe(a b:List Int)(ha:a.length≤2^30)(hb:b.length≤2^30):ax Tryz.prog 117 [.lst (a.map aj),.lst (b.map aj)] (.lst ((Ka (a++b)).map aj)):=by
 refine af.fz (B3 _ _ _ _ ?_);unfold pk;generalize hQ:(λ(v:AV) (L:SH)=>∃v2 L2,aF [v] L [v2] L2∧v2=AV.lst ((Ka (a++b)).map aj)∧L2=[])=Q;have hsum:IntKind.i64.wrap ((a.length:Int)+b.length)=((a.length+b.length:Nat):Int):=by rw[WA _ Xr];omega
 have fin:∀(bk:Nat) (L:SH),(bk,(⟨1,(Lib.compact (zB (a++b))++List.replicate ((a++b).length-(Lib.compact (zB (a++b))).length) 0).map aj⟩:Blk))∈L→Q (.sl bk 0 (Lib.compact (zB (a++b))).length) L:=λbk L hm=>by subst hQ;refine⟨_,[],aF.all ?_,rfl,rfl⟩;show Fz _ (.sl bk 0 (Ka (a++b)).length) (.lst ((Ka (a++b)).map aj));rw[show(Ka (a++b)).map aj=((((Lib.compact (zB (a++b))++List.replicate ((a++b).length-(Lib.compact (zB (a++b))).length) 0).map aj).drop 0).take (Ka (a++b)).length)from(Dm (List.take_left' rfl)).symm];exact Fz.rows (x:=⟨1,_⟩) hm Xu (by simp[Ka])
 have h2:=λbk:Nat=>Lk bk (a++b) (by simp;omega)
 have h3:=λbk:Nat=>Dn bk (zB (a++b)) (by rw[qi];simp;omega)
 simp only[qi]at h3
 repeat' (first|refine st ?_|refine sb λnb_ hnb_=>?_|refine s2 (λh=>?_) λh=>?_|fail)
 refine fR (i:=0) (j:=a.length+b.length) Xr Xr Xr (λnb_ hnb_=>?_)
 repeat' (first|refine st ?_|refine NT rp (λ_=>rfl) Xu (by simp;omega) (by simp;omega) (λ_=>rfl) (λnb_ hnb_=>?_)|refine sb λnb_ hnb_=>?_|refine s2 (λh=>?_) λh=>?_|fail)
 simp only[List.replicate,WN,←VQ,WG,←VT]
 repeat' (first|refine st ?_|((with_reducible refine aY 74 ?_);(refine j9 (h2 _) (.here _) ?_;rintro _ _ ⟨rfl,rfl⟩))|((with_reducible refine aY 75 ?_);(refine j9 (h3 _) (.here _) ?_;rintro _ _ ⟨rfl,rfl⟩))|refine sb λnb_ hnb_=>?_|refine s2 (λh=>?_) λh=>?_|fail)
 exact fin _ _ rp
end
section
set_option maxRecDepth 100000
set_option linter.unusedSimpArgs false
def GX(p:Int×Bool):AV:=.tup [.Xw p.1,.bool p.2]
theorem IH(b:Bool):ax Tryz.prog 129 [.bool b] (.Xw (kL b)):=by
 refine Fi _ _ _ ?_;unfold w7;cases b
 all_goals
  repeat' (first|refine st ?_|refine sb λnb_ hnb_=>?_|refine s2 (λh=>?_) λh=>?_|fail)
  exact⟨rfl,rfl⟩
theorem II(op a:Int):ax Tryz.prog 103 [.Xw op,.Xw a] (GX (Pn op a)):=by
 refine Fk _ _ _ _ ?_;unfold w8;generalize hQ:(λ(u:AV) (K:SH)=>u=GX (Pn op a)∧K=[])=Q
 repeat' (first|refine st ?_|(refine pf 129 ?_;refine pm (IH _) ?_)|refine sb λnb_ hnb_=>?_|refine s2 (λh=>?_) λh=>?_|fail)
 all_goals
  subst hQ;refine⟨?_,rfl⟩;simp_all[Pn,GX]
theorem Gb(op a b:Int):ax Tryz.prog 104 [.Xw op,.Xw a,.Xw b] (GX (Dr op a b)):=by
 refine DI _ _ _ _ _ ?_;unfold r7;generalize hQ:(λ(u:AV) (K:SH)=>u=GX (Dr op a b)∧K=[])=Q
 repeat' (first|refine st ?_|(refine pf 129 ?_;refine pm (IH _) ?_)|refine sb λnb_ hnb_=>?_|refine s2 (λh=>?_) λh=>?_|fail)
 all_goals
  subst hQ;refine⟨?_,rfl⟩;simp_all[Dr,GX]
end
end Go.Proofs.YtdnpdghlggbklaaGreatDoor.Am
