/- A part of the proof; the statement is proved in the last part. -/
import Derived.Test.YtdnpdghlggbklaaGreatDoorQti
set_option linter.unusedSimpArgs false
set_option linter.unusedVariables false
namespace Go.Proofs.YtdnpdghlggbklaaGreatDoor.Am
section
set_option maxRecDepth 100000
set_option linter.unusedSimpArgs false
set_option linter.unusedSectionVars false
def aZ(s:SyncD)(i:Int)(f:ThrD→ThrD):List ThrD:=s.threads.set i.toNat (f (aE s i))
def aL(s:SyncD)(i:Int)(f:LockD→LockD):List LockD:=s.locks.set i.toNat (f (aP s i))
def Cp(s:SyncD)(o:Int):List ThrD:=de s.threads o s.threads.length
def yw(l:List Int)(t:Int):List Int:=Lib.compact (AT (l++[t]))
def aU(w:aO)(s:SyncD)(t k o wake:Int):SyncD×Int:=
 if k=1 then({s with threads:=aZ s t λx=>{x with status:=2}},0)
 else if k=2 then({s with threads:=aZ s t λx=>{x with status:=5}},0)
 else if k=6∨k=10 then({s with locks:=aL s o λx=>{x with owner:=t}},0)
 else if k=7∨k=11 then({s with locks:=aL s o λx=>{x with owner:=-1}},0)
 else if k=8 then({s with locks:=aL s o λx=>{x with readers:=yw x.readers t}},0)
 else if k=9 then({s with locks:=aL s o λx=>{x with readers:=x.readers.filter λy=>!decide (y=t)}},0)
 else if k=12 then({s with tx:=t},0)
 else if k=13 then({s with tx:=-1},0)
 else if k=14 then({s with threads:=aZ s t λx=>{x with atomic:=true}},0)
 else if k=15 then({s with threads:=aZ s t λx=>{x with atomic:=false}},0)
 else if k=16 then({s with locks:=aL s (mv w o) λx=>{x with owner:=-1},threads:=aZ s t λx=>{x with status:=3,cond:=o}},0)
 else if k=17 then({s with locks:=aL s (mv w o) λx=>{x with owner:=t},threads:=aZ s t λx=>{x with status:=2,cond:=0}},0)
 else if k=18 then({s with threads:=gu s.threads o wake},dt s.threads o wake)
 else if k=19 then({s with threads:=Cp s o},(bV s.threads o s.threads.length).length)
 else if k=20 then({s with threads:=aZ s o λx=>{x with status:=1}},0)
 else if k=22 then({s with done:=s.done.set o.toNat true},0)
 else(s,0)
theorem jE{s:SyncD}{t:Int}{f:ThrD→ThrD}{r:List AV}(h:r=(f (aE s t)).enc):(s.threads.map ThrD.enc).set (0+t.toNat) r=(aZ s t f).map ThrD.enc:=by rw[h,Y2,aZ,Y6]
theorem ju{s:SyncD}{t:Int}{f:LockD→LockD}{r:List AV}(h:r=(f (aP s t)).enc):(s.locks.map LockD.enc).set (0+t.toNat) r=(aL s t f).map LockD.enc:=by rw[h,Y2,aL,Y6]
theorem cT{s:SyncD}{t:Int}(h:inB t s.threads.length=true):(s.threads.map ThrD.enc)[0+t.toNat]? =some (aE s t).enc:=by rw[Y2];exact dU h
theorem mz{s:SyncD}{t:Int}(h:inB t s.locks.length=true):(s.locks.map LockD.enc)[0+t.toNat]? =some (aP s t).enc:=by rw[Y2];exact dU h
theorem aW{bl n bt m:Nat}{tx:Int}{dv:AV}(h:dv.one=true):([.sl bl 0 n,.ZO tx,dv,.sl bt 0 m]:List AV).all AV.one=true:=by show(true&&(true&&(dv.one&&(true&&true))))=true;rw[h];rfl
theorem Bb(T:List ThrD)(c wake:Int):(gu T c wake).length=T.length:=by unfold gu Cn;split<;>simp
theorem PP{α:Type}{l:List α}{i:Nat}{x y:α}(h:l[i]? =some y):(l.set i x)[i]? =some x:=by have:=(YR.1 h).1;simp[this]
section
variable (w:aO) (s:SyncD) (t o wake:Int) (b7 b12 bl bt:Nat) (od:Option Nat)
def fq(R:SH):SH:=(bl,⟨2,s.locks.map LockD.enc⟩)::(bt,⟨3,s.threads.map ThrD.enc⟩)::(b12,⟨4,[[.nils,.ZO 0,.nils,.nils]]⟩)::(b7,⟨4,[s.enc]⟩)::R
def eT(k:Int)(R:SH)(dv:AV)(Q:AV→SH→Prop):Prop:=∀(tx val:Int) (ls:List LockD) (th:List ThrD) (L:SH),Fz L (.sl bl 0 s.locks.length) (.lst (ls.map LockD.enc))→Fz L (.sl bt 0 s.threads.length) (.lst (th.map ThrD.enc))→(∀p∈R,p∈L)→
 aU w s t k o wake=(⟨ls,tx,s.done,th⟩,val)→Q (.tup [.agg [.sl bl 0 s.locks.length,.ZO tx,dv,.sl bt 0 s.threads.length],.ZO val,.bool true]) L
variable (R:SH) (dv:AV) (hone:dv.one=true) (Q:AV→SH→Prop) (hf:PE w s) (ht:inB t s.threads.length=true) (hnd:(fq s b7 b12 bl bt R).names.Nodup)
include hone hf ht hnd
theorem Wr(ha:allowedS w 1 o=true)(hq:eT w s t o wake bl bt 1 R dv Q):ai Q (.ZO 1) (.ZO o) (.ZO wake) (.ptr b7 0 0) (.pptr [[.ZO t]] 0 0) (.ptr b12 0 0) (.pptr [w.enc] 0 0) (.agg [.sl bl 0 s.locks.length,.ZO s.tx,dv,.sl bt 0 s.threads.length]) (fq s b7 b12 bl bt R):=by
 unfold ai;simp only[SH.names,fq,Yb,Yj,Ya,not_or]at hnd;obtain⟨⟨n1,n2,n3,n4⟩,⟨n5,n6,n7⟩,⟨n8,n9⟩,n10,n11⟩:=hnd;have hb1:([.sl bl 0 s.locks.length,.ZO s.tx,dv,.sl bt 0 s.threads.length]:List AV).all AV.one=true:=aW hone;unfold fq;have hy:=cT ht;obtain⟨t0,t1⟩:=ax.1 ht;have hb2:∀tx:Int,([.sl bl 0 s.locks.length,.ZO tx,dv,.sl bt 0 s.threads.length]:List AV).all AV.one=true:=λtx=>aW hone
 repeat' (first|refine st ?_|refine au rp rfl rfl hb1 rfl ?_|refine au rp rfl rfl (hb2 _) rfl ?_|refine sb λnb_ hnb_=>?_|refine s2 (λh=>?_) λh=>?_|fail)
 exact hq _ _ (s.locks) (aZ s t λx=>{x with status:=2}) _ (Fz.sls rp rfl ZM (by simp[aL])) (Fz.sls rp (jE rfl) ZM (by simp[aZ])) (λp hp=>by simp only[Ya];simp[hp]) (by simp only[aU,Int.reduceEq,Int.reduceNeg,if_true,if_false,or_self,or_true,true_or,or_false,false_or,reduceIte,reduceCtorEq])
theorem Ws(ha:allowedS w 2 o=true)(hq:eT w s t o wake bl bt 2 R dv Q):ai Q (.ZO 2) (.ZO o) (.ZO wake) (.ptr b7 0 0) (.pptr [[.ZO t]] 0 0) (.ptr b12 0 0) (.pptr [w.enc] 0 0) (.agg [.sl bl 0 s.locks.length,.ZO s.tx,dv,.sl bt 0 s.threads.length]) (fq s b7 b12 bl bt R):=by
 unfold ai;simp only[SH.names,fq,Yb,Yj,Ya,not_or]at hnd;obtain⟨⟨n1,n2,n3,n4⟩,⟨n5,n6,n7⟩,⟨n8,n9⟩,n10,n11⟩:=hnd;have hb1:([.sl bl 0 s.locks.length,.ZO s.tx,dv,.sl bt 0 s.threads.length]:List AV).all AV.one=true:=aW hone;unfold fq;have hy:=cT ht;obtain⟨t0,t1⟩:=ax.1 ht;have hb2:∀tx:Int,([.sl bl 0 s.locks.length,.ZO tx,dv,.sl bt 0 s.threads.length]:List AV).all AV.one=true:=λtx=>aW hone
 repeat' (first|refine st ?_|refine au rp rfl rfl hb1 rfl ?_|refine au rp rfl rfl (hb2 _) rfl ?_|refine sb λnb_ hnb_=>?_|refine s2 (λh=>?_) λh=>?_|fail)
 exact hq _ _ (s.locks) (aZ s t λx=>{x with status:=5}) _ (Fz.sls rp rfl ZM (by simp[aL])) (Fz.sls rp (jE rfl) ZM (by simp[aZ])) (λp hp=>by simp only[Ya];simp[hp]) (by simp only[aU,Int.reduceEq,Int.reduceNeg,if_true,if_false,or_self,or_true,true_or,or_false,false_or,reduceIte,reduceCtorEq])
theorem Wt(ha:allowedS w 3 o=true)(hq:eT w s t o wake bl bt 3 R dv Q):ai Q (.ZO 3) (.ZO o) (.ZO wake) (.ptr b7 0 0) (.pptr [[.ZO t]] 0 0) (.ptr b12 0 0) (.pptr [w.enc] 0 0) (.agg [.sl bl 0 s.locks.length,.ZO s.tx,dv,.sl bt 0 s.threads.length]) (fq s b7 b12 bl bt R):=by
 unfold ai;simp only[SH.names,fq,Yb,Yj,Ya,not_or]at hnd;obtain⟨⟨n1,n2,n3,n4⟩,⟨n5,n6,n7⟩,⟨n8,n9⟩,n10,n11⟩:=hnd;have hb1:([.sl bl 0 s.locks.length,.ZO s.tx,dv,.sl bt 0 s.threads.length]:List AV).all AV.one=true:=aW hone;unfold fq;have hy:=cT ht;obtain⟨t0,t1⟩:=ax.1 ht;have hb2:∀tx:Int,([.sl bl 0 s.locks.length,.ZO tx,dv,.sl bt 0 s.threads.length]:List AV).all AV.one=true:=λtx=>aW hone
 repeat' (first|refine st ?_|refine au rp rfl rfl hb1 rfl ?_|refine au rp rfl rfl (hb2 _) rfl ?_|refine sb λnb_ hnb_=>?_|refine s2 (λh=>?_) λh=>?_|fail)
 exact hq _ _ (s.locks) (s.threads) _ (Fz.sls rp rfl ZM (by simp[aL])) (Fz.sls rp rfl ZM (by simp[aZ])) (λp hp=>by simp only[Ya];simp[hp]) (by simp only[aU,Int.reduceEq,Int.reduceNeg,if_true,if_false,or_self,or_true,true_or,or_false,false_or,reduceIte,reduceCtorEq])
theorem Wu(ha:allowedS w 4 o=true)(hq:eT w s t o wake bl bt 4 R dv Q):ai Q (.ZO 4) (.ZO o) (.ZO wake) (.ptr b7 0 0) (.pptr [[.ZO t]] 0 0) (.ptr b12 0 0) (.pptr [w.enc] 0 0) (.agg [.sl bl 0 s.locks.length,.ZO s.tx,dv,.sl bt 0 s.threads.length]) (fq s b7 b12 bl bt R):=by
 unfold ai;simp only[SH.names,fq,Yb,Yj,Ya,not_or]at hnd;obtain⟨⟨n1,n2,n3,n4⟩,⟨n5,n6,n7⟩,⟨n8,n9⟩,n10,n11⟩:=hnd;have hb1:([.sl bl 0 s.locks.length,.ZO s.tx,dv,.sl bt 0 s.threads.length]:List AV).all AV.one=true:=aW hone;unfold fq;have hy:=cT ht;obtain⟨t0,t1⟩:=ax.1 ht;have hb2:∀tx:Int,([.sl bl 0 s.locks.length,.ZO tx,dv,.sl bt 0 s.threads.length]:List AV).all AV.one=true:=λtx=>aW hone
 repeat' (first|refine st ?_|refine au rp rfl rfl hb1 rfl ?_|refine au rp rfl rfl (hb2 _) rfl ?_|refine sb λnb_ hnb_=>?_|refine s2 (λh=>?_) λh=>?_|fail)
 exact hq _ _ (s.locks) (s.threads) _ (Fz.sls rp rfl ZM (by simp[aL])) (Fz.sls rp rfl ZM (by simp[aZ])) (λp hp=>by simp only[Ya];simp[hp]) (by simp only[aU,Int.reduceEq,Int.reduceNeg,if_true,if_false,or_self,or_true,true_or,or_false,false_or,reduceIte,reduceCtorEq])
theorem Wv(ha:allowedS w 5 o=true)(hq:eT w s t o wake bl bt 5 R dv Q):ai Q (.ZO 5) (.ZO o) (.ZO wake) (.ptr b7 0 0) (.pptr [[.ZO t]] 0 0) (.ptr b12 0 0) (.pptr [w.enc] 0 0) (.agg [.sl bl 0 s.locks.length,.ZO s.tx,dv,.sl bt 0 s.threads.length]) (fq s b7 b12 bl bt R):=by
 unfold ai;simp only[SH.names,fq,Yb,Yj,Ya,not_or]at hnd;obtain⟨⟨n1,n2,n3,n4⟩,⟨n5,n6,n7⟩,⟨n8,n9⟩,n10,n11⟩:=hnd;have hb1:([.sl bl 0 s.locks.length,.ZO s.tx,dv,.sl bt 0 s.threads.length]:List AV).all AV.one=true:=aW hone;unfold fq;have hy:=cT ht;obtain⟨t0,t1⟩:=ax.1 ht;have hb2:∀tx:Int,([.sl bl 0 s.locks.length,.ZO tx,dv,.sl bt 0 s.threads.length]:List AV).all AV.one=true:=λtx=>aW hone
 repeat' (first|refine st ?_|refine au rp rfl rfl hb1 rfl ?_|refine au rp rfl rfl (hb2 _) rfl ?_|refine sb λnb_ hnb_=>?_|refine s2 (λh=>?_) λh=>?_|fail)
 exact hq _ _ (s.locks) (s.threads) _ (Fz.sls rp rfl ZM (by simp[aL])) (Fz.sls rp rfl ZM (by simp[aZ])) (λp hp=>by simp only[Ya];simp[hp]) (by simp only[aU,Int.reduceEq,Int.reduceNeg,if_true,if_false,or_self,or_true,true_or,or_false,false_or,reduceIte,reduceCtorEq])
theorem Ww(ha:allowedS w 6 o=true)(hq:eT w s t o wake bl bt 6 R dv Q):ai Q (.ZO 6) (.ZO o) (.ZO wake) (.ptr b7 0 0) (.pptr [[.ZO t]] 0 0) (.ptr b12 0 0) (.pptr [w.enc] 0 0) (.agg [.sl bl 0 s.locks.length,.ZO s.tx,dv,.sl bt 0 s.threads.length]) (fq s b7 b12 bl bt R):=by
 unfold ai;simp only[SH.names,fq,Yb,Yj,Ya,not_or]at hnd;obtain⟨⟨n1,n2,n3,n4⟩,⟨n5,n6,n7⟩,⟨n8,n9⟩,n10,n11⟩:=hnd;have hb1:([.sl bl 0 s.locks.length,.ZO s.tx,dv,.sl bt 0 s.threads.length]:List AV).all AV.one=true:=aW hone;unfold fq;have hy:=cT ht;obtain⟨t0,t1⟩:=ax.1 ht;have hl:inB o s.locks.length=true:=by rw[hf.locks];simp[allowedS]at ha;exact ha.1
 have hx:=mz hl;obtain⟨o0,o1⟩:=ax.1 hl;have hb2:∀tx:Int,([.sl bl 0 s.locks.length,.ZO tx,dv,.sl bt 0 s.threads.length]:List AV).all AV.one=true:=λtx=>aW hone
 repeat' (first|refine st ?_|refine au rp rfl rfl hb1 rfl ?_|refine au rp rfl rfl (hb2 _) rfl ?_|refine sb λnb_ hnb_=>?_|refine s2 (λh=>?_) λh=>?_|fail)
 exact hq _ _ (aL s o λx=>{x with owner:=t}) (s.threads) _ (Fz.sls rp (ju rfl) ZM (by simp[aL])) (Fz.sls rp rfl ZM (by simp[aZ])) (λp hp=>by simp only[Ya];simp[hp]) (by simp only[aU,Int.reduceEq,Int.reduceNeg,if_true,if_false,or_self,or_true,true_or,or_false,false_or,reduceIte,reduceCtorEq])
theorem Wx(ha:allowedS w 7 o=true)(hq:eT w s t o wake bl bt 7 R dv Q):ai Q (.ZO 7) (.ZO o) (.ZO wake) (.ptr b7 0 0) (.pptr [[.ZO t]] 0 0) (.ptr b12 0 0) (.pptr [w.enc] 0 0) (.agg [.sl bl 0 s.locks.length,.ZO s.tx,dv,.sl bt 0 s.threads.length]) (fq s b7 b12 bl bt R):=by
 unfold ai;simp only[SH.names,fq,Yb,Yj,Ya,not_or]at hnd;obtain⟨⟨n1,n2,n3,n4⟩,⟨n5,n6,n7⟩,⟨n8,n9⟩,n10,n11⟩:=hnd;have hb1:([.sl bl 0 s.locks.length,.ZO s.tx,dv,.sl bt 0 s.threads.length]:List AV).all AV.one=true:=aW hone;unfold fq;have hy:=cT ht;obtain⟨t0,t1⟩:=ax.1 ht;have hl:inB o s.locks.length=true:=by rw[hf.locks];simp[allowedS]at ha;exact ha.1
 have hx:=mz hl;obtain⟨o0,o1⟩:=ax.1 hl;have hb2:∀tx:Int,([.sl bl 0 s.locks.length,.ZO tx,dv,.sl bt 0 s.threads.length]:List AV).all AV.one=true:=λtx=>aW hone
 repeat' (first|refine st ?_|refine au rp rfl rfl hb1 rfl ?_|refine au rp rfl rfl (hb2 _) rfl ?_|refine sb λnb_ hnb_=>?_|refine s2 (λh=>?_) λh=>?_|fail)
 exact hq _ _ (aL s o λx=>{x with owner:=-1}) (s.threads) _ (Fz.sls rp (ju rfl) ZM (by simp[aL])) (Fz.sls rp rfl ZM (by simp[aZ])) (λp hp=>by simp only[Ya];simp[hp]) (by simp only[aU,Int.reduceEq,Int.reduceNeg,if_true,if_false,or_self,or_true,true_or,or_false,false_or,reduceIte,reduceCtorEq])
theorem Ug(ha:allowedS w 10 o=true)(hq:eT w s t o wake bl bt 10 R dv Q):ai Q (.ZO 10) (.ZO o) (.ZO wake) (.ptr b7 0 0) (.pptr [[.ZO t]] 0 0) (.ptr b12 0 0) (.pptr [w.enc] 0 0) (.agg [.sl bl 0 s.locks.length,.ZO s.tx,dv,.sl bt 0 s.threads.length]) (fq s b7 b12 bl bt R):=by
 unfold ai;simp only[SH.names,fq,Yb,Yj,Ya,not_or]at hnd;obtain⟨⟨n1,n2,n3,n4⟩,⟨n5,n6,n7⟩,⟨n8,n9⟩,n10,n11⟩:=hnd;have hb1:([.sl bl 0 s.locks.length,.ZO s.tx,dv,.sl bt 0 s.threads.length]:List AV).all AV.one=true:=aW hone;unfold fq;have hy:=cT ht;obtain⟨t0,t1⟩:=ax.1 ht;have hl:inB o s.locks.length=true:=by rw[hf.locks];simp[allowedS]at ha;exact ha.1
 have hx:=mz hl;obtain⟨o0,o1⟩:=ax.1 hl;have hb2:∀tx:Int,([.sl bl 0 s.locks.length,.ZO tx,dv,.sl bt 0 s.threads.length]:List AV).all AV.one=true:=λtx=>aW hone
 repeat' (first|refine st ?_|refine au rp rfl rfl hb1 rfl ?_|refine au rp rfl rfl (hb2 _) rfl ?_|refine sb λnb_ hnb_=>?_|refine s2 (λh=>?_) λh=>?_|fail)
 exact hq _ _ (aL s o λx=>{x with owner:=t}) (s.threads) _ (Fz.sls rp (ju rfl) ZM (by simp[aL])) (Fz.sls rp rfl ZM (by simp[aZ])) (λp hp=>by simp only[Ya];simp[hp]) (by simp only[aU,Int.reduceEq,Int.reduceNeg,if_true,if_false,or_self,or_true,true_or,or_false,false_or,reduceIte,reduceCtorEq])
theorem Uh(ha:allowedS w 11 o=true)(hq:eT w s t o wake bl bt 11 R dv Q):ai Q (.ZO 11) (.ZO o) (.ZO wake) (.ptr b7 0 0) (.pptr [[.ZO t]] 0 0) (.ptr b12 0 0) (.pptr [w.enc] 0 0) (.agg [.sl bl 0 s.locks.length,.ZO s.tx,dv,.sl bt 0 s.threads.length]) (fq s b7 b12 bl bt R):=by
 unfold ai;simp only[SH.names,fq,Yb,Yj,Ya,not_or]at hnd;obtain⟨⟨n1,n2,n3,n4⟩,⟨n5,n6,n7⟩,⟨n8,n9⟩,n10,n11⟩:=hnd;have hb1:([.sl bl 0 s.locks.length,.ZO s.tx,dv,.sl bt 0 s.threads.length]:List AV).all AV.one=true:=aW hone;unfold fq;have hy:=cT ht;obtain⟨t0,t1⟩:=ax.1 ht;have hl:inB o s.locks.length=true:=by rw[hf.locks];simp[allowedS]at ha;exact ha.1
 have hx:=mz hl;obtain⟨o0,o1⟩:=ax.1 hl;have hb2:∀tx:Int,([.sl bl 0 s.locks.length,.ZO tx,dv,.sl bt 0 s.threads.length]:List AV).all AV.one=true:=λtx=>aW hone
 repeat' (first|refine st ?_|refine au rp rfl rfl hb1 rfl ?_|refine au rp rfl rfl (hb2 _) rfl ?_|refine sb λnb_ hnb_=>?_|refine s2 (λh=>?_) λh=>?_|fail)
 exact hq _ _ (aL s o λx=>{x with owner:=-1}) (s.threads) _ (Fz.sls rp (ju rfl) ZM (by simp[aL])) (Fz.sls rp rfl ZM (by simp[aZ])) (λp hp=>by simp only[Ya];simp[hp]) (by simp only[aU,Int.reduceEq,Int.reduceNeg,if_true,if_false,or_self,or_true,true_or,or_false,false_or,reduceIte,reduceCtorEq])
theorem Ui(ha:allowedS w 12 o=true)(hq:eT w s t o wake bl bt 12 R dv Q):ai Q (.ZO 12) (.ZO o) (.ZO wake) (.ptr b7 0 0) (.pptr [[.ZO t]] 0 0) (.ptr b12 0 0) (.pptr [w.enc] 0 0) (.agg [.sl bl 0 s.locks.length,.ZO s.tx,dv,.sl bt 0 s.threads.length]) (fq s b7 b12 bl bt R):=by
 unfold ai;simp only[SH.names,fq,Yb,Yj,Ya,not_or]at hnd;obtain⟨⟨n1,n2,n3,n4⟩,⟨n5,n6,n7⟩,⟨n8,n9⟩,n10,n11⟩:=hnd;have hb1:([.sl bl 0 s.locks.length,.ZO s.tx,dv,.sl bt 0 s.threads.length]:List AV).all AV.one=true:=aW hone;unfold fq;have hy:=cT ht;obtain⟨t0,t1⟩:=ax.1 ht;have hb2:∀tx:Int,([.sl bl 0 s.locks.length,.ZO tx,dv,.sl bt 0 s.threads.length]:List AV).all AV.one=true:=λtx=>aW hone
 repeat' (first|refine st ?_|refine au rp rfl rfl hb1 rfl ?_|refine au rp rfl rfl (hb2 _) rfl ?_|refine sb λnb_ hnb_=>?_|refine s2 (λh=>?_) λh=>?_|fail)
 exact hq _ _ (s.locks) (s.threads) _ (Fz.sls rp rfl ZM (by simp[aL])) (Fz.sls rp rfl ZM (by simp[aZ])) (λp hp=>by simp only[Ya];simp[hp]) (by simp only[aU,Int.reduceEq,Int.reduceNeg,if_true,if_false,or_self,or_true,true_or,or_false,false_or,reduceIte,reduceCtorEq])
theorem Uj(ha:allowedS w 13 o=true)(hq:eT w s t o wake bl bt 13 R dv Q):ai Q (.ZO 13) (.ZO o) (.ZO wake) (.ptr b7 0 0) (.pptr [[.ZO t]] 0 0) (.ptr b12 0 0) (.pptr [w.enc] 0 0) (.agg [.sl bl 0 s.locks.length,.ZO s.tx,dv,.sl bt 0 s.threads.length]) (fq s b7 b12 bl bt R):=by
 unfold ai;simp only[SH.names,fq,Yb,Yj,Ya,not_or]at hnd;obtain⟨⟨n1,n2,n3,n4⟩,⟨n5,n6,n7⟩,⟨n8,n9⟩,n10,n11⟩:=hnd;have hb1:([.sl bl 0 s.locks.length,.ZO s.tx,dv,.sl bt 0 s.threads.length]:List AV).all AV.one=true:=aW hone;unfold fq;have hy:=cT ht;obtain⟨t0,t1⟩:=ax.1 ht;have hb2:∀tx:Int,([.sl bl 0 s.locks.length,.ZO tx,dv,.sl bt 0 s.threads.length]:List AV).all AV.one=true:=λtx=>aW hone
 repeat' (first|refine st ?_|refine au rp rfl rfl hb1 rfl ?_|refine au rp rfl rfl (hb2 _) rfl ?_|refine sb λnb_ hnb_=>?_|refine s2 (λh=>?_) λh=>?_|fail)
 exact hq _ _ (s.locks) (s.threads) _ (Fz.sls rp rfl ZM (by simp[aL])) (Fz.sls rp rfl ZM (by simp[aZ])) (λp hp=>by simp only[Ya];simp[hp]) (by simp only[aU,Int.reduceEq,Int.reduceNeg,if_true,if_false,or_self,or_true,true_or,or_false,false_or,reduceIte,reduceCtorEq])
theorem Uk(ha:allowedS w 14 o=true)(hq:eT w s t o wake bl bt 14 R dv Q):ai Q (.ZO 14) (.ZO o) (.ZO wake) (.ptr b7 0 0) (.pptr [[.ZO t]] 0 0) (.ptr b12 0 0) (.pptr [w.enc] 0 0) (.agg [.sl bl 0 s.locks.length,.ZO s.tx,dv,.sl bt 0 s.threads.length]) (fq s b7 b12 bl bt R):=by
 unfold ai;simp only[SH.names,fq,Yb,Yj,Ya,not_or]at hnd;obtain⟨⟨n1,n2,n3,n4⟩,⟨n5,n6,n7⟩,⟨n8,n9⟩,n10,n11⟩:=hnd;have hb1:([.sl bl 0 s.locks.length,.ZO s.tx,dv,.sl bt 0 s.threads.length]:List AV).all AV.one=true:=aW hone;unfold fq;have hy:=cT ht;obtain⟨t0,t1⟩:=ax.1 ht;have hb2:∀tx:Int,([.sl bl 0 s.locks.length,.ZO tx,dv,.sl bt 0 s.threads.length]:List AV).all AV.one=true:=λtx=>aW hone
 repeat' (first|refine st ?_|refine au rp rfl rfl hb1 rfl ?_|refine au rp rfl rfl (hb2 _) rfl ?_|refine sb λnb_ hnb_=>?_|refine s2 (λh=>?_) λh=>?_|fail)
 exact hq _ _ (s.locks) (aZ s t λx=>{x with atomic:=true}) _ (Fz.sls rp rfl ZM (by simp[aL])) (Fz.sls rp (jE rfl) ZM (by simp[aZ])) (λp hp=>by simp only[Ya];simp[hp]) (by simp only[aU,Int.reduceEq,Int.reduceNeg,if_true,if_false,or_self,or_true,true_or,or_false,false_or,reduceIte,reduceCtorEq])
theorem Ul(ha:allowedS w 15 o=true)(hq:eT w s t o wake bl bt 15 R dv Q):ai Q (.ZO 15) (.ZO o) (.ZO wake) (.ptr b7 0 0) (.pptr [[.ZO t]] 0 0) (.ptr b12 0 0) (.pptr [w.enc] 0 0) (.agg [.sl bl 0 s.locks.length,.ZO s.tx,dv,.sl bt 0 s.threads.length]) (fq s b7 b12 bl bt R):=by
 unfold ai;simp only[SH.names,fq,Yb,Yj,Ya,not_or]at hnd;obtain⟨⟨n1,n2,n3,n4⟩,⟨n5,n6,n7⟩,⟨n8,n9⟩,n10,n11⟩:=hnd;have hb1:([.sl bl 0 s.locks.length,.ZO s.tx,dv,.sl bt 0 s.threads.length]:List AV).all AV.one=true:=aW hone;unfold fq;have hy:=cT ht;obtain⟨t0,t1⟩:=ax.1 ht;have hb2:∀tx:Int,([.sl bl 0 s.locks.length,.ZO tx,dv,.sl bt 0 s.threads.length]:List AV).all AV.one=true:=λtx=>aW hone
 repeat' (first|refine st ?_|refine au rp rfl rfl hb1 rfl ?_|refine au rp rfl rfl (hb2 _) rfl ?_|refine sb λnb_ hnb_=>?_|refine s2 (λh=>?_) λh=>?_|fail)
 exact hq _ _ (s.locks) (aZ s t λx=>{x with atomic:=false}) _ (Fz.sls rp rfl ZM (by simp[aL])) (Fz.sls rp (jE rfl) ZM (by simp[aZ])) (λp hp=>by simp only[Ya];simp[hp]) (by simp only[aU,Int.reduceEq,Int.reduceNeg,if_true,if_false,or_self,or_true,true_or,or_false,false_or,reduceIte,reduceCtorEq])
theorem Um(ha:allowedS w 16 o=true)(hq:eT w s t o wake bl bt 16 R dv Q):ai Q (.ZO 16) (.ZO o) (.ZO wake) (.ptr b7 0 0) (.pptr [[.ZO t]] 0 0) (.ptr b12 0 0) (.pptr [w.enc] 0 0) (.agg [.sl bl 0 s.locks.length,.ZO s.tx,dv,.sl bt 0 s.threads.length]) (fq s b7 b12 bl bt R):=by
 unfold ai;simp only[SH.names,fq,Yb,Yj,Ya,not_or]at hnd;obtain⟨⟨n1,n2,n3,n4⟩,⟨n5,n6,n7⟩,⟨n8,n9⟩,n10,n11⟩:=hnd;have hb1:([.sl bl 0 s.locks.length,.ZO s.tx,dv,.sl bt 0 s.threads.length]:List AV).all AV.one=true:=aW hone;unfold fq;have hy:=cT ht;obtain⟨t0,t1⟩:=ax.1 ht;have hc:inB o w.conds.length=true:=by simpa[allowedS]using ha
 have hl:=M3 hf hc;have hx:=mz hl;obtain⟨o0,o1⟩:=ax.1 hl;unfold mv at hl hx o0 o1;have hy2:((s.threads.map ThrD.enc).set (0+t.toNat) ((aE s t).enc.set 0 (.ZO 3)))[0+t.toNat]? =some ((aE s t).enc.set 0 (.ZO 3)):=PP hy;have hb2:∀tx:Int,([.sl bl 0 s.locks.length,.ZO tx,dv,.sl bt 0 s.threads.length]:List AV).all AV.one=true:=λtx=>aW hone
 repeat' (first|refine st ?_|refine au rp rfl rfl hb1 rfl ?_|refine au rp rfl rfl (hb2 _) rfl ?_|refine sb λnb_ hnb_=>?_|refine s2 (λh=>?_) λh=>?_|fail)
 exact hq _ _ (aL s (mv w o) λx=>{x with owner:=-1}) (aZ s t λx=>{x with status:=3,cond:=o}) _ (Fz.sls rp (ju rfl) ZM (by simp[aL])) (Fz.sls rp (by rw[List.set_set];exact jE rfl) ZM (by simp[aZ])) (λp hp=>by simp only[Ya];simp[hp]) (by simp only[aU,Int.reduceEq,Int.reduceNeg,if_true,if_false,or_self,or_true,true_or,or_false,false_or,reduceIte,reduceCtorEq])
theorem Un(ha:allowedS w 17 o=true)(hq:eT w s t o wake bl bt 17 R dv Q):ai Q (.ZO 17) (.ZO o) (.ZO wake) (.ptr b7 0 0) (.pptr [[.ZO t]] 0 0) (.ptr b12 0 0) (.pptr [w.enc] 0 0) (.agg [.sl bl 0 s.locks.length,.ZO s.tx,dv,.sl bt 0 s.threads.length]) (fq s b7 b12 bl bt R):=by
 unfold ai;simp only[SH.names,fq,Yb,Yj,Ya,not_or]at hnd;obtain⟨⟨n1,n2,n3,n4⟩,⟨n5,n6,n7⟩,⟨n8,n9⟩,n10,n11⟩:=hnd;have hb1:([.sl bl 0 s.locks.length,.ZO s.tx,dv,.sl bt 0 s.threads.length]:List AV).all AV.one=true:=aW hone;unfold fq;have hy:=cT ht;obtain⟨t0,t1⟩:=ax.1 ht;have hc:inB o w.conds.length=true:=by simpa[allowedS]using ha
 have hl:=M3 hf hc;have hx:=mz hl;obtain⟨o0,o1⟩:=ax.1 hl;unfold mv at hl hx o0 o1;have hy2:((s.threads.map ThrD.enc).set (0+t.toNat) ((aE s t).enc.set 0 (.ZO 2)))[0+t.toNat]? =some ((aE s t).enc.set 0 (.ZO 2)):=PP hy;have hb2:∀tx:Int,([.sl bl 0 s.locks.length,.ZO tx,dv,.sl bt 0 s.threads.length]:List AV).all AV.one=true:=λtx=>aW hone
 repeat' (first|refine st ?_|refine au rp rfl rfl hb1 rfl ?_|refine au rp rfl rfl (hb2 _) rfl ?_|refine sb λnb_ hnb_=>?_|refine s2 (λh=>?_) λh=>?_|fail)
 exact hq _ _ (aL s (mv w o) λx=>{x with owner:=t}) (aZ s t λx=>{x with status:=2,cond:=0}) _ (Fz.sls rp (ju rfl) ZM (by simp[aL])) (Fz.sls rp (by rw[List.set_set];exact jE rfl) ZM (by simp[aZ])) (λp hp=>by simp only[Ya];simp[hp]) (by simp only[aU,Int.reduceEq,Int.reduceNeg,if_true,if_false,or_self,or_true,true_or,or_false,false_or,reduceIte,reduceCtorEq])
theorem Uo(ha:allowedS w 20 o=true)(hq:eT w s t o wake bl bt 20 R dv Q):ai Q (.ZO 20) (.ZO o) (.ZO wake) (.ptr b7 0 0) (.pptr [[.ZO t]] 0 0) (.ptr b12 0 0) (.pptr [w.enc] 0 0) (.agg [.sl bl 0 s.locks.length,.ZO s.tx,dv,.sl bt 0 s.threads.length]) (fq s b7 b12 bl bt R):=by
 unfold ai;simp only[SH.names,fq,Yb,Yj,Ya,not_or]at hnd;obtain⟨⟨n1,n2,n3,n4⟩,⟨n5,n6,n7⟩,⟨n8,n9⟩,n10,n11⟩:=hnd;have hb1:([.sl bl 0 s.locks.length,.ZO s.tx,dv,.sl bt 0 s.threads.length]:List AV).all AV.one=true:=aW hone;unfold fq;have hy:=cT ht;obtain⟨t0,t1⟩:=ax.1 ht;have hl:inB o s.threads.length=true:=by rw[hf.threads];simpa[allowedS]using ha
 have hx:=cT hl;obtain⟨o0,o1⟩:=ax.1 hl;have hb2:∀tx:Int,([.sl bl 0 s.locks.length,.ZO tx,dv,.sl bt 0 s.threads.length]:List AV).all AV.one=true:=λtx=>aW hone
 repeat' (first|refine st ?_|refine au rp rfl rfl hb1 rfl ?_|refine au rp rfl rfl (hb2 _) rfl ?_|refine sb λnb_ hnb_=>?_|refine s2 (λh=>?_) λh=>?_|fail)
 exact hq _ _ (s.locks) (aZ s o λx=>{x with status:=1}) _ (Fz.sls rp rfl ZM (by simp[aL])) (Fz.sls rp (jE rfl) ZM (by simp[aZ])) (λp hp=>by simp only[Ya];simp[hp]) (by simp only[aU,Int.reduceEq,Int.reduceNeg,if_true,if_false,or_self,or_true,true_or,or_false,false_or,reduceIte,reduceCtorEq])
theorem Up(ha:allowedS w 21 o=true)(hq:eT w s t o wake bl bt 21 R dv Q):ai Q (.ZO 21) (.ZO o) (.ZO wake) (.ptr b7 0 0) (.pptr [[.ZO t]] 0 0) (.ptr b12 0 0) (.pptr [w.enc] 0 0) (.agg [.sl bl 0 s.locks.length,.ZO s.tx,dv,.sl bt 0 s.threads.length]) (fq s b7 b12 bl bt R):=by
 unfold ai;simp only[SH.names,fq,Yb,Yj,Ya,not_or]at hnd;obtain⟨⟨n1,n2,n3,n4⟩,⟨n5,n6,n7⟩,⟨n8,n9⟩,n10,n11⟩:=hnd;have hb1:([.sl bl 0 s.locks.length,.ZO s.tx,dv,.sl bt 0 s.threads.length]:List AV).all AV.one=true:=aW hone;unfold fq;have hy:=cT ht;obtain⟨t0,t1⟩:=ax.1 ht;have hb2:∀tx:Int,([.sl bl 0 s.locks.length,.ZO tx,dv,.sl bt 0 s.threads.length]:List AV).all AV.one=true:=λtx=>aW hone
 repeat' (first|refine st ?_|refine au rp rfl rfl hb1 rfl ?_|refine au rp rfl rfl (hb2 _) rfl ?_|refine sb λnb_ hnb_=>?_|refine s2 (λh=>?_) λh=>?_|fail)
 exact hq _ _ (s.locks) (s.threads) _ (Fz.sls rp rfl ZM (by simp[aL])) (Fz.sls rp rfl ZM (by simp[aZ])) (λp hp=>by simp only[Ya];simp[hp]) (by simp only[aU,Int.reduceEq,Int.reduceNeg,if_true,if_false,or_self,or_true,true_or,or_false,false_or,reduceIte,reduceCtorEq])
theorem Uq(ha:allowedS w 23 o=true)(hq:eT w s t o wake bl bt 23 R dv Q):ai Q (.ZO 23) (.ZO o) (.ZO wake) (.ptr b7 0 0) (.pptr [[.ZO t]] 0 0) (.ptr b12 0 0) (.pptr [w.enc] 0 0) (.agg [.sl bl 0 s.locks.length,.ZO s.tx,dv,.sl bt 0 s.threads.length]) (fq s b7 b12 bl bt R):=by
 unfold ai;simp only[SH.names,fq,Yb,Yj,Ya,not_or]at hnd;obtain⟨⟨n1,n2,n3,n4⟩,⟨n5,n6,n7⟩,⟨n8,n9⟩,n10,n11⟩:=hnd;have hb1:([.sl bl 0 s.locks.length,.ZO s.tx,dv,.sl bt 0 s.threads.length]:List AV).all AV.one=true:=aW hone;unfold fq;have hy:=cT ht;obtain⟨t0,t1⟩:=ax.1 ht;have hb2:∀tx:Int,([.sl bl 0 s.locks.length,.ZO tx,dv,.sl bt 0 s.threads.length]:List AV).all AV.one=true:=λtx=>aW hone
 repeat' (first|refine st ?_|refine au rp rfl rfl hb1 rfl ?_|refine au rp rfl rfl (hb2 _) rfl ?_|refine sb λnb_ hnb_=>?_|refine s2 (λh=>?_) λh=>?_|fail)
 exact hq _ _ (s.locks) (s.threads) _ (Fz.sls rp rfl ZM (by simp[aL])) (Fz.sls rp rfl ZM (by simp[aZ])) (λp hp=>by simp only[Ya];simp[hp]) (by simp only[aU,Int.reduceEq,Int.reduceNeg,if_true,if_false,or_self,or_true,true_or,or_false,false_or,reduceIte,reduceCtorEq])
theorem Ur(hT:s.threads.length<2^40)(hq:eT w s t o wake bl bt 18 R dv Q):ai Q (.ZO 18) (.ZO o) (.ZO wake) (.ptr b7 0 0) (.pptr [[.ZO t]] 0 0) (.ptr b12 0 0) (.pptr [w.enc] 0 0) (.agg [.sl bl 0 s.locks.length,.ZO s.tx,dv,.sl bt 0 s.threads.length]) (fq s b7 b12 bl bt R):=by
 unfold ai;simp only[SH.names,fq,Yb,Yj,Ya,not_or]at hnd;obtain⟨⟨n1,n2,n3,n4⟩,⟨n5,n6,n7⟩,⟨n8,n9⟩,n10,n11⟩:=hnd;have hb2:∀tx:Int,([.sl bl 0 s.locks.length,.ZO tx,dv,.sl bt 0 s.threads.length]:List AV).all AV.one=true:=λtx=>aW hone
 unfold fq
 repeat' (first|refine st ?_|refine au rp rfl rfl (hb2 _) rfl ?_|((with_reducible refine bz 78 ?_);(refine kQ (NS _ _ _ bt s.threads o wake hT (hb2 _)) rp ?_;rintro _ _ ⟨rfl,rfl⟩))|refine sb λnb_ hnb_=>?_|refine s2 (λh=>?_) λh=>?_|fail)
 exact hq _ _ s.locks (gu s.threads o wake) _ (Fz.sls rp rfl ZM rfl) (Fz.sls rp rfl ZM (Bb _ _ _).symm) (λp hp=>by simp only[Ya,Yg];simp[hp]) (by simp only[aU,Int.reduceEq,Int.reduceNeg,if_true,if_false,or_self,or_true,true_or,or_false,false_or,reduceIte,reduceCtorEq])
theorem Us(hT:s.threads.length<2^40)(hq:eT w s t o wake bl bt 19 R dv Q):ai Q (.ZO 19) (.ZO o) (.ZO wake) (.ptr b7 0 0) (.pptr [[.ZO t]] 0 0) (.ptr b12 0 0) (.pptr [w.enc] 0 0) (.agg [.sl bl 0 s.locks.length,.ZO s.tx,dv,.sl bt 0 s.threads.length]) (fq s b7 b12 bl bt R):=by
 unfold ai;simp only[SH.names,fq,Yb,Yj,Ya,not_or]at hnd;obtain⟨⟨n1,n2,n3,n4⟩,⟨n5,n6,n7⟩,⟨n8,n9⟩,n10,n11⟩:=hnd;have hb2:∀tx:Int,([.sl bl 0 s.locks.length,.ZO tx,dv,.sl bt 0 s.threads.length]:List AV).all AV.one=true:=λtx=>aW hone
 unfold fq
 repeat' (first|refine st ?_|refine au rp rfl rfl (hb2 _) rfl ?_|((with_reducible refine bz 79 ?_);(refine kQ (Io _ _ _ bt s.threads o hT (hb2 _)) rp ?_;rintro _ _ ⟨rfl,rfl⟩))|refine sb λnb_ hnb_=>?_|refine s2 (λh=>?_) λh=>?_|fail)
 exact hq _ _ s.locks (Cp s o) _ (Fz.sls rp rfl ZM rfl) (Fz.sls rp rfl ZM (cV _ _ _).symm) (λp hp=>by simp only[Ya,Yg];simp[hp]) (by simp only[aU,Int.reduceEq,Int.reduceNeg,if_true,if_false,or_self,or_true,true_or,or_false,false_or,reduceIte,reduceCtorEq])
def Ti(bd:Nat)(Q:AV→SH→Prop):Prop:=∀(L:SH),Fz L (.sl bl 0 s.locks.length) (.lst (s.locks.map LockD.enc))→Fz L (.sl bt 0 s.threads.length) (.lst (s.threads.map ThrD.enc))→Fz L (.sl bd 0 s.done.length) (.lst ((s.done.set o.toNat true).map bj))→
 Q (.tup [.agg [.sl bl 0 s.locks.length,.ZO s.tx,.sl bd 0 s.done.length,.sl bt 0 s.threads.length],.ZO 0,.bool true]) L
omit hone hnd in
theorem Ut(bd:Nat)(hnd:(fq s b7 b12 bl bt [(bd,⟨1,s.done.map bj⟩)]).names.Nodup)(ha:allowedS w 22 o=true)(hq:Ti s o bl bt bd Q):ai Q (.ZO 22) (.ZO o) (.ZO wake) (.ptr b7 0 0) (.pptr [[.ZO t]] 0 0) (.ptr b12 0 0) (.pptr [w.enc] 0 0) (.agg [.sl bl 0 s.locks.length,.ZO s.tx,.sl bd 0 s.done.length,.sl bt 0 s.threads.length]) (fq s b7 b12 bl bt [(bd,⟨1,s.done.map bj⟩)]):=by
 unfold ai fq;have hl:inB o s.done.length=true:=by rw[hf.done];simpa[allowedS]using ha
 obtain⟨o0,o1⟩:=ax.1 hl;have hx:(s.done.map bj)[0+o.toNat]? =some (bj (s.done.getD o.toNat default)):=by rw[Y2];exact dU hl
 repeat' (first|refine st ?_|refine sb λnb_ hnb_=>?_|refine s2 (λh=>?_) λh=>?_|fail)
 refine hq _ (Fz.sls rp rfl ZM rfl) (Fz.sls rp rfl ZM rfl) (Fz.sls rp ?_ ZM ZM);rw[Y6,Y2];rfl
end
end
section
set_option maxRecDepth 100000
set_option linter.unusedSimpArgs false
set_option linter.unusedSectionVars false
theorem J9{K:SH}{bl:Nat}{rows:List (List AV)}{ls:List LockD}{n:Nat}(hm:(bl,⟨2,rows⟩)∈K)(hn:n=ls.length)(hl:rows.length=ls.length)
  (h:∀(j:Nat) (r:List AV) (x:LockD),rows[j]? =some r→ls[j]? =some x→∃a,r=[.ZO x.owner,a]∧Fz K a (.lst (x.readers.map aj))):Fz K (.sl bl 0 n) (.lst (ls.map LockD.enc)):=by
 subst hn;rcases Y0 ls.length with h0|h0
 ·have:ls=[]:=Y5.1 h0;subst this;exact .sl0 bl 0
 ·have get:∀(j:Nat) (r r2:List AV),rows[0+j]? =some r→(ls.map LockD.enc)[j]? =some r2→∃x:LockD,ls[j]? =some x∧r2=x.enc∧∃a,r=[.ZO x.owner,a]∧Fz K a (.lst (x.readers.map aj)):=λj r r2 h1 h2=>by
   rw[Y2]at h1;rw[Ym]at h2;cases hj:ls[j]? with
   |none=>rw[hj]at h2;cases h2
   |some x=>rw[hj]at h2;cases h2;exact⟨x,rfl,rfl,h j r x h1 hj⟩
  refine .sl bl 0 _ ⟨2,rows⟩ _ hm ZM h0 ZM (by simp;omega) (λj r r2 h1 h2=>?_) (λj r r2 q a a2 h1 h2 h3 h4=>?_)
  ·obtain⟨x,_,rfl,a,rfl,_⟩:=get j r r2 h1 h2;rfl
  ·obtain⟨x,_,rfl,a',rfl,hz⟩:=get j r r2 h1 h2
   match q with
   |0=>cases h3;cases h4;exact .refl _
   |1=>cases h3;cases h4;exact hz
   |q+2=>simp at h3
theorem enc_row(x:LockD){K:SH}:∃a,x.enc=[.ZO x.owner,a]∧Fz K a (.lst (x.readers.map aj)):=⟨_,rfl,.refl _⟩
theorem M4{K:SH}{s:SyncD}{o:Int}{ro:Option Nat}{f:LockD→LockD}{a:AV}(hl:inB o s.locks.length=true)(hf:∀x,(f x).owner=x.owner)(ha:Fz K a (.lst ((f (aP s o)).readers.map aj))):
  ∀(j:Nat) (r:List AV) (x:LockD),((cg o.toNat ro s.locks).set (0+o.toNat) [.ZO (aP s o).owner,a])[j]? =some r→(aL s o f)[j]? =some x→∃a,r=[.ZO x.owner,a]∧Fz K a (.lst (x.readers.map aj)):=by
 intro j r x h1 h2;obtain⟨o0,o1⟩:=ax.1 hl;have hlt:o.toNat<s.locks.length:=by omega
 unfold aL at h2;rw[Y2]at h1;by_cases hj:o.toNat=j
 ·subst hj;rw[List.getElem?_set_self (by rw[cy];exact hlt)]at h1;rw[List.getElem?_set_self hlt]at h2;cases h1;cases h2;exact⟨a,by rw[hf],ha⟩
 ·rw[List.getElem?_set_ne hj]at h1 h2;have hjl:j<s.locks.length:=(YR.1 h2).1;rw[ga _ _ _ _ hjl]at h1;rw[X6 hjl]at h2;cases h1;cases h2;unfold oH;rw[if_neg (λe=>hj e.symm)];exact enc_row _
theorem Ka{s:SyncD}{o:Int}{ro:Option Nat}(hl:inB o s.locks.length=true):(cg o.toNat ro s.locks)[0+o.toNat]? =some [.ZO (aP s o).owner,ao ro (aP s o).readers.length]:=by
 obtain⟨o0,o1⟩:=ax.1 hl;have hlt:o.toNat<s.locks.length:=by omega
 rw[Y2,ga _ _ _ _ hlt];unfold oH;rw[if_pos rfl];simp[aP,hlt]
section
variable (w:aO) (s:SyncD) (t o wake:Int) (b7 b12 bl bt:Nat)
def PQ(ro:Option Nat)(R:SH):SH:=(bl,⟨2,cg o.toNat ro s.locks⟩)::(bt,⟨3,s.threads.map ThrD.enc⟩)::(b12,⟨4,[[.nils,.ZO 0,.nils,.nils]]⟩)::(b7,⟨4,[s.enc]⟩)::(ae ro 1 ((aP s o).readers.map aj)++R)
variable (R:SH) (dv:AV) (hone:dv.one=true) (Q:AV→SH→Prop) (hl:inB o s.locks.length=true) (hrd:(aP s o).readers.length<2^40)
include hone hl hrd
theorem Wy(br:Nat)(hnd:(PQ s o b7 b12 bl bt (some br) R).names.Nodup)(hq:eT w s t o wake bl bt 9 R dv Q):ai Q (.ZO 9) (.ZO o) (.ZO wake) (.ptr b7 0 0) (.pptr [[.ZO t]] 0 0) (.ptr b12 0 0) (.pptr [w.enc] 0 0) (.agg [.sl bl 0 s.locks.length,.ZO s.tx,dv,.sl bt 0 s.threads.length]) (PQ s o b7 b12 bl bt (some br) R):=by
 unfold ai;simp only[SH.names,PQ,ae,Yb,Yj,Ya,not_or,Zn,Za]at hnd;obtain⟨⟨n1,n2,n3,n4,n12⟩,⟨n5,n6,n7,n13⟩,⟨n8,n9,n14⟩,⟨n15,n16⟩,n10,n11⟩:=hnd;have hb2:∀tx:Int,([.sl bl 0 s.locks.length,.ZO tx,dv,.sl bt 0 s.threads.length]:List AV).all AV.one=true:=λtx=>aW hone
 obtain⟨o0,o1⟩:=ax.1 hl;have hx:=Ka (ro:=some br) hl;have hdel:=GE 77 [.pptr [[.ZO t]] 0 0] (λx=>decide (x=t)) (NU t 0 []) br (aP s o).readers ZJ;unfold PQ;simp only[ae,Zn,Za]
 repeat' (first|refine st ?_|refine au rp rfl rfl (hb2 _) rfl ?_|((with_reducible refine eD 76 ?_);(refine Ez hdel rp (by(simp only[rm,rc,rz,W.free,aw,↓reduceIte,Nat.reduceEqDiff,aa,ed,ZH,YO,YF,not_false_eq_true,implies_true,and_true,true_and,and_self,YB,reduceCtorEq,forall_const,false_implies,Ye,forall_eq,YM,Za,Ya,or_false,false_or,forall_eq_or_imp,not_or])<;>(repeat' constructor)<;>first|assumption|(exact Ne.symm ZK)|(intro e_;subst e_;simp[SH.names]at *;done)) ?_;rintro _ _ ⟨R',rfl,rfl,hR1,hR2⟩))|refine sb λnb_ hnb_=>?_|refine s2 (λh=>?_) λh=>?_|fail)
 refine hq _ _ (aL s o λx=>{x with readers:=x.readers.filter λy=>!decide (y=t)}) s.threads _ (J9 rp (by simp[aL]) (by simp[aL,cy]) (M4 hl (λ_=>rfl) ?_)) (Fz.sls rp rfl ZM rfl) (λp hp=>by simp only[Ya,Yg];simp[hp]) (by simp only[aU,Int.reduceEq,if_true,if_false,or_self,reduceIte]);rw[←ED hR1];exact Fz.rows (x:=⟨1,R'.map aj⟩) rp ZM (by simp[hR2];exact Zb _ _)
theorem Wz(ro:Option Nat)(hro:ro=none→(aP s o).readers=[])(hnd:(PQ s o b7 b12 bl bt ro R).names.Nodup)(hq:eT w s t o wake bl bt 8 R dv Q):ai Q (.ZO 8) (.ZO o) (.ZO wake) (.ptr b7 0 0) (.pptr [[.ZO t]] 0 0) (.ptr b12 0 0) (.pptr [w.enc] 0 0) (.agg [.sl bl 0 s.locks.length,.ZO s.tx,dv,.sl bt 0 s.threads.length]) (PQ s o b7 b12 bl bt ro R):=by
 unfold ai;simp only[SH.names,PQ,Yb,Yj,Ya,not_or]at hnd;obtain⟨⟨n1,n2,n3,n4⟩,⟨n5,n6,n7⟩,⟨n8,n9⟩,n10,n11⟩:=hnd;have hb2:∀tx:Int,([.sl bl 0 s.locks.length,.ZO tx,dv,.sl bt 0 s.threads.length]:List AV).all AV.one=true:=λtx=>aW hone
 obtain⟨o0,o1⟩:=ax.1 hl;have hx:=Ka (ro:=ro) hl;have hsort:∀nb,af Tryz.prog 74 [.sl nb 0 ((aP s o).readers.length+1)] [(nb,⟨1,(aP s o).readers.map aj++[[.ZO t]]⟩)] λv L=>v=.tup []∧L=[(nb,⟨1,(AT ((aP s o).readers++[t])).map aj⟩)]:=λnb=>by have:=MX nb ((aP s o).readers++[t]) (by simp;omega);rw[Yf,Yc]at this;exact this
 have hcomp:∀nb,af Tryz.prog 75 [.sl nb 0 ((aP s o).readers.length+1)] [(nb,⟨1,(AT ((aP s o).readers++[t])).map aj⟩)] λv L=>∃R':List Int,v=.sl nb 0 (yw (aP s o).readers t).length∧L=[(nb,⟨1,R'.map aj⟩)]∧R'.take (yw (aP s o).readers t).length=yw (aP s o).readers t∧(yw (aP s o).readers t).length≤R'.length:=λnb=>by
  have:=EE nb (AT ((aP s o).readers++[t])) (by rw[rt];simp;omega);rw[rt,Yf]at this;refine this.mono λv L ⟨h1,h2⟩=>⟨_,h1,h2,?_,?_⟩
  ·exact List.take_left' rfl
  ·simp[yw]
 unfold PQ
 repeat' (first|refine st ?_|refine au rp rfl rfl (hb2 _) rfl ?_|(refine JS [_,_,_,_] ZM (λe=>by rw[hro e];rfl) rfl (Nat.succ_pos 0) (by simp;omega) (by simp;omega) rfl ?_;intro nb_ hnb_;simp only[Ya,YF,or_false,forall_eq_or_imp,forall_eq]at hnb_;obtain⟨q1,q2,q3,q4⟩:=hnb_)|((with_reducible refine bz 74 ?_);(refine kQ (hsort _) rp ?_;rintro _ _ ⟨rfl,rfl⟩))|((with_reducible refine eD 75 ?_);(refine Ez (hcomp _) rp (by(simp only[rm,rc,rz,W.free,aw,↓reduceIte,Nat.reduceEqDiff,aa,ed,ZH,YO,YF,not_false_eq_true,implies_true,and_true,true_and,and_self,YB,reduceCtorEq,forall_const,false_implies,Ye,forall_eq,YM,Za,Ya,or_false,false_or,forall_eq_or_imp,not_or])<;>(repeat' constructor)<;>first|assumption|(exact Ne.symm ZK)|(intro e_;subst e_;simp[SH.names]at *;done)) ?_;rintro _ _ ⟨R',rfl,rfl,hR1,hR2⟩))|refine sb λnb_ hnb_=>?_|refine s2 (λh=>?_) λh=>?_|fail)
 refine hq _ _ (aL s o λx=>{x with readers:=yw x.readers t}) s.threads _ (J9 rp (by simp[aL]) (by simp[aL,cy]) (M4 hl (λ_=>rfl) ?_)) (Fz.sls rp rfl ZM rfl) (λp hp=>by simp only[Ya,Yg];simp[hp]) (by simp only[aU,Int.reduceEq,if_true,if_false,or_self,reduceIte]);rw[←ED hR1];exact Fz.rows (x:=⟨1,R'.map aj⟩) rp ZM (by simp;exact hR2)
end
end
section
set_option maxRecDepth 100000
set_option linter.unusedSimpArgs false
set_option linter.unusedSectionVars false
def M5:SyncD:=⟨[],0,[],[]⟩
def fI(w:aO)(s:SyncD)(t k o wake:Int):SyncD×Int×Bool:=if bn w s t k o then((aU w s t k o wake).1,(aU w s t k o wake).2,true)else(M5,0,false)
def Uu(r:SyncD×Int×Bool):AV:=.tup [.agg r.1.enc,.ZO r.2.1,.bool r.2.2]
theorem Iq(ro:Option Nat)(ls:List LockD):cg ls.length ro ls=ls.map LockD.enc:=by
 apply Zh;intro i;rcases X9 i ls.length with hi|hi
 ·rw[ga _ _ _ _ hi,oH,if_neg ZJ];simp[hi]
 ·rw[X8 (by rw[cy];exact hi),X8 (by simpa using hi)]
section
variable (s:SyncD) (h1:s.locks.length<2^40) (h2:s.done.length≤140737488351232) (h3:s.threads.length<2^40) (hrd:∀l∈s.locks,l.readers.length<2^40) (hne:s.threads≠[])
include h1 h2 h3 hrd hne
theorem Kb:af Tryz.prog 73 [.agg s.enc] [] λv L=>∃bl bt od,v=.agg [.sl bl 0 s.locks.length,.ZO s.tx,aS od s.done.length,.sl bt 0 s.threads.length]∧L=(bl,⟨2,s.locks.map LockD.enc⟩)::(ae od 1 (s.done.map bj)++[(bt,⟨3,s.threads.map ThrD.enc⟩)])∧(od=none→s.done=[]):=by
 refine(J7 s s.locks.length h1 h2 h3 hrd).mono ?_;rintro v L ⟨bl,ro,od,ot,rfl,rfl,hod,hot,hro⟩;cases ot with
 |none=>exact absurd (hot rfl) hne
 |some bt=>exact⟨bl,bt,od,rfl,by rw[Iq,Je,if_neg (Nat.lt_irrefl _)];rfl,hod⟩
theorem PR(o:Int)(hl:inB o s.locks.length=true):af Tryz.prog 73 [.agg s.enc] [] λv L=>∃bl bt ro od,v=.agg [.sl bl 0 s.locks.length,.ZO s.tx,aS od s.done.length,.sl bt 0 s.threads.length]∧L=(bl,⟨2,cg o.toNat ro s.locks⟩)::(ae ro 1 ((aP s o).readers.map aj)++(ae od 1 (s.done.map bj)++[(bt,⟨3,s.threads.map ThrD.enc⟩)]))∧(od=none→s.done=[])∧(ro=none→(aP s o).readers=[]):=by
 obtain⟨o0,o1⟩:=ax.1 hl;have hlt:o.toNat<s.locks.length:=by omega
 refine(J7 s o.toNat h1 h2 h3 hrd).mono ?_;rintro v L ⟨bl,ro,od,ot,rfl,rfl,hod,hot,hro⟩;cases ot with
 |none=>exact absurd (hot rfl) hne
 |some bt=>exact⟨bl,bt,ro,od,rfl,by rw[Je,if_pos hlt];rfl,hod,λe=>hro e hlt⟩
end
theorem PS{α:Type}(a b c d:α)(X:List α):((a::(X++[b]))++[c,d]).Perm (a::b::c::d::X):=by refine List.Perm.cons a ?_;show((X++[b])++[c,d]).Perm _;rw[YP];exact YD (l₁:=X) (l₂:=[b,c,d])
theorem Uv{α:Type}(a b c d:α)(X Y:List α):((a::(X++(Y++[b])))++[c,d]).Perm (a::b::c::d::(X++Y)):=by rw[←YP];exact PS a b c d (X++Y)
theorem bO(od:Option Nat)(n:Nat):(aS od n).one=true:=by cases od<;>rfl
theorem R7{s:SyncD}{od:Option Nat}(hod:od=none→s.done=[]){L:SH}(hR:∀p∈ae od 1 (s.done.map bj),p∈L):Fz L (aS od s.done.length) (.lst (s.done.map bj)):=by
 cases od with
 |none=>rw[hod rfl];exact .refl _
 |some bd=>exact Fz.sls (hR _ (Ye.2 rfl)) rfl ZM rfl
structure PT(w:aO)(s:SyncD):Prop where
 conds:w.conds.length<2^40
 locks:s.locks.length<2^40
 done:s.done.length≤140737488351232
 threads:s.threads.length<2^40
 rd:∀l∈s.locks,l.readers.length<2^40
section
variable (w:aO) (s:SyncD) (t k o wake:Int)
def GF(v:AV)(L:SH):Prop:=∃v2 L2,aG [v] L [v2] L2∧v2=Uu (fI w s t k o wake)∧L2=[]
theorem WA(hen:bn w s t k o=true)(bl bt:Nat)(od:Option Nat)(hod:od=none→s.done=[]):eT w s t o wake bl bt k (ae od 1 (s.done.map bj)) (aS od s.done.length) (GF w s t k o wake):=by intro tx val ls th L f1 f2 hR e;refine⟨_,[],aG.all (Fz.tups (.cons (Fz.aggs (.cons f1 (.cons (.refl _) (.cons (R7 hod hR) (.cons f2 .nil))))) (.cons (.refl _) (.cons (.refl _) .nil)))),?_,rfl⟩;unfold fI;rw[if_pos hen,e];rfl
theorem WB(hen:bn w s t 22 o=true)(bl bt bd:Nat):Ti s o bl bt bd (GF w s t 22 o wake):=by intro L f1 f2 f3;refine⟨_,[],aG.all (Fz.tups (.cons (Fz.aggs (.cons f1 (.cons (.refl _) (.cons f3 (.cons f2 .nil))))) (.cons (.refl _) (.cons (.refl _) .nil)))),?_,rfl⟩;unfold fI;rw[if_pos hen];rfl
theorem PU(hs:PT w s)(hen:bn w s t k o=true)(b7 b12:Nat):
  W.callM Tryz.prog 73 [.agg s.enc] [(b12,⟨4,[[.nils,.ZO 0,.nils,.nils]]⟩),(b7,⟨4,[s.enc]⟩)] (ai (GF w s t k o wake) (.ZO k) (.ZO o) (.ZO wake) (.ptr b7 0 0) (.pptr [[.ZO t]] 0 0) (.ptr b12 0 0) (.pptr [w.enc] 0 0)):=by
 have hen':=hen;unfold bn at hen';simp only[Yl]at hen';obtain⟨⟨⟨hfi,hth⟩,hal⟩,hkd⟩:=hen';have hf:=A9.1 hfi;have ht:inB t s.threads.length=true:=by rw[hf.threads];exact hth
 obtain⟨t0,t1⟩:=ax.1 ht;have hne:s.threads≠[]:=λe=>by rw[e]at t1;simp at t1;omega
 have plain:(∀bl bt od,(od=none→s.done=[])→(fq s b7 b12 bl bt (ae od 1 (s.done.map bj))).names.Nodup→ai (GF w s t k o wake) (.ZO k) (.ZO o) (.ZO wake) (.ptr b7 0 0) (.pptr [[.ZO t]] 0 0) (.ptr b12 0 0) (.pptr [w.enc] 0 0) (.agg [.sl bl 0 s.locks.length,.ZO s.tx,aS od s.done.length,.sl bt 0 s.threads.length]) (fq s b7 b12 bl bt (ae od 1 (s.done.map bj))))→
   W.callM Tryz.prog 73 [.agg s.enc] [(b12,⟨4,[[.nils,.ZO 0,.nils,.nils]]⟩),(b7,⟨4,[s.enc]⟩)] (ai (GF w s t k o wake) (.ZO k) (.ZO o) (.ZO wake) (.ptr b7 0 0) (.pptr [[.ZO t]] 0 0) (.ptr b12 0 0) (.pptr [w.enc] 0 0)):=λh=>by
  refine MV (Kb s hs.locks hs.done hs.threads hs.rd hne) ?_;rintro v K ⟨bl,bt,od,rfl,rfl,hod⟩;exact⟨fq s b7 b12 bl bt (ae od 1 (s.done.map bj)),PS _ _ _ _ _,h bl bt od hod⟩
 have readers:inB o s.locks.length=true→(∀bl bt ro od,(od=none→s.done=[])→(ro=none→(aP s o).readers=[])→(PQ s o b7 b12 bl bt ro (ae od 1 (s.done.map bj))).names.Nodup→ai (GF w s t k o wake) (.ZO k) (.ZO o) (.ZO wake) (.ptr b7 0 0) (.pptr [[.ZO t]] 0 0) (.ptr b12 0 0) (.pptr [w.enc] 0 0) (.agg [.sl bl 0 s.locks.length,.ZO s.tx,aS od s.done.length,.sl bt 0 s.threads.length]) (PQ s o b7 b12 bl bt ro (ae od 1 (s.done.map bj))))→
   W.callM Tryz.prog 73 [.agg s.enc] [(b12,⟨4,[[.nils,.ZO 0,.nils,.nils]]⟩),(b7,⟨4,[s.enc]⟩)] (ai (GF w s t k o wake) (.ZO k) (.ZO o) (.ZO wake) (.ptr b7 0 0) (.pptr [[.ZO t]] 0 0) (.ptr b12 0 0) (.pptr [w.enc] 0 0)):=λhl h=>by
  refine MV (PR s hs.locks hs.done hs.threads hs.rd hne o hl) ?_;rintro v K ⟨bl,bt,ro,od,rfl,rfl,hod,hro⟩;exact⟨PQ s o b7 b12 bl bt ro (ae od 1 (s.done.map bj)),Uv _ _ _ _ _ _,h bl bt ro od hod hro⟩
 have e1:=λbl bt od hod=>WA w s t k o wake hen bl bt od hod
 have hrl:∀o,inB o s.locks.length=true→(aP s o).readers.length<2^40:=λo h=>by
  obtain⟨o0,o1⟩:=ax.1 h;have hlt:o.toNat<s.locks.length:=by omega
  unfold aP;rw[show s.locks.getD o.toNat default=s.locks[o.toNat] by simp[hlt]];exact hs.rd _ (Yr hlt)
 rcases kinds k with hk|rfl|rfl|rfl|rfl|rfl|rfl|rfl|rfl|rfl|rfl|rfl|rfl|rfl|rfl|rfl|rfl|rfl|rfl|rfl|rfl|rfl|rfl|rfl
 ·simp only[allowedS]at hal
  repeat (rw[if_neg ZJ]at hal)
  cases hal
 ·exact plain λbl bt od hod hnd=>Wr w s t o wake b7 b12 bl bt _ _ (bO _ _) _ hf ht hnd hal (e1 bl bt od hod)
 ·exact plain λbl bt od hod hnd=>Ws w s t o wake b7 b12 bl bt _ _ (bO _ _) _ hf ht hnd hal (e1 bl bt od hod)
 ·exact plain λbl bt od hod hnd=>Wt w s t o wake b7 b12 bl bt _ _ (bO _ _) _ hf ht hnd hal (e1 bl bt od hod)
 ·exact plain λbl bt od hod hnd=>Wu w s t o wake b7 b12 bl bt _ _ (bO _ _) _ hf ht hnd hal (e1 bl bt od hod)
 ·exact plain λbl bt od hod hnd=>Wv w s t o wake b7 b12 bl bt _ _ (bO _ _) _ hf ht hnd hal (e1 bl bt od hod)
 ·exact plain λbl bt od hod hnd=>Ww w s t o wake b7 b12 bl bt _ _ (bO _ _) _ hf ht hnd hal (e1 bl bt od hod)
 ·exact plain λbl bt od hod hnd=>Wx w s t o wake b7 b12 bl bt _ _ (bO _ _) _ hf ht hnd hal (e1 bl bt od hod)
 ·have hl:inB o s.locks.length=true:=by rw[hf.locks];simp[allowedS]at hal;exact hal.1
  exact readers hl λbl bt ro od hod hro hnd=>Wz w s t o wake b7 b12 bl bt _ _ (bO _ _) _ hl (hrl o hl) ro hro hnd (e1 bl bt od hod)
 ·have hl:inB o s.locks.length=true:=by rw[hf.locks];simp[allowedS]at hal;exact hal.1
  refine readers hl λbl bt ro od hod hro hnd=>?_
  cases ro with
  |none=>
   have hc:(aP s o).readers.contains t=true:=by have:=hkd;simp[cL]at this;simpa using this.2
   rw[hro rfl]at hc;cases hc
  |some br=>exact Wy w s t o wake b7 b12 bl bt _ _ (bO _ _) _ hl (hrl o hl) br hnd (e1 bl bt od hod)
 ·exact plain λbl bt od hod hnd=>Ug w s t o wake b7 b12 bl bt _ _ (bO _ _) _ hf ht hnd hal (e1 bl bt od hod)
 ·exact plain λbl bt od hod hnd=>Uh w s t o wake b7 b12 bl bt _ _ (bO _ _) _ hf ht hnd hal (e1 bl bt od hod)
 ·exact plain λbl bt od hod hnd=>Ui w s t o wake b7 b12 bl bt _ _ (bO _ _) _ hf ht hnd hal (e1 bl bt od hod)
 ·exact plain λbl bt od hod hnd=>Uj w s t o wake b7 b12 bl bt _ _ (bO _ _) _ hf ht hnd hal (e1 bl bt od hod)
 ·exact plain λbl bt od hod hnd=>Uk w s t o wake b7 b12 bl bt _ _ (bO _ _) _ hf ht hnd hal (e1 bl bt od hod)
 ·exact plain λbl bt od hod hnd=>Ul w s t o wake b7 b12 bl bt _ _ (bO _ _) _ hf ht hnd hal (e1 bl bt od hod)
 ·exact plain λbl bt od hod hnd=>Um w s t o wake b7 b12 bl bt _ _ (bO _ _) _ hf ht hnd hal (e1 bl bt od hod)
 ·exact plain λbl bt od hod hnd=>Un w s t o wake b7 b12 bl bt _ _ (bO _ _) _ hf ht hnd hal (e1 bl bt od hod)
 ·exact plain λbl bt od hod hnd=>Ur w s t o wake b7 b12 bl bt _ _ (bO _ _) _ hf ht hnd hs.threads (e1 bl bt od hod)
 ·exact plain λbl bt od hod hnd=>Us w s t o wake b7 b12 bl bt _ _ (bO _ _) _ hf ht hnd hs.threads (e1 bl bt od hod)
 ·exact plain λbl bt od hod hnd=>Uo w s t o wake b7 b12 bl bt _ _ (bO _ _) _ hf ht hnd hal (e1 bl bt od hod)
 ·exact plain λbl bt od hod hnd=>Up w s t o wake b7 b12 bl bt _ _ (bO _ _) _ hf ht hnd hal (e1 bl bt od hod)
 ·refine plain λbl bt od hod hnd=>?_
  cases od with
  |none=>
   have hl:inB o s.done.length=true:=by rw[hf.done];simpa[allowedS]using hal
   obtain⟨o0,o1⟩:=ax.1 hl;rw[hod rfl]at o1;simp at o1;omega
  |some bd=>exact Ut w s t o wake b7 b12 bl bt _ hf ht bd hnd hal (WB w s t o wake hen bl bt bd)
 ·exact plain λbl bt od hod hnd=>Uq w s t o wake b7 b12 bl bt _ _ (bO _ _) _ hf ht hnd hal (e1 bl bt od hod)
theorem PV(hs:PT w s):az Tryz.prog 50 [.agg w.enc,.agg s.enc,.ZO t,.ZO k,.ZO o,.ZO wake] (Uu (fI w s t k o wake)):=by
 refine af.fz (CU _ _ _ _ _ _ _ _ ?_);show jB _ _ _ _ _ _ _ (GF w s t k o wake);unfold jB;have hcn:w.conds.length<2^62:=by have:=hs.conds;omega
 have he:=LJ w s t k o hcn hs.rd;have hc8:=PU w s t k o wake hs;have fin:bn w s t k o=false→∀L,GF w s t k o wake (.tup [.agg [.nils,.ZO 0,.nils,.nils],.ZO 0,.bool false]) L:=λhn L=>by refine⟨_,[],aG.all (Fz.tups (.cons (Fz.aggs (.cons .nils (.cons (.refl _) (.cons .nils (.cons .nils .nil))))) (.cons (.refl _) (.cons (.refl _) .nil)))),?_,rfl⟩;unfold fI;rw[hn];rfl
 generalize GF w s t k o wake=Q at *;cases hen:bn w s t k o with
 |false=>
  rw[hen]at he;have nh:(!false)=true:=rfl;have fin:=fin hen;clear hc8
  repeat' (first|refine st ?_|(refine pf 24 ?_;refine pm (he) ?_)|refine sb λnb_ hnb_=>?_|refine s2 (λh=>?_) λh=>?_|fail)
  exact fin _
 |true=>
  rw[hen]at he;have hc8:=hc8 hen;clear fin
  repeat' (first|exact hc8 _ _|refine st ?_|(refine pf 24 ?_;refine pm (he) ?_)|refine sb λnb_ hnb_=>?_|refine s2 (λh=>?_) λh=>?_|fail)
end
end
theorem iL(d:Array Int)(hs:∀i j,i<j→j<d.size→d[i]!≤d[j]!):∀m,m≤d.size→
  (Lib.compactUpTo d m).Pairwise (·<·)∧(∀x∈Lib.compactUpTo d m,∃j,j<m∧x=d[j]!)∧(∀j,j<m→d[j]!∈Lib.compactUpTo d m)
 |0,_=>⟨by simp[Lib.compactUpTo],by simp[Lib.compactUpTo],by intro j hj;omega⟩
 | m+1,hm=>by
  obtain⟨h1,h2,h3⟩:=iL d hs m ZJ;rw[Lib.compactUpTo_succ];by_cases hk:Lib.keeps d m=true
  ·rw[if_pos hk];refine⟨?_,?_,?_⟩
   ·rw[List.pairwise_append];refine⟨h1,ZM,?_⟩;intro x hx y hy;obtain⟨j,hj,rfl⟩:=h2 x hx;simp at hy;subst hy;have hle:=hs j m hj ZJ;have hne:d[j]!≠d[m]! :=by
     intro he;have hm0:0<m:=by omega
     have h4:d[m]!≠d[m-1]! :=by intro h5;rw[Lib.keeps_neg hm0 h5]at hk;cases hk
     have h5:d[j]!≤d[m-1]! :=by
      rcases X9 j (m-1)with h|h
      ·exact hs j (m-1) h ZJ
      ·rw[show j=m-1 from by omega];exact Int.le_refl _
     have h6:d[m-1]!≤d[m]! :=hs (m-1) m ZJ ZJ;exact h4 ZJ
    omega
   ·intro x hx;rw[Yg]at hx;rcases hx with hx|hx
    ·obtain⟨j,hj,e⟩:=h2 x hx;exact⟨j,ZJ,e⟩
    ·simp at hx;exact⟨m,ZJ,hx⟩
   ·intro j hj;rw[Yg];rcases X9 j m with h|h
    ·exact .inl (h3 j h)
    ·rw[show j=m from by omega];exact .inr ZM
  ·rw[if_neg hk,YM];have hm0:0<m:=by
    rcases Y0 m with h|h
    ·subst h;exact absurd (Lib.keeps_lt_one d 0 ZJ) hk
    ·exact h
   have he:d[m]! =d[m-1]! :=by apply Classical.byContradiction;intro h;exact hk (Lib.keeps_pos h)
   refine⟨h1,λx hx=>?_,λj hj=>?_⟩
   ·obtain⟨j,hj,e⟩:=h2 x hx;exact⟨j,ZJ,e⟩
   ·rcases X9 j m with h|h
    ·exact h3 j h
    ·rw[show j=m from by omega,he];exact h3 (m-1) ZJ
theorem R8(l:List Int)(j:Nat)(hj:j<l.length):l.toArray[j]! =l[j]:=by rw[getElem!_pos _ _ (by simpa using hj)];simp
theorem EL(l:List Int):∀i j,i<j→j<(AT l).toArray.size→(AT l).toArray[i]!≤(AT l).toArray[j]! :=by
 intro i j hij hj;have hj':j<(AT l).length:=by simpa using hj
 rw[R8 _ i ZJ,R8 _ j hj'];have hp:(AT l).Pairwise (λx y=>(decide (x≤y))=true):=List.pairwise_mergeSort (λa b c=>by simp;omega) (λa b=>by simp;omega) l;have:=(List.pairwise_iff_getElem.1 hp) i j ZJ hj' hij;simpa using this
def EM(l:List Int):List Int:=Lib.compact (AT l)
theorem rv(l:List Int)(x:Int):x∈EM l↔x∈l:=by
 obtain⟨h1,h2,h3⟩:=iL (AT l).toArray (EL _) (AT l).length ZM;have hm:∀y,y∈AT l↔y∈l:=λy=>by simp[AT,List.mem_mergeSort]
 unfold EM Lib.compact;constructor
 ·intro hx;obtain⟨j,hj,rfl⟩:=h2 x hx;rw[R8 _ j hj];exact(hm _).1 (Yr _)
 ·intro hx;obtain⟨j,hj,rfl⟩:=Zc ((hm x).2 hx);rw[←R8 _ j hj];exact h3 j hj
theorem DT(l:List Int):(EM l).Pairwise (·<·):=
 (iL (AT l).toArray (EL _) (AT l).length ZM).1
theorem M6{a b:List Int}(ha:a.Pairwise (·<·))(hb:b.Pairwise (·<·))(h:∀x,x∈a↔x∈b):a=b:=by
 have na:a.Nodup:=ha.imp λhlt=>by omega
 have nb:b.Nodup:=hb.imp λhlt=>by omega
 exact List.Perm.eq_of_pairwise (le:=λx y:Int=>x<y) (λx y _ _ h1 h2=>by omega) ha hb ((List.perm_ext_iff_of_nodup na nb).2 h)
structure aH where
 pc:Int
 regs:List Int
 taint:List (List Int)
 ev:Int
def cz(l:List Int):List AV:=[.lst (l.map aj)]
def aH.enc(s:aH):List AV:=[.ZO s.pc,.lst (s.regs.map aj),.lst (s.taint.map cz),.ZO s.ev]
def aH.zero:aH:=⟨0,[],[],0⟩
def aH.has(s:aH)(r:Int):Bool:=inB r s.regs.length
def aH.reg(s:aH)(r:Int):Int:=s.regs.getD r.toNat 0
def aH.tnt(s:aH)(r:Int):List Int:=s.taint.getD r.toNat []
def aH.put(s:aH)(a v:Int)(t:List Int):aH:=⟨IntKind.i64.wrap (s.pc+1),s.regs.set a.toNat v,s.taint.set a.toNat t,s.ev⟩
def bQ(i:bq)(s:aH):Option aH:=
 if i.op=1 then(if s.has i.a then some (s.put i.a i.n [])else none)else
 if i.op=2 then(if s.has i.a&&s.has i.b then some (s.put i.a (s.reg i.b) (s.tnt i.b))else none)else
 if i.op=3 then(if s.has i.a&&s.has i.b&&(NP i.n (s.reg i.b)).2 then some (s.put i.a (NP i.n (s.reg i.b)).1 (s.tnt i.b))else none)else
 if i.op=4 then(if s.has i.a&&s.has i.b&&s.has i.c&&(yr i.n (s.reg i.b) (s.reg i.c)).2 then some (s.put i.a (yr i.n (s.reg i.b) (s.reg i.c)).1 (EM (s.tnt i.b++s.tnt i.c)))else none)else
 some {s with pc:=i.a}
def ef(ins:List bq):Nat→aH→aH×Bool
 |0,s=>if inB s.pc ins.length then(if(ins.getD s.pc.toNat default).op<1∨5<(ins.getD s.pc.toNat default).op then(s,true)else(aH.zero,false))else(aH.zero,false)
 | k+1,s=>if inB s.pc ins.length then(if(ins.getD s.pc.toNat default).op<1∨5<(ins.getD s.pc.toNat default).op then(s,true)else
   match bQ (ins.getD s.pc.toNat default) s with
   |none=>(aH.zero,false)
   |some s2=>ef ins k s2)else(aH.zero,false)
def aQ(c:hY)(s:aH):aH×Bool:=
 if(s.regs.length:Int)=c.regs∧(s.taint.length:Int)=c.regs then ef c.ins c.ins.length s else(aH.zero,false)
def EN(p:aH×Bool):AV:=.tup [.agg p.1.enc,.bool p.2]
structure jF(U:List Int)(s:aH):Prop where
 len:s.taint.length=s.regs.length
 small:s.regs.length<2^40
 short:∀l∈s.taint,l.length≤2^30
 sub:∀l∈s.taint,∀x∈l,x∈U
theorem Bc:∀{l U:List Int},l.Nodup→(∀x∈l,x∈U)→l.length≤U.length
 |[],U,_,_=>by simp
 | x::l,U,hn,hs=>by
  have hx:x∈U:=hs x ZM;have h1:=Yj.1 hn;have:=Bc (l:=l) (U:=U.erase x) h1.2 λy hy=>(List.mem_erase_of_ne (by rintro rfl;exact h1.1 hy)).2 (hs y (by simp[hy]))
  rw[List.length_erase_of_mem hx]at this;have:=List.length_pos_of_mem hx;simp only[Ys];omega
theorem NV{U l:List Int}(h:∀x∈l,x∈U):(EM l).length≤U.length:=by have hnd:(EM l).Nodup:=(DT l).imp (λ{a b} (h:a<b)=>by omega);exact Bc hnd λx hx=>h x ((rv l x).1 hx)
theorem jF.tnt{U:List Int}{s:aH}(h:jF U s)(r:Int):(s.tnt r).length≤2^30∧∀x∈s.tnt r,x∈U:=by
 unfold aH.tnt;rw[Ze];cases he:s.taint[r.toNat]? with
 |none=>simp
 |some l=>exact⟨h.short l (YN he),h.sub l (YN he)⟩
theorem jF.put{U:List Int}{s:aH}(h:jF U s)(a v:Int){t:List Int}(h1:t.length≤2^30)(h2:∀x∈t,x∈U):jF U (s.put a v t):=by
 refine⟨by simp[aH.put,h.len],by simpa[aH.put]using h.small,λl hl=>?_,λl hl=>?_⟩
 ·rcases Zf hl with g|g
  ·exact h.short l g
  ·rw[g];exact h1
 ·rcases Zf hl with g|g
  ·exact h.sub l g
  ·rw[g];exact h2
theorem jF.step{U:List Int}(hU:U.length≤2^30){s s2:aH}{i:bq}(h:jF U s)(he:bQ i s=some s2):jF U s2:=by
 unfold bQ at he;split at he
 ·split at he
  ·cases he;exact h.put _ _ ZM ZM
  ·cases he
 ·split at he
  ·split at he
   ·cases he;exact h.put _ _ (h.tnt _).1 (h.tnt _).2
   ·cases he
  ·split at he
   ·split at he
    ·cases he;exact h.put _ _ (h.tnt _).1 (h.tnt _).2
    ·cases he
   ·split at he
    ·split at he
     ·cases he;have hs:∀x∈s.tnt i.b++s.tnt i.c,x∈U:=λx hx=>by
       rcases Yg.1 hx with g|g
       ·exact(h.tnt _).2 x g
       ·exact(h.tnt _).2 x g
      exact h.put _ _ (Yn (NV hs) hU) λx hx=>hs x ((rv _ _).1 hx)
     ·cases he
    ·cases he;exact⟨h.len,h.small,h.short,h.sub⟩
section
set_option maxRecDepth 100000
def yx(a:AV)(L:SH)(Q:R):Prop:=wk a (Q (.ZO 1) L) (Q (.ZO 0) L)
theorem GG(t0:AV)(L:SH)(Q:R)(h:yx t0 L Q):af Tryz.prog 129 [t0] L Q:=
 fs [] [] [] [] Tryz.func129 h
def GH(Q:R)(L:SH)(a b:AV):Prop:=wb .eql 3 a (.ZO 5) λc=>wk c (wb .eql 2 b (.ZO 0) λd=>wc (.fn 129 []) [d] L λe f=>Q (.tup [e,(.bool true)]) f) (Q (.tup [(.ZO 0),(.bool false)]) L)
def yy(a b:AV)(L:SH)(Q:R):Prop:=wb .eql 3 a (.ZO 4) λc=>wk c (W.un .neg b λd=>Q (.tup [d,(.bool true)]) L) ((GH Q L a b))
theorem GI(t0 t1:AV)(L:SH)(Q:R)(h:yy t0 t1 L Q):af Tryz.prog 103 [t0,t1] L Q:=
 fs [] [] [] [] Tryz.func103 h
def EO(Q:R)(L:SH)(b c:AV):Prop:=wb .neq 2 b (.ZO 0) λa=>bJ a true c L λd e=>wg a true (wb .neq 2 d (.ZO 0)) e λf g=>W.pick a f (.bool false) λh=>wc (.fn 129 []) [h] g λi j=>Q (.tup [i,(.bool true)]) j
def EP(Q:R)(L:SH)(b c:AV):Prop:=wb .neq 2 b (.ZO 0) λa=>bJ a false c L λd e=>wg a false (wb .neq 2 d (.ZO 0)) e λf g=>W.pick a (.bool true) f λh=>wc (.fn 129 []) [h] g λi j=>Q (.tup [i,(.bool true)]) j
def EQ(Q:R)(L:SH)(a b c:AV):Prop:=wb .eql 3 a (.ZO 17) λd=>wk d ((EO Q L b c)) (wb .eql 3 a (.ZO 18) λe=>wk e ((EP Q L b c)) (Q (.tup [(.ZO 0),(.bool false)]) L))
def ER(Q:R)(L:SH)(a b c:AV):Prop:=wb .eql 3 a (.ZO 16) λd=>wk d (wb .geq 2 b c λe=>wc (.fn 129 []) [e] L λf g=>Q (.tup [f,(.bool true)]) g) ((EQ Q L a b c))
def ES(Q:R)(L:SH)(a b c:AV):Prop:=wb .eql 3 a (.ZO 15) λd=>wk d (wb .gtr 2 b c λe=>wc (.fn 129 []) [e] L λf g=>Q (.tup [f,(.bool true)]) g) ((ER Q L a b c))
def ET(Q:R)(L:SH)(a b c:AV):Prop:=wb .eql 3 a (.ZO 14) λd=>wk d (wb .leq 2 b c λe=>wc (.fn 129 []) [e] L λf g=>Q (.tup [f,(.bool true)]) g) ((ES Q L a b c))
def EU(Q:R)(L:SH)(a b c:AV):Prop:=wb .eql 3 a (.ZO 13) λd=>wk d (wb .lss 2 b c λe=>wc (.fn 129 []) [e] L λf g=>Q (.tup [f,(.bool true)]) g) ((ET Q L a b c))
def EV(Q:R)(L:SH)(a b c:AV):Prop:=wb .eql 3 a (.ZO 12) λd=>wk d (wb .neq 2 b c λe=>wc (.fn 129 []) [e] L λf g=>Q (.tup [f,(.bool true)]) g) ((EU Q L a b c))
def EW(Q:R)(L:SH)(a b c:AV):Prop:=wb .eql 3 a (.ZO 11) λd=>wk d (wb .eql 2 b c λe=>wc (.fn 129 []) [e] L λf g=>Q (.tup [f,(.bool true)]) g) ((EV Q L a b c))
def EX(Q:R)(L:SH)(b a c:AV):Prop:=wb .eql 3 b (.ZO 10) λd=>wk d (wb .eql 2 a (.ZO 0) λe=>wk e (Q (.tup [(.ZO 0),(.bool true)]) L) (wb .rem 2 c a λf=>Q (.tup [f,(.bool true)]) L)) ((EW Q L b c a))
def Df(Q:R)(L:SH)(b a c:AV):Prop:=wb .eql 3 b (.ZO 9) λd=>wk d (wb .eql 2 a (.ZO 0) λe=>wk e (Q (.tup [(.ZO 0),(.bool true)]) L) (wb .quo 2 c a λf=>Q (.tup [f,(.bool true)]) L)) ((EX Q L b a c))
def Dg(Q:R)(L:SH)(a b c:AV):Prop:=wb .eql 3 a (.ZO 7) λd=>wk d (wb .sub 2 b c λe=>Q (.tup [e,(.bool true)]) L) (wb .eql 3 a (.ZO 8) λf=>wk f (wb .mul 2 b c λg=>Q (.tup [g,(.bool true)]) L) ((Df Q L a c b)))
def tK(a b c:AV)(L:SH)(Q:R):Prop:=wb .eql 3 a (.ZO 6) λd=>wk d (wb .add 2 b c λe=>Q (.tup [e,(.bool true)]) L) ((Dg Q L a b c))
theorem EY(t0 t1 t2:AV)(L:SH)(Q:R)(h:tK t0 t1 t2 L Q):af Tryz.prog 104 [t0,t1,t2] L Q:=
 fs [] [] [] [] Tryz.func104 h
def qr(a b:AV)(L:SH)(Q:R):Prop:=W.len a λd=>W.len b λe=>wb .add 3 d e λf=>W.mslice 1 8 [(.ZO 0)] (.ZO 0) f L λg h=>W.append 1 8 g a h λi j=>W.append 1 8 i b j λc k=>wc (.fn 74 []) [c] k λo l=>wc (.fn 75 []) [c] l λm n=>Q m n
theorem Dh(t0 t1:AV)(L:SH)(Q:R)(h:qr t0 t1 L Q):af Tryz.prog 117 [t0,t1] L Q:=
 fs [] [] [] [] Tryz.func117 h
def iM(d:Kn)(a b e f g h i:AV)(c:SH):Prop:=W.idx 1 a b c λj=>W.store 1 j i c λk=>wb .add 3 b (.ZO 1) λl=>d [e,f,a,g,h,l] k
def iN(Q:R)(j:Vs)(a:SH)(k:Kn):Prop:=J1 1 2 3 15 16 17 j λb c e f g d=>wb .lss 3 d g λl=>wk l (tH 1 f d a λm=>wc (.fn 81 []) [m] a (iM k e d b c f g)) (W.faddr 2 b λn=>W.store 1 n e a λh=>cp 4 b h λo=>W.store 4 c o h λi=>W.load true 4 c i λp=>Q p i)
def oI(Q:R)(a f g:AV)(h:SH):Prop:=W.faddr 1 a λi=>W.store 1 i g h λb=>aC 2 a b λj=>W.len j λc=>W.mslice 1 24 [.nils] c c b λk d=>aC 2 a d λe=>W.len e λl=>W.loop (iN Q) [a,f,k,e,l,(.ZO 0)] d
def qt(c:AV)(L:SH)(Q:R):Prop:=W.box c L λa d=>W.alloc [(.ZO 0),.nils,.nils,(.ZO 0)] d λe b=>aC 1 a b λf=>wc (.fn 80 []) [f] b (oI Q a e)
theorem Di(t0:AV)(L:SH)(Q:R)(h:qt t0 L Q):af Tryz.prog 82 [t0] L Q:=
 fs [] [(4,[1,2,3,15,16,17])] [] [] Tryz.func82 h
def jG(b e:AV)(L:SH)(Q:R):Prop:=wb .geq 3 b (.ZO 0) λa=>bJ a true b L λf c=>wg a true (wl e c) c λg h=>wg a true (W.nilchk g) h λi j=>wg a true (W.faddr 1 i) j λk d=>wg a true (wl k d) d λl m=>wg a true (W.len l) m λn o=>wg a true (wb .lss 3 f n) o λp q=>W.pick a p (.bool false) λr=>Q r q
theorem rK(t0 t1:AV)(L:SH)(Q:R)(h:jG t0 t1 L Q):af Tryz.prog 116 [t0,t1] L Q:=
 fs [] [] [] [] Tryz.func116 h
def yz(Q:R)(c:Vs)(a:SH):Prop:=tI 2 4 6 c λd k e=>wl d a λb=>dV 0 b a λf=>wb .add 3 f (.ZO 1) λg=>W.nilchk b λh=>W.faddr 0 h λi=>W.store 1 i g a λj=>Q e j
def yA(k:Kn)(a:SH)(e f:AV):Prop:=(true=true)∧(dl [] 0 e a λl b=>W.nilchk l λm=>aN 1 m [] 3 a λn c=>aN 1 f [rm 3 c,rm 0 b] 5 a λo d=>dl [rm 5 d,rm 3 c,rm 0 b] 6 e a λp h=>W.nilchk p λq=>aN 2 q [rm 5 d,rm 3 c,rm 0 b] 9 a λr i=>aN 1 f [rm 9 i,rm 6 h,rm 5 d,rm 3 c,rm 0 b] 11 a λs g=>aN 4 f [rm 11 g,rm 9 i,rm 6 h,rm 5 d,rm 3 c,rm 0 b] 13 a λt x=>di [rm 11 g] 14 1 n o a λu y=>ds [rm 11 g] 15 1 u t a λj z=>di [] 16 1 r s j λv A=>ds [] 17 1 v .nils j λw B=>k [e,(.bool false),(.bool true)] w)
def yB(Q:R)(b:Kn)(c d e:AV)(a:SH):Prop:=W.un .not e λf=>wk f (Q (.bool false) a) ((yA b a c d))
def yC(d:Kn)(e:SH)(f g h i j k:AV)(a:Fp)(l:AV)(b:SH)(m:Ns):Prop:=wn [] m [] e.names λq=>di [rm 11 a] 29 1 f g b λn r=>ds [rm 11 a] 30 1 n h b λc s=>di [] 31 1 i j c λo t=>ds [] 32 1 o l c λp u=>d [k,(.bool false),(.bool true)] p
def yD(o:Kn)(a:SH)(m n:AV):Prop:=(true=true)∧(dl [] 0 m a λp b=>W.nilchk p λq=>aN 1 q [] 3 a λr c=>aN 1 n [rm 3 c,rm 0 b] 5 a λs d=>dl [rm 5 d,rm 3 c,rm 0 b] 6 m a λt e=>W.nilchk t λu=>aN 2 u [rm 5 d,rm 3 c,rm 0 b] 9 a λv f=>aN 1 n [rm 9 f,rm 6 e,rm 5 d,rm 3 c,rm 0 b] 11 a λw g=>dl [rm 11 g,rm 9 f,rm 6 e,rm 5 d,rm 3 c,rm 0 b] 12 m a λx h=>W.nilchk x λy=>aN 1 y [rm 11 g,rm 9 f,rm 6 e,rm 5 d,rm 3 c,rm 0 b] 15 a λz i=>aN 2 n [rm 15 i,rm 12 h,rm 11 g,rm 9 f,rm 6 e,rm 5 d,rm 3 c,rm 0 b] 17 a λA j=>di [rm 11 g,rm 9 f,rm 6 e,rm 5 d,rm 3 c,rm 0 b] 18 1 z A a λB k=>dl [rm 11 g,rm 9 f,rm 6 e,rm 5 d,rm 3 c,rm 0 b] 19 B a λC l=>dl [rm 19 l,rm 18 k,rm 17 j,rm 15 i,rm 12 h,rm 11 g,rm 9 f,rm 6 e,rm 5 d,rm 3 c,rm 0 b] 20 m a λD E=>W.nilchk D λF=>aN 2 F [rm 19 l,rm 18 k,rm 17 j,rm 15 i,rm 12 h,rm 11 g,rm 9 f,rm 6 e,rm 5 d,rm 3 c,rm 0 b] 23 a λG H=>aN 2 n [rm 23 H,rm 20 E,rm 19 l,rm 18 k,rm 17 j,rm 15 i,rm 12 h,rm 11 g,rm 9 f,rm 6 e,rm 5 d,rm 3 c,rm 0 b] 25 a λI N=>di [rm 19 l,rm 18 k,rm 17 j,rm 15 i,rm 12 h,rm 11 g,rm 9 f,rm 6 e,rm 5 d,rm 3 c,rm 0 b] 26 1 G I a λJ O=>dl [rm 19 l,rm 18 k,rm 17 j,rm 15 i,rm 12 h,rm 11 g,rm 9 f,rm 6 e,rm 5 d,rm 3 c,rm 0 b] 27 J a λM P=>wd [rm 19 l,rm 18 k,rm 17 j,rm 15 i,rm 12 h,rm 11 g,rm 9 f,rm 6 e,rm 5 d,rm 3 c,rm 0 b] 28 (.fn 81 []) [M] a (yC o a r s C v w m g))
def yE(Q:R)(g:Kn)(b c h:AV)(i:SH):Prop:=W.un .not h λa=>bJ a false (.fn 116 [b]) i λj k=>wg a false (W.faddr 2 c) k λl d=>wg a false (wl l d) d λm e=>W.grd a false (λn=>wc j [m] e λo p=>n o p) e λq r=>wg a false (W.un .not q) r λs f=>W.pick a (.bool true) s λt=>wk t (Q (.bool false) f) ((yD g f b c))
def yF(b:Kn)(c:SH)(d e f g h:AV)(a:SH)(i:Ns):Prop:=wn [] i [] c.names λl=>di [] 15 1 d e a λj m=>ds [] 16 1 j h a λk n=>b [f,(.bool false),g] k
def yG(i:Kn)(j:SH)(k l e f g:AV)(h:SH)(m:Ns):Prop:=wn [] m [] j.names λC=>W.ext 0 g λn=>W.ext 1 g λo=>di [] 20 1 k l h λp D=>ds [] 21 1 p n h λa E=>(true=true)∧(dl [] 0 e a λq b=>W.nilchk q λr=>aN 2 r [] 3 a λs c=>aN 1 f [rm 3 c,rm 0 b] 5 a λt d=>dl [rm 5 d,rm 3 c,rm 0 b] 6 e a λu v=>W.nilchk u λw=>aN 2 w [rm 5 d,rm 3 c,rm 0 b] 9 a λx y=>aN 2 f [rm 9 y,rm 6 v,rm 5 d,rm 3 c,rm 0 b] 11 a λz F=>di [rm 5 d,rm 3 c,rm 0 b] 12 1 x z a λA G=>dl [rm 5 d,rm 3 c,rm 0 b] 13 A a λB H=>wd [rm 5 d,rm 3 c,rm 0 b] 14 (.fn 81 []) [B] a (yF i a s t e o))
def yH(h:Kn)(a:SH)(g f:AV):Prop:=(true=true)∧(dl [] 0 g a λi b=>W.nilchk i λj=>aN 1 j [] 3 a λk c=>aN 1 f [rm 3 c,rm 0 b] 5 a λl d=>aN 4 f [rm 5 d,rm 3 c,rm 0 b] 7 a λm e=>dl [rm 7 e,rm 5 d,rm 3 c,rm 0 b] 8 g a λn o=>W.nilchk n λp=>aN 1 p [rm 7 e,rm 5 d,rm 3 c,rm 0 b] 11 a λq r=>aN 2 f [rm 11 r,rm 8 o,rm 7 e,rm 5 d,rm 3 c,rm 0 b] 13 a λs v=>di [rm 7 e,rm 5 d,rm 3 c,rm 0 b] 14 1 q s a λt w=>dl [rm 7 e,rm 5 d,rm 3 c,rm 0 b] 15 t a λu x=>wd [rm 5 d,rm 3 c,rm 0 b] 16 (.fn 103 []) [m,u] a (yG h a k l g f))
def yI(Q:R)(g:Kn)(b c h:AV)(i:SH):Prop:=W.un .not h λa=>bJ a false (.fn 116 [b]) i λj k=>wg a false (W.faddr 2 c) k λl d=>wg a false (wl l d) d λm e=>W.grd a false (λn=>wc j [m] e λo p=>n o p) e λq r=>wg a false (W.un .not q) r λs f=>W.pick a (.bool true) s λt=>wk t (Q (.bool false) f) ((yH g f b c))
def yJ(b:Kn)(c:SH)(d e f g h:AV)(a:SH)(i:Ns):Prop:=wn [] i [] c.names λl=>di [] 23 1 d e a λj m=>ds [] 24 1 j h a λk n=>b [f,(.bool false),g] k
def yK(n:Kn)(o:SH)(p q j k l:AV)(m:SH)(r:Ns):Prop:=wn [] r [] o.names λP=>W.ext 0 l λs=>W.ext 1 l λt=>di [] 28 1 p q m λu S=>ds [] 29 1 u s m λa T=>(true=true)∧(dl [] 0 j a λv b=>W.nilchk v λw=>aN 2 w [] 3 a λx c=>aN 1 k [rm 3 c,rm 0 b] 5 a λy d=>dl [rm 5 d,rm 3 c,rm 0 b] 6 j a λz e=>W.nilchk z λA=>aN 2 A [rm 5 d,rm 3 c,rm 0 b] 9 a λB f=>aN 2 k [rm 9 f,rm 6 e,rm 5 d,rm 3 c,rm 0 b] 11 a λC g=>di [rm 5 d,rm 3 c,rm 0 b] 12 1 B C a λD h=>dl [rm 5 d,rm 3 c,rm 0 b] 13 D a λE i=>dl [rm 13 i,rm 12 h,rm 11 g,rm 9 f,rm 6 e,rm 5 d,rm 3 c,rm 0 b] 14 j a λF G=>W.nilchk F λH=>aN 2 H [rm 13 i,rm 12 h,rm 11 g,rm 9 f,rm 6 e,rm 5 d,rm 3 c,rm 0 b] 17 a λI J=>aN 3 k [rm 17 J,rm 14 G,rm 13 i,rm 12 h,rm 11 g,rm 9 f,rm 6 e,rm 5 d,rm 3 c,rm 0 b] 19 a λM U=>di [rm 13 i,rm 12 h,rm 11 g,rm 9 f,rm 6 e,rm 5 d,rm 3 c,rm 0 b] 20 1 I M a λN V=>dl [rm 13 i,rm 12 h,rm 11 g,rm 9 f,rm 6 e,rm 5 d,rm 3 c,rm 0 b] 21 N a λO X=>wd [rm 5 d,rm 3 c,rm 0 b] 22 (.fn 117 []) [E,O] a (yJ n a x y j t))
def yL(m:Kn)(a:SH)(l h:AV):Prop:=(true=true)∧(dl [] 0 l a λn b=>W.nilchk n λo=>aN 1 o [] 3 a λp c=>aN 1 h [rm 3 c,rm 0 b] 5 a λq d=>aN 4 h [rm 5 d,rm 3 c,rm 0 b] 7 a λr e=>dl [rm 7 e,rm 5 d,rm 3 c,rm 0 b] 8 l a λs f=>W.nilchk s λt=>aN 1 t [rm 7 e,rm 5 d,rm 3 c,rm 0 b] 11 a λu g=>aN 2 h [rm 11 g,rm 8 f,rm 7 e,rm 5 d,rm 3 c,rm 0 b] 13 a λv i=>di [rm 7 e,rm 5 d,rm 3 c,rm 0 b] 14 1 u v a λw j=>dl [rm 7 e,rm 5 d,rm 3 c,rm 0 b] 15 w a λx k=>dl [rm 15 k,rm 14 j,rm 13 i,rm 11 g,rm 8 f,rm 7 e,rm 5 d,rm 3 c,rm 0 b] 16 l a λy z=>W.nilchk y λA=>aN 1 A [rm 15 k,rm 14 j,rm 13 i,rm 11 g,rm 8 f,rm 7 e,rm 5 d,rm 3 c,rm 0 b] 19 a λB C=>aN 3 h [rm 19 C,rm 16 z,rm 15 k,rm 14 j,rm 13 i,rm 11 g,rm 8 f,rm 7 e,rm 5 d,rm 3 c,rm 0 b] 21 a λD G=>di [rm 15 k,rm 14 j,rm 13 i,rm 11 g,rm 8 f,rm 7 e,rm 5 d,rm 3 c,rm 0 b] 22 1 B D a λE H=>dl [rm 15 k,rm 14 j,rm 13 i,rm 11 g,rm 8 f,rm 7 e,rm 5 d,rm 3 c,rm 0 b] 23 E a λF I=>wd [rm 5 d,rm 3 c,rm 0 b] 24 (.fn 104 []) [r,x,F] a (yK m a p q l h))
def yM(Q:R)(j:Kn)(c d k:AV)(l:SH):Prop:=W.un .not k λa=>bJ a false (.fn 116 [c]) l λm n=>wg a false (W.faddr 2 d) n λo e=>wg a false (wl o e) e λp f=>W.grd a false (λq=>wc m [p] f λr s=>q r s) f λt u=>wg a false (W.un .not t) u λv w=>W.pick a (.bool true) v λb=>bJ b false (.fn 116 [c]) w λx y=>wg b false (W.faddr 3 d) y λz g=>wg b false (wl z g) g λA h=>W.grd b false (λB=>wc x [A] h λC D=>B C D) h λE F=>wg b false (W.un .not E) F λG i=>W.pick b (.bool true) G λH=>wk H (Q (.bool false) i) ((yL j i c d))
def ui(Q:R)(a:Vs)(b:SH):Prop:=tI 2 4 6 a λd c e=>Q c b
def yN(Q:R)(a:SH)(b c:AV):Prop:=wl b a λd=>aC 1 c a λe=>W.nilchk d λf=>W.faddr 0 f λg=>W.store 1 g e a λh=>W.join (ui Q) λi=>i [b,(.bool true),(.bool true)] h
def yO(Q:R)(d:Kn)(a:SH)(e c b:AV):Prop:=wb .eql 3 e (.ZO 4) λf=>wk f (aC 1 c a λg=>wc (.fn 116 [b]) [g] a (yM Q d b c)) (wb .eql 3 e (.ZO 5) λh=>wk h ((yN Q a b c)) (d [b,(.bool false),(.bool true)] a))
def yP(Q:R)(d:Kn)(a:SH)(e b c:AV):Prop:=wb .eql 3 e (.ZO 3) λf=>wk f (aC 1 b a λg=>wc (.fn 116 [c]) [g] a (yI Q d c b)) ((yO Q d a e b c))
def yQ(Q:R)(d:Kn)(a:SH)(e b c:AV):Prop:=wb .eql 3 e (.ZO 2) λf=>wk f (aC 1 b a λg=>wc (.fn 116 [c]) [g] a (yE Q d c b)) ((yP Q d a e b c))
def cY(f g:AV)(L:SH)(Q:R):Prop:=W.box f L λh i=>W.box g i λj k=>W.frz1 h k λc l=>W.frz1 j l λa b=>W.join (yz Q) λd=>aC 0 a b λe=>wb .eql 3 e (.ZO 1) λm=>wk m (aC 1 a b λn=>wc (.fn 116 [c]) [n] b (yB Q d c a)) ((yQ Q d b e a c))
theorem du(t0 t1:AV)(L:SH)(Q:R)(h:cY t0 t1 L Q):af Tryz.prog 83 [t0,t1] L Q:=
 fs [(24,[2,4,6])] [] [(0,[2,3])] [(7,[0,1,3,7,0,16,0,64,192,448,0,1024,0,4096,13311,29695,65535,131071]),(11,[0,1,3,7,0,16,0,64,192,448,0,1024,0,4096,12288,28672,0,65536,258048,520192,0,1048576,3145728,7340032,0,16777216,66060288,133169152,267386880,536867839,1073738751,2147483647,4294967295]),(15,[0,1,3,7,0,16,0,64,0,256,768,1792,0,4096,16128,32512,65472,131008,262080,262080,524287,1572863,4194303]),(16,[0,1,3,7,0,16,0,64,192,448,0,1024,4032,8128,16320,32767,65535]),(20,[0,1,3,7,0,16,0,64,0,256,768,1792,0,4096,16128,32512,0,65536,196608,458752,0,1048576,4128768,8323072,16777152,33554368,67108800,67108800,134217727,402653183,1073741823]),(21,[0,1,3,7,0,16,0,64,192,448,0,1024,4032,8128,0,16384,49152,114688,0,262144,1032192,2080768,4194240,8388607,16777215])] Tryz.func83 h
def Be(Q:R)(c:SH)(a:AV):Prop:=W.build [(.ZO 0),.nils,.nils,(.ZO 0)] [] λd=>W.store 4 a d c λb=>W.load true 4 a b λe=>Q (.tup [e,(.bool false)]) b
def Bf(Q:R)(c:SH)(a:AV):Prop:=W.build [(.ZO 0),.nils,.nils,(.ZO 0)] [] λd=>W.store 4 a d c λb=>W.load true 4 a b λe=>Q (.tup [e,(.bool false)]) b
def Bg(Q:R)(c:SH)(a:AV):Prop:=W.build [(.ZO 0),.nils,.nils,(.ZO 0)] [] λd=>W.store 4 a d c λb=>W.load true 4 a b λe=>Q (.tup [e,(.bool false)]) b
def Bh(Q:R)(i:Kn)(b:SH)(c d j e f:AV):Prop:=aC 1 c b λk=>W.len k λl=>wb .eql 3 d l λa=>wg a false (cp 6 j b) b λm g=>W.grd a false (λn=>wc (.fn 83 []) [e,m] g λo p=>n o p) g λq r=>wg a false (W.un .not q) r λs h=>W.pick a (.bool true) s λt=>wk t ((Bg Q h f)) (wb .add 3 d (.ZO 1) λu=>i [c,e,f,u] h)
def Bi(Q:R)(k:Kn)(a:SH)(g c d l:AV):Prop:=aC 1 g a λm=>aC 0 c a λn=>ma 6 m n a λo=>rE [(.ZO 0),(.ZO 0),(.ZO 0),(.ZO 0),(.ZO 0),(.ZO 0)] 6 o a λe h=>aC 0 e h λp=>wb .lss 3 p (.ZO 1) λb=>wg b false (W.faddr 0 e) h λq i=>wg b false (wl q i) i λr s=>wg b false (wb .gtr 3 r (.ZO 5)) s λt f=>W.pick b (.bool true) t λu=>wk u (cp 4 c f λv=>W.store 4 d v f λj=>W.load true 4 d j λw=>Q (.tup [w,(.bool true)]) j) ((Bh Q k f g l e c d))
def ie(Q:R)(i:Vs)(c:SH)(j:Kn):Prop:=ug 2 3 4 6 i λd b e k=>aC 0 b c λl=>wb .lss 3 l (.ZO 0) λa=>wg a false (W.faddr 0 b) c λm f=>wg a false (wl m f) f λn o=>wg a false (W.faddr 1 d) o λp g=>wg a false (wl p g) g λq r=>wg a false (W.len q) r λs t=>wg a false (wb .geq 3 n s) t λu h=>W.pick a (.bool true) u λv=>wk v ((Bf Q h e)) ((Bi Q j h d b e k))
def Bj(Q:R)(a b c d:AV)(e:SH):Prop:=W.store 4 a d e λf=>W.loop (ie Q) [b,a,c,(.ZO 0)] f
def oJ(i j:AV)(L:SH)(Q:R):Prop:=W.box i L λk l=>W.box j l λb m=>W.alloc [(.ZO 0),.nils,.nils,(.ZO 0)] m λf n=>W.frz1 k n λc d=>aC 1 b d λo=>W.len o λp=>aC 0 c d λq=>wb .neq 3 p q λa=>wg a false (W.faddr 2 b) d λr g=>wg a false (wl r g) g λs t=>wg a false (W.len s) t λu v=>wg a false (W.faddr 0 c) v λw h=>wg a false (wl w h) h λx y=>wg a false (wb .neq 3 u x) y λz e=>W.pick a (.bool true) z λA=>wk A ((Be Q e f)) (cp 4 b e λB=>wc (.fn 82 []) [B] e (Bj Q b c f))
theorem Bk(t0 t1:AV)(L:SH)(Q:R)(h:oJ t0 t1 L Q):af Tryz.prog 52 [t0,t1] L Q:=
 fs [] [(6,[2,3,4,6])] [(0,[2]),(8,[7])] [] Tryz.func52 h
end
section
set_option maxRecDepth 100000
set_option linter.unusedSimpArgs false
set_option linter.unusedSectionVars false
theorem rx(xs:List Int)(hl:xs.length*8≤140737488355328):af Tryz.prog 80 [.lst (xs.map aj)] [] λv L=>∃o,v=aS o xs.length∧L=ae o 1 (xs.map aj)∧(o=none→xs=[]):=by refine(fZ (λA n c xs w hf h1 hn hA=>cloneJ_any A n c xs w hf h1 hn hA) ⟨_,_,Tryz.func80,rfl⟩ (xs.map aj) (by simp[aj,AV.one]) (λr hr=>by obtain⟨x,_,rfl⟩:=YH.1 hr;rfl) (by simpa using hl)).mono ?_;rintro v L ⟨o,rfl,rfl,h⟩;exact⟨o,ZM,rfl,λe=>by simpa using h e⟩
theorem cW(xs:List Int)(hl:xs.length*8≤140737488355328):az Tryz.prog 81 [.lst (xs.map aj)] (.lst (xs.map aj)):=by refine af.fz ((Hl xs hl).mono ?_);rintro v L ⟨o,rfl,rfl,ho⟩;exact⟨_,[],aG.all (Fz.slot (f:=aj) rfl (λe=>by rw[ho e];rfl) ZN (λy _=>rfl) (λy _ q a a2 h1 h2=>by rw[h1]at h2;cases h2;exact .refl _)),rfl,rfl⟩
def M7(s:aH)(v:AV)(L:SH):Prop:=
 ∃(o t:Option Nat),v=.agg [.ZO s.pc,aS o s.regs.length,aS t s.taint.length,.ZO s.ev]∧L=ae o 1 (s.regs.map aj)++ae t 1 (s.taint.map cz)∧(o=none→s.regs=[])∧(t=none→s.taint=[])
def oK(t:List (List Int))(k:Nat):List (List AV):=(t.take k).map cz++List.replicate (t.length-k) [.nils]
theorem NW(t:List (List Int))(k:Nat)(hk:k≤t.length):(oK t k).length=t.length:=by simp[oK];omega
theorem PW(t:List (List Int))(k:Nat)(hk:k<t.length):(oK t k)[k]? =some [.nils]:=by
 unfold oK;have hl:((t.take k).map cz).length=k:=by simp;omega
 rw[Yh ZJ,hl,Nat.sub_self];obtain⟨m,hm⟩:∃m,t.length-k=m+1:=⟨t.length-k-1,ZJ⟩;rw[hm];rfl
theorem Hv(t:List (List Int))(k:Nat)(hk:k<t.length):(oK t k).set k (cz t[k])=oK t (k+1):=by
 unfold oK;have hl:((t.take k).map cz).length=k:=by simp;omega
 rw[List.set_append_right _ _ ZJ,hl,Nat.sub_self];obtain⟨m,hm⟩:∃m,t.length-k=m+1:=⟨t.length-k-1,ZJ⟩;rw[hm,List.replicate_succ,List.set_cons_zero,Yd hk,show t.length-(k+1)=m by omega,Yc,YP];rfl
theorem LK(s:aH)(h1:s.regs.length<2^40)(h2:s.taint.length<2^40)(h3:∀l∈s.taint,l.length≤2^30):af Tryz.prog 82 [.agg s.enc] [] (M7 s):=by
 refine af.fz (Di _ _ _ ?_);unfold qt;generalize hQ:(λ(v:AV) (L:SH)=>∃v2 L2,aG [v] L [v2] L2∧M7 s v2 L2)=Q
 repeat' (first|refine st ?_|refine sb λnb_ hnb_=>?_|refine s2 (λh=>?_) λh=>?_|fail)
 rename_i b1 _;revert nb_;intro b2 _;refine qi (rx s.regs ZJ) ?_;rintro v K ⟨o,rfl,rfl,ho⟩;unfold oI;have fin:∀(bt:Nat) (L:SH),(∃x y:Blk,L=(bt,⟨1,s.taint.map cz⟩)::(b2,x)::(b1,y)::ae o 1 (s.regs.map aj))→Q (.agg [.ZO s.pc,aS o s.regs.length,.sl bt 0 s.taint.length,.ZO s.ev]) L:=by rintro bt L ⟨x,y,rfl⟩;subst hQ;refine⟨_,_,aG.forget (K:=[(b2,x),(b1,y)]) (R:=ae o 1 (s.regs.map aj)++[(bt,⟨1,s.taint.map cz⟩)]) ?_,o,some bt,rfl,rfl,ho,nofun⟩;refine(List.Perm.trans (List.Perm.swap _ _ _) ?_);refine List.Perm.cons _ ((List.Perm.swap _ _ _).trans (List.Perm.cons _ ?_));exact(YD (l₁:=[(bt,(⟨1,s.taint.map cz⟩:Blk))]) (l₂:=ae o 1 (s.regs.map aj)))
 have loop:∀(bt:Nat) (y:Blk),y=⟨4,[[.ZO s.pc,aS o s.regs.length,.lst (s.taint.map cz),.ZO s.ev]]⟩→W.loop (iN Q) [.ptr b1 0 0,.ptr b2 0 0,.sl bt 0 s.taint.length,.lst (s.taint.map cz),.ZO s.taint.length,.ZO (0:Nat)] ((bt,⟨1,List.replicate s.taint.length [.nils]⟩)::(b2,⟨4,[[.ZO 0,.nils,.nils,.ZO 0]]⟩)::(b1,y)::ae o 1 (s.regs.map aj)):=by
  intro bt y hy;subst hy;refine bW s.taint.length (λk (_:Unit)=>([.ptr b1 0 0,.ptr b2 0 0,.sl bt 0 s.taint.length,.lst (s.taint.map cz),.ZO s.taint.length,.ZO k],(bt,⟨1,oK s.taint k⟩)::(b2,⟨4,[[.ZO 0,.nils,.nils,.ZO 0]]⟩)::(b1,⟨4,[[.ZO s.pc,aS o s.regs.length,.lst (s.taint.map cz),.ZO s.ev]]⟩)::ae o 1 (s.regs.map aj))) (λ_ _=>True) () trivial (eQ rfl (by simp[oK])) ?_;intro k _ hk _;dsimp only;unfold iN;rcases Nat.lt_or_ge k s.taint.length with g1|g1
  ·have hd:=bE g1;have hx:=ay (f:=cz) g1;have hz:=PW s.taint k g1;have hkl:k<(oK s.taint k).length:=by rw[NW _ _ hk];exact g1
   have hrk:(s.taint[k]).length*8≤140737488355328:=by have:=h3 _ (Yr g1);omega
   cases o with
   |none=>
    dsimp only[ae,aS]
    repeat' (first|refine st ?_|(refine pf 81 ?_;refine pm (cW _ hrk) ?_)|unfold iM|refine sb λnb_ hnb_=>?_|refine s2 (λh=>?_) λh=>?_|fail)
    exact⟨k+1,(),ZJ,ZJ,trivial,eQ (by rw[aA g1 ZJ]<;>rfl) (by rw[←Hv _ _ g1];rfl)⟩
   |some b'=>
    dsimp only[ae,aS]
    repeat' (first|refine st ?_|(refine pf 81 ?_;refine pm (cW _ hrk) ?_)|unfold iM|refine sb λnb_ hnb_=>?_|refine s2 (λh=>?_) λh=>?_|fail)
    exact⟨k+1,(),ZJ,ZJ,trivial,eQ (by rw[aA g1 ZJ]<;>rfl) (by rw[←Hv _ _ g1];rfl)⟩
  ·have hd:=bI g1;have hk0:k=s.taint.length:=by omega
   subst hk0;have e:oK s.taint s.taint.length=s.taint.map cz:=by simp[oK]
   rw[e];cases o with
   |none=>
    dsimp only[ae,aS]at fin ⊢
    repeat' (first|refine st ?_|refine sb λnb_ hnb_=>?_|refine s2 (λh=>?_) λh=>?_|fail)
    exact fin _ _ ⟨_,_,rfl⟩
   |some b'=>
    dsimp only[ae,aS]at fin ⊢
    repeat' (first|refine st ?_|refine sb λnb_ hnb_=>?_|refine s2 (λh=>?_) λh=>?_|fail)
    exact fin _ _ ⟨_,_,rfl⟩
 cases o with
 |none=>
  dsimp only[ae,aS]at loop ⊢
  repeat' (first|refine st ?_|refine sb λnb_ hnb_=>?_|refine s2 (λh=>?_) λh=>?_|fail)
  exact loop _ _ rfl
 |some b'=>
  dsimp only[ae,aS]at loop ⊢
  repeat' (first|refine st ?_|refine sb λnb_ hnb_=>?_|refine s2 (λh=>?_) λh=>?_|fail)
  exact loop _ _ rfl
end
section
set_option maxRecDepth 100000
set_option linter.unusedSimpArgs false
set_option linter.unusedSectionVars false
theorem PX(a b:List Int)(ha:a.length≤2^30)(hb:b.length≤2^30):az Tryz.prog 117 [.lst (a.map aj),.lst (b.map aj)] (.lst ((EM (a++b)).map aj)):=by
 refine af.fz (Dh _ _ _ _ ?_);unfold qr;generalize hQ:(λ(v:AV) (L:SH)=>∃v2 L2,aG [v] L [v2] L2∧v2=AV.lst ((EM (a++b)).map aj)∧L2=[])=Q;have hsum:IntKind.i64.wrap ((a.length:Int)+b.length)=((a.length+b.length:Nat):Int):=by rw[YU _ ZJ];omega
 have fin:∀(bk:Nat) (L:SH),(bk,(⟨1,(Lib.compact (AT (a++b))++List.replicate ((a++b).length-(Lib.compact (AT (a++b))).length) 0).map aj⟩:Blk))∈L→Q (.sl bk 0 (Lib.compact (AT (a++b))).length) L:=λbk L hm=>by subst hQ;refine⟨_,[],aG.all ?_,rfl,rfl⟩;show Fz _ (.sl bk 0 (EM (a++b)).length) (.lst ((EM (a++b)).map aj));rw[show(EM (a++b)).map aj=((((Lib.compact (AT (a++b))++List.replicate ((a++b).length-(Lib.compact (AT (a++b))).length) 0).map aj).drop 0).take (EM (a++b)).length)from(ED (List.take_left' rfl)).symm];exact Fz.rows (x:=⟨1,_⟩) hm ZM (by simp[EM])
 have h2:=λbk:Nat=>MX bk (a++b) (by simp;omega)
 have h3:=λbk:Nat=>EE bk (AT (a++b)) (by rw[rt];simp;omega)
 simp only[rt]at h3
 repeat' (first|refine st ?_|refine sb λnb_ hnb_=>?_|refine s2 (λh=>?_) λh=>?_|fail)
 refine gr (i:=0) (j:=a.length+b.length) ZJ ZJ ZJ (λnb_ hnb_=>?_)
 repeat' (first|refine st ?_|refine qh rp (λ_=>rfl) ZM (by simp;omega) (by simp;omega) (λ_=>rfl) (λnb_ hnb_=>?_)|refine sb λnb_ hnb_=>?_|refine s2 (λh=>?_) λh=>?_|fail)
 simp only[List.replicate,Za,←Yc,Y2,←Yf]
 repeat' (first|refine st ?_|((with_reducible refine bz 74 ?_);(refine kQ (h2 _) (.here _) ?_;rintro _ _ ⟨rfl,rfl⟩))|((with_reducible refine bz 75 ?_);(refine kQ (h3 _) (.here _) ?_;rintro _ _ ⟨rfl,rfl⟩))|refine sb λnb_ hnb_=>?_|refine s2 (λh=>?_) λh=>?_|fail)
 exact fin _ _ rp
end
end Go.Proofs.YtdnpdghlggbklaaGreatDoor.Am
