/- A part of the proof; the statement is proved in the last part. -/
import Derived.Test.YtdnpdghlggbklaaGreatDoorQev
set_option linter.unusedSimpArgs false
set_option linter.unusedVariables false
namespace Go.Proofs.YtdnpdghlggbklaaGreatDoor.Am
section
set_option maxRecDepth 1000000
theorem Mr:az Tryz.prog 10 [] (.bool true):=.of_ok (fP (n:=2000) (d:=50) UP (by kernel_rfl) (by kernel_rfl))
end
section
set_option maxRecDepth 100000
set_option maxHeartbeats 2000000
theorem Qb(t s:List UInt8):az Tryz.prog 6 [.lst (t.map fx),.lst (s.map fx)] (.bool (decide (200<t.length)||decide (100<s.length))):=by
 refine Fk _ _ _ _ ?_;unfold xU;by_cases p1:200<t.length
 ·have d1:decide ((t.length:Int) > 200)=true:=decide_eq_true Xh
  repeat' (first|refine st ?_|refine sb λnb_ hnb_=>?_|refine s2 (λh=>?_) λh=>?_|fail)
  exact⟨by rw[decide_eq_true p1];rfl,rfl⟩
 ·have d1:decide ((t.length:Int) > 200)=false:=decide_eq_false Xh;by_cases p2:100<s.length
  ·have d2:decide ((s.length:Int) > 100)=true:=decide_eq_true Xh
   repeat' (first|refine st ?_|refine sb λnb_ hnb_=>?_|refine s2 (λh=>?_) λh=>?_|fail)
   exact⟨by rw[decide_eq_false p1,decide_eq_true p2];exact congrArg AV.bool d2,rfl⟩
  ·have d2:decide ((s.length:Int) > 100)=false:=decide_eq_false Xh
   repeat' (first|refine st ?_|refine sb λnb_ hnb_=>?_|refine s2 (λh=>?_) λh=>?_|fail)
   exact⟨by rw[decide_eq_false p1,decide_eq_false p2];exact congrArg AV.bool d2,rfl⟩
end
section
set_option maxRecDepth 100000
set_option maxHeartbeats 4000000
theorem SG(Q:R)(nx:Kn)(s x49 x50:AV)(l a:Int)(i n:Nat)(hi:i<n)(hn2:n<2^62)(e:cC)(tk gv:Bool)(L:SH)(h1:tk=true→a=-1)(h2:gv=true→a=e.thread)(hn:nx [x49,x50,.Xm l,.Xm (if gv then -1 else if tk then e.thread else a),.Xm ((i+1:Nat):Int)] L):
  cJ Q nx [s,x49,x50,.Xm l,.Xm a,.Xm (i:Int),.pptr [e.enc] 0 0,.bool tk,.bool gv] L:=by
 rw[←aE hi hn2]at hn;obtain⟨th,kind,obj,value,site,deps,frm⟩:=e;dsimp only at h2 hn;unfold cJ;cases tk<;>cases gv
 ·repeat' (first|refine st ?_|refine sb λnb_ hnb_=>?_|refine s2 (λh=>?_) λh=>?_|fail)
  exact hn
 ·have h:=h2 rfl;subst h;have d2:decide (a≠a)=false:=decide_eq_false Xk
  repeat' (first|refine st ?_|refine sb λnb_ hnb_=>?_|refine s2 (λh=>?_) λh=>?_|fail)
  exact hn
 ·have h:=h1 rfl;subst h
  repeat' (first|refine st ?_|refine sb λnb_ hnb_=>?_|refine s2 (λh=>?_) λh=>?_|fail)
  exact hn
 ·have h:=h1 rfl;subst h;have h:=h2 rfl;subst h
  repeat' (first|refine st ?_|refine sb λnb_ hnb_=>?_|refine s2 (λh=>?_) λh=>?_|fail)
  exact hn
section
variable (c:bM) (ev:List cC) (hev:ev.length≤400) (hok:∀(pre suf:List cC) (e:cC),ev=pre++e::suf→UA c.w pre e) (a1 a2 a3 a4 a5 a6:AV) (Q:R) (l:Nat) (hl:l≤c.w.locks.length) (nx:Kn)
include hev hok hl
theorem Qc(i:Nat)(g1:i<ev.length)(s:AV)(L:SH)(hn:nx [.pptr [c.enc] 0 0,.pptr [[a1,a2,a3,a4,a5,a6,.lst (ev.map cC.enc)]] 0 0,.Xm (l:Int),.Xm (tL c.w l (ev.take (i+1))),.Xm ((i+1:Nat):Int)] L):
  ∀tk gv:Bool,tk=dq c.w l ev[i].kind ev[i].obj→gv=dt c.w l ev[i].kind ev[i].obj→cJ Q nx [s,.pptr [c.enc] 0 0,.pptr [[a1,a2,a3,a4,a5,a6,.lst (ev.map cC.enc)]] 0 0,.Xm (l:Int),.Xm (tL c.w l (ev.take i)),.Xm (i:Int),.pptr [ev[i].enc] 0 0,.bool tk,.bool gv] L:=by
 intro tk gv h1 h2;have ho:=hok (ev.take i) (ev.drop (i+1)) ev[i] Xk l hl;refine SG Q nx s _ _ _ _ i ev.length g1 Xh ev[i] tk gv L (λh=>ho.1 (h1▸h)) (λh=>ho.2.1 (h2▸h)) ?_;rw[VJ g1,F2]at hn;rw[h1,h2];exact hn
end
end
section
set_option maxRecDepth 100000
set_option maxHeartbeats 20000000
section
variable (c:bM) (ev:List cC) (hev:ev.length≤400) (hok:∀(pre suf:List cC) (e:cC),ev=pre++e::suf→UA c.w pre e) (a1 a2 a3 a4 a5 a6:AV) (Q:R) (l:Nat) (hl:l≤c.w.locks.length) (nx:Kn)
include hev hok hl
theorem SI(i:Nat)(g1:i<ev.length)(L:SH)(hn:nx [.pptr [c.enc] 0 0,.pptr [[a1,a2,a3,a4,a5,a6,.lst (ev.map cC.enc)]] 0 0,.Xm (l:Int),.Xm (tL c.w l (ev.take (i+1))),.Xm ((i+1:Nat):Int)] L):
  eK Q nx [.pptr [c.enc] 0 0,.pptr [[a1,a2,a3,a4,a5,a6,.lst (ev.map cC.enc)]] 0 0,.Xm (l:Int),.Xm (tL c.w l (ev.take i)),.Xm (i:Int)] L (.pptr [[a1,a2,a3,a4,a5,a6,.lst (ev.map cC.enc)]] 0 0) (.Xm (i:Int)) (.pptr [c.enc] 0 0) (.Xm (l:Int)) (.Xm (tL c.w l (ev.take i))):=by
 have j:=λs=>Qc c ev hev hok a1 a2 a3 a4 a5 a6 Q l hl nx i g1 s L hn
 have hx:=aw (f:=cC.enc) g1;have hr:=(hok (ev.take i) (ev.drop (i+1)) ev[i] Xk l hl).2.2;clear hok hn;unfold eK;obtain⟨J,hJ⟩:∃J,J=cJ Q nx:=⟨_,rfl⟩;rw[←hJ]at j ⊢;clear hJ;generalize ev[i]=e at *;generalize tL c.w l (ev.take i)=a at *;obtain⟨th,kind,obj,value,site,deps,frm⟩:=e;dsimp only at j hr;generalize ev.map cC.enc=E at *;by_cases p:l=c.w.locks.length
 ·have d1:decide ((l:Int)=(c.w.locks.length:Int))=true:=decide_eq_true Xh
  repeat' (first|refine st ?_|refine sb λnb_ hnb_=>?_|refine s2 (λh=>?_) λh=>?_|fail)
  exact j _ _ _ (by simp[dq,p]) (by simp[dt,p])
 ·have d1:decide ((l:Int)=(c.w.locks.length:Int))=false:=decide_eq_false Xh;have ht:∀cb,dK c.w l obj=cb→dq c.w l kind obj=((decide (obj=l)&&(decide (kind=6)||decide (kind=10)))||(cb&&decide (kind=17))):=λcb h=>by rw[dq,if_neg p,h]
  have hg:∀cb,dK c.w l obj=cb→dt c.w l kind obj=((decide (obj=l)&&(decide (kind=7)||decide (kind=11)))||(cb&&decide (kind=16))):=λcb h=>by rw[dt,if_neg p,h]
  rw[eJ,if_neg p]at hr;have hK:kind=6∨kind=10∨kind=17∨kind=7∨kind=11∨kind=16∨kind=8∨(kind≠6∧kind≠10∧kind≠17∧kind≠7∧kind≠11∧kind≠16∧kind≠8):=by omega
  by_cases ho:obj=l
  ·have d2:decide (obj=(l:Int))=true:=decide_eq_true ho;have d0:decide (obj≥0)=true:=decide_eq_true Xh;have j2:∀cb,dK c.w l obj=cb→∀(s:AV) (tk gv:Bool),tk=((decide (kind=6)||decide (kind=10))||(cb&&decide (kind=17)))→gv=((decide (kind=7)||decide (kind=11))||(cb&&decide (kind=16)))→J [s,.pptr [c.enc] 0 0,.pptr [[a1,a2,a3,a4,a5,a6,.lst E]] 0 0,.Xm (l:Int),.Xm a,.Xm (i:Int),.pptr [cC.enc ⟨th,kind,obj,value,site,deps,frm⟩] 0 0,.bool tk,.bool gv] L:=λcb h s tk gv h1 h2=>j s tk gv (by rw[ht cb h,d2,h1];rfl) (by rw[hg cb h,d2,h2];rfl)
   have hr8:kind=8→a=-1:=λh=>hr (by rw[d2,h];rfl)
   clear hr j ht hg;subst ho;by_cases o1:l<c.w.conds.length
   ·have d3:=bF o1;have hcx:=aw (f:=cP.enc) o1;have hcb:dK c.w l (l:Int)=decide (c.w.conds[l].mutex=l):=by rw[dK,show inB (l:Int) c.w.conds.length=true by simp[inB];omega,jo];simp[o1]
    generalize c.w.conds[l]=cd at *;obtain⟨nm,mx⟩:=cd;dsimp only at hcb;by_cases o2:mx=l
    ·subst o2;have d4:decide ((l:Int)=l)=true:=decide_eq_true rfl;rw[d4]at hcb;have j3:=j2 _ hcb;clear j2 hcb;rcases hK with rfl|rfl|rfl|rfl|rfl|rfl|rfl|⟨e6,e10,e17,e7,e11,e16,e8⟩
     ·clear hr8
      repeat' (first|refine st ?_|refine sb λnb_ hnb_=>?_|refine s2 (λh=>?_) λh=>?_|fail)
      exact j3 _ _ _ rfl rfl
     ·clear hr8
      repeat' (first|refine st ?_|refine sb λnb_ hnb_=>?_|refine s2 (λh=>?_) λh=>?_|fail)
      exact j3 _ _ _ rfl rfl
     ·clear hr8
      repeat' (first|refine st ?_|refine sb λnb_ hnb_=>?_|refine s2 (λh=>?_) λh=>?_|fail)
      exact j3 _ _ _ rfl rfl
     ·clear hr8
      repeat' (first|refine st ?_|refine sb λnb_ hnb_=>?_|refine s2 (λh=>?_) λh=>?_|fail)
      exact j3 _ _ _ rfl rfl
     ·clear hr8
      repeat' (first|refine st ?_|refine sb λnb_ hnb_=>?_|refine s2 (λh=>?_) λh=>?_|fail)
      exact j3 _ _ _ rfl rfl
     ·clear hr8
      repeat' (first|refine st ?_|refine sb λnb_ hnb_=>?_|refine s2 (λh=>?_) λh=>?_|fail)
      exact j3 _ _ _ rfl rfl
     ·have h:=hr8 rfl;subst h;clear hr8
      repeat' (first|refine st ?_|refine sb λnb_ hnb_=>?_|refine s2 (λh=>?_) λh=>?_|fail)
      exact j3 _ _ _ rfl rfl
     ·clear hr8;have f6:decide (kind=6)=false:=decide_eq_false e6;have f10:decide (kind=10)=false:=decide_eq_false e10;have f17:decide (kind=17)=false:=decide_eq_false e17;have f7:decide (kind=7)=false:=decide_eq_false e7;have f11:decide (kind=11)=false:=decide_eq_false e11;have f16:decide (kind=16)=false:=decide_eq_false e16;have f8:decide (kind=8)=false:=decide_eq_false e8
      repeat' (first|refine st ?_|refine sb λnb_ hnb_=>?_|refine s2 (λh=>?_) λh=>?_|fail)
      exact j3 _ _ _ (by rw[f6,f10,f17];rfl) (by rw[f7,f11,f16];rfl)
    ·have d4:decide (mx=l)=false:=decide_eq_false o2;rw[d4]at hcb;have j3:=j2 _ hcb;clear j2 hcb;rcases hK with rfl|rfl|rfl|rfl|rfl|rfl|rfl|⟨e6,e10,e17,e7,e11,e16,e8⟩
     ·clear hr8
      repeat' (first|refine st ?_|refine sb λnb_ hnb_=>?_|refine s2 (λh=>?_) λh=>?_|fail)
      exact j3 _ _ _ rfl rfl
     ·clear hr8
      repeat' (first|refine st ?_|refine sb λnb_ hnb_=>?_|refine s2 (λh=>?_) λh=>?_|fail)
      exact j3 _ _ _ rfl rfl
     ·clear hr8
      repeat' (first|refine st ?_|refine sb λnb_ hnb_=>?_|refine s2 (λh=>?_) λh=>?_|fail)
      exact j3 _ _ _ rfl rfl
     ·clear hr8
      repeat' (first|refine st ?_|refine sb λnb_ hnb_=>?_|refine s2 (λh=>?_) λh=>?_|fail)
      exact j3 _ _ _ rfl rfl
     ·clear hr8
      repeat' (first|refine st ?_|refine sb λnb_ hnb_=>?_|refine s2 (λh=>?_) λh=>?_|fail)
      exact j3 _ _ _ rfl rfl
     ·clear hr8
      repeat' (first|refine st ?_|refine sb λnb_ hnb_=>?_|refine s2 (λh=>?_) λh=>?_|fail)
      exact j3 _ _ _ rfl rfl
     ·have h:=hr8 rfl;subst h;clear hr8
      repeat' (first|refine st ?_|refine sb λnb_ hnb_=>?_|refine s2 (λh=>?_) λh=>?_|fail)
      exact j3 _ _ _ rfl rfl
     ·clear hr8;have f6:decide (kind=6)=false:=decide_eq_false e6;have f10:decide (kind=10)=false:=decide_eq_false e10;have f17:decide (kind=17)=false:=decide_eq_false e17;have f7:decide (kind=7)=false:=decide_eq_false e7;have f11:decide (kind=11)=false:=decide_eq_false e11;have f16:decide (kind=16)=false:=decide_eq_false e16;have f8:decide (kind=8)=false:=decide_eq_false e8
      repeat' (first|refine st ?_|refine sb λnb_ hnb_=>?_|refine s2 (λh=>?_) λh=>?_|fail)
      exact j3 _ _ _ (by rw[f6,f10,f17];rfl) (by rw[f7,f11,f16];rfl)
   ·have d3:=bI (i:=l) (n:=c.w.conds.length) Xh;have hcb:dK c.w l (l:Int)=false:=by rw[dK,show inB (l:Int) c.w.conds.length=false by simp[inB];omega];rfl
    have j3:=j2 _ hcb;clear j2 hcb;rcases hK with rfl|rfl|rfl|rfl|rfl|rfl|rfl|⟨e6,e10,e17,e7,e11,e16,e8⟩
    ·clear hr8
     repeat' (first|refine st ?_|refine sb λnb_ hnb_=>?_|refine s2 (λh=>?_) λh=>?_|fail)
     exact j3 _ _ _ rfl rfl
    ·clear hr8
     repeat' (first|refine st ?_|refine sb λnb_ hnb_=>?_|refine s2 (λh=>?_) λh=>?_|fail)
     exact j3 _ _ _ rfl rfl
    ·clear hr8
     repeat' (first|refine st ?_|refine sb λnb_ hnb_=>?_|refine s2 (λh=>?_) λh=>?_|fail)
     exact j3 _ _ _ rfl rfl
    ·clear hr8
     repeat' (first|refine st ?_|refine sb λnb_ hnb_=>?_|refine s2 (λh=>?_) λh=>?_|fail)
     exact j3 _ _ _ rfl rfl
    ·clear hr8
     repeat' (first|refine st ?_|refine sb λnb_ hnb_=>?_|refine s2 (λh=>?_) λh=>?_|fail)
     exact j3 _ _ _ rfl rfl
    ·clear hr8
     repeat' (first|refine st ?_|refine sb λnb_ hnb_=>?_|refine s2 (λh=>?_) λh=>?_|fail)
     exact j3 _ _ _ rfl rfl
    ·have h:=hr8 rfl;subst h;clear hr8
     repeat' (first|refine st ?_|refine sb λnb_ hnb_=>?_|refine s2 (λh=>?_) λh=>?_|fail)
     exact j3 _ _ _ rfl rfl
    ·clear hr8;have f6:decide (kind=6)=false:=decide_eq_false e6;have f10:decide (kind=10)=false:=decide_eq_false e10;have f17:decide (kind=17)=false:=decide_eq_false e17;have f7:decide (kind=7)=false:=decide_eq_false e7;have f11:decide (kind=11)=false:=decide_eq_false e11;have f16:decide (kind=16)=false:=decide_eq_false e16;have f8:decide (kind=8)=false:=decide_eq_false e8
     repeat' (first|refine st ?_|refine sb λnb_ hnb_=>?_|refine s2 (λh=>?_) λh=>?_|fail)
     exact j3 _ _ _ (by rw[f6,f10,f17];rfl) (by rw[f7,f11,f16];rfl)
  ·have d2:decide (obj=(l:Int))=false:=decide_eq_false ho;have j2:∀cb,dK c.w l obj=cb→∀(s:AV) (tk gv:Bool),tk=(cb&&decide (kind=17))→gv=(cb&&decide (kind=16))→J [s,.pptr [c.enc] 0 0,.pptr [[a1,a2,a3,a4,a5,a6,.lst E]] 0 0,.Xm (l:Int),.Xm a,.Xm (i:Int),.pptr [cC.enc ⟨th,kind,obj,value,site,deps,frm⟩] 0 0,.bool tk,.bool gv] L:=λcb h s tk gv h1 h2=>j s tk gv (by rw[ht cb h,d2,h1];rfl) (by rw[hg cb h,d2,h2];rfl)
   clear hr j ht hg hK;by_cases o0:0≤obj
   ·have d0:decide (obj≥0)=true:=decide_eq_true o0;obtain⟨k,rfl⟩:∃k:Nat,obj=(k:Int):=⟨obj.toNat,Xh⟩;by_cases o1:k<c.w.conds.length
    ·have d3:=bF o1;have hcx:=aw (f:=cP.enc) o1;have hcb:dK c.w l (k:Int)=decide (c.w.conds[k].mutex=l):=by rw[dK,show inB (k:Int) c.w.conds.length=true by simp[inB];omega,jo];simp[o1]
     generalize c.w.conds[k]=cd at *;obtain⟨nm,mx⟩:=cd;dsimp only at hcb;by_cases o2:mx=l
     ·have d4:decide (mx=l)=true:=decide_eq_true o2;rw[d4]at hcb;have j3:=j2 _ hcb;clear j2 hcb;by_cases k17:kind=17
      ·subst k17
       repeat' (first|refine st ?_|refine sb λnb_ hnb_=>?_|refine s2 (λh=>?_) λh=>?_|fail)
       exact j3 _ _ _ rfl rfl
      ·have e17:decide (kind=17)=false:=decide_eq_false k17;by_cases k16:kind=16
       ·subst k16
        repeat' (first|refine st ?_|refine sb λnb_ hnb_=>?_|refine s2 (λh=>?_) λh=>?_|fail)
        exact j3 _ _ _ rfl rfl
       ·have e16:decide (kind=16)=false:=decide_eq_false k16
        repeat' (first|refine st ?_|refine sb λnb_ hnb_=>?_|refine s2 (λh=>?_) λh=>?_|fail)
        exact j3 _ _ _ (by rw[e17];rfl) (by rw[e16];rfl)
     ·have d4:decide (mx=l)=false:=decide_eq_false o2;rw[d4]at hcb;have j3:=j2 _ hcb;clear j2 hcb
      repeat' (first|refine st ?_|refine sb λnb_ hnb_=>?_|refine s2 (λh=>?_) λh=>?_|fail)
      exact j3 _ _ _ rfl rfl
    ·have d3:=bI (i:=k) (n:=c.w.conds.length) Xh;have hcb:dK c.w l (k:Int)=false:=by rw[dK,show inB (k:Int) c.w.conds.length=false by simp[inB];omega];rfl
     have j3:=j2 _ hcb;clear j2 hcb
     repeat' (first|refine st ?_|refine sb λnb_ hnb_=>?_|refine s2 (λh=>?_) λh=>?_|fail)
     exact j3 _ _ _ rfl rfl
   ·have d0:decide (obj≥0)=false:=decide_eq_false o0;have hcb:dK c.w l obj=false:=by rw[dK,show inB obj c.w.conds.length=false by simp[inB];omega];rfl
    have j3:=j2 _ hcb;clear j2 hcb
    repeat' (first|refine st ?_|refine sb λnb_ hnb_=>?_|refine s2 (λh=>?_) λh=>?_|fail)
    exact j3 _ _ _ rfl rfl
theorem Qd(hlk:c.w.locks.length<2^40)(L:SH)(hn:nx [.pptr [c.enc] 0 0,.pptr [[a1,a2,a3,a4,a5,a6,.lst (ev.map cC.enc)]] 0 0,.Xm ((l+1:Nat):Int)] L):
  W.loop (eM Q nx) [.pptr [c.enc] 0 0,.pptr [[a1,a2,a3,a4,a5,a6,.lst (ev.map cC.enc)]] 0 0,.Xm (l:Int),.Xm (-1),.Xm (0:Nat)] L:=by
 refine sY ev.length (λi=>([.pptr [c.enc] 0 0,.pptr [[a1,a2,a3,a4,a5,a6,.lst (ev.map cC.enc)]] 0 0,.Xm (l:Int),.Xm (tL c.w l (ev.take i)),.Xm (i:Int)],L)) (λ_=>True) trivial rfl rfl ?_;intro i _ _;dsimp only;unfold eM;generalize hnx:(λ(vs':List AV) (L':SH)=>∃j,i<j∧j≤ev.length∧True∧_)=n2;rcases Nat.lt_or_ge i ev.length with g1|g1
 ·have hd:=bF g1;have hz:=SI c ev hev hok a1 a2 a3 a4 a5 a6 Q l hl n2 i g1 L (by subst hnx;exact⟨i+1,Xh,Xh,trivial,.refl _ _⟩);clear hnx;have len1:∀(K:AV→Prop),K (.Xm (ev.length:Int))→W.len (.lst (ev.map cC.enc)) K:=λK h=>by have:=KP (rows:=ev.map cC.enc) (K:=K) (by rw[WH];exact h);exact this
  generalize ev.map cC.enc=E at *
  repeat' (first|refine len1 _ ?_|with_reducible exact hz|refine st ?_|refine sb λnb_ hnb_=>?_|refine s2 (λh=>?_) λh=>?_|fail)
 ·have hd:=bI g1;clear hnx;have hn2:=hn;rw[←aE (show l<c.w.locks.length+1 by omega) Xh]at hn2
  repeat' (first|refine st ?_|refine sb λnb_ hnb_=>?_|refine s2 (λh=>?_) λh=>?_|fail)
  exact hn2
end
theorem OI(c:bM)(hlk:c.w.locks.length<2^40)(ev:List cC)(hev:ev.length≤400)(hok:∀(pre suf:List cC) (e:cC),ev=pre++e::suf→UA c.w pre e)(a1 a2 a3 a4 a5 a6:AV)(Q:R)(hq:∀L,Q (.bool true) L)
  (haw:az Tryz.prog 10 [] (.bool true)) (L:SH):W.loop (eN Q) [.pptr [c.enc] 0 0,.pptr [[a1,a2,a3,a4,a5,a6,.lst (ev.map cC.enc)]] 0 0,.Xm (0:Nat)] L:=by
 refine sY (c.w.locks.length+1) (λi=>([.pptr [c.enc] 0 0,.pptr [[a1,a2,a3,a4,a5,a6,.lst (ev.map cC.enc)]] 0 0,.Xm (i:Int)],L)) (λ_=>True) trivial rfl rfl ?_;intro l _ _;dsimp only;unfold eN;generalize hnx:(λ(vs':List AV) (L':SH)=>∃j,l<j∧j≤c.w.locks.length+1∧True∧_)=nx;rcases Nat.lt_or_ge l (c.w.locks.length+1)with g1|g1
 ·have hd:decide ((l:Int)≤(c.w.locks.length:Int))=true:=decide_eq_true Xh;have hi:=Qd c ev hev hok a1 a2 a3 a4 a5 a6 Q l Xh nx hlk L (by subst hnx;exact⟨l+1,Xh,Xh,trivial,.refl _ _⟩);clear hnx;generalize ev.map cC.enc=E at *
  repeat' (first|exact hi|refine st ?_|refine sb λnb_ hnb_=>?_|refine s2 (λh=>?_) λh=>?_|fail)
 ·have hd:decide ((l:Int)≤(c.w.locks.length:Int))=false:=decide_eq_false Xh;clear hnx
  repeat' (first|refine st ?_|(refine pf 10 ?_;refine pm (haw) ?_)|refine sb λnb_ hnb_=>?_|refine s2 (λh=>?_) λh=>?_|fail)
  exact hq _
theorem Qe(t s:List UInt8)(hc:t.length<2^40→∃c:bM,az Tryz.prog 7 [.lst (t.map fx)] (.agg c.enc)∧(∀x∈c.ts,x.ins.length<2^40)∧c.w.locks.length<2^40):az Tryz.prog 3 [.lst (t.map fx),.lst (s.map fx)] (.bool true):=by
 have hlong:=Qb t s;refine af.fz (qg _ _ _ _ ?_);unfold iO;generalize hQ:(λ(v:AV) (L:SH)=>∃v2 L2,aJ [v] L [v2] L2∧v2=AV.bool true∧L2=[])=Q;have hq:∀L,Q (.bool true) L:=λL=>by subst hQ;exact⟨_,[],aJ.all (.refl _),rfl,rfl⟩
 clear hQ;by_cases hl:200<t.length∨100<s.length
 ·rw[show(decide (200<t.length)||decide (100<s.length))=true by simpa using hl]at hlong
  repeat' (first|refine st ?_|(refine pf 6 ?_;refine pm (hlong) ?_)|refine sb λnb_ hnb_=>?_|refine s2 (λh=>?_) λh=>?_|fail)
  exact hq _
 ·rw[show(decide (200<t.length)||decide (100<s.length))=false by simpa using hl]at hlong;obtain⟨c,hcode,hins,hlk⟩:=hc Xh;have hch:=I8 s Xh;generalize hcl:s.map Mo=l at *;have hll:l.length≤100:=by rw[←hcl];simp;omega
  have hr:=PX c hins l Xh;have hs:=(Mk c hins l).2;have hla:=Sx c l;generalize q7 c l=r at *;obtain⟨⟨w1,ev⟩,st1⟩:=r;dsimp only at *;have hse:∀s:el,s.enc=[.lst (s.sync.locks.map LockD.enc),.Xm s.sync.tx,.lst (s.sync.done.map aT),.lst (s.sync.threads.map ThrD.enc),.lst (s.cells.map aj),.lst (s.futures.map aj),.lst (s.threads.map aV.enc)]:=λ_=>rfl
  unfold Eb.enc at hr;have ho:=λa1 a2 a3 a4 a5 a6=>OI c hlk ev hs hla a1 a2 a3 a4 a5 a6 Q hq Mr
  have hce:c.enc=[.lst (c.w.cells.map aY.enc),.lst (c.w.locks.map ca.enc),.lst (c.w.conds.map cP.enc),.lst (c.w.futures.map au),.lst (c.w.threads.map au),.lst (c.w.sites.map cM.enc),.lst (c.ts.map iH.enc)]:=rfl;rw[hse]at hr;rw[hce]at *;dsimp only at hr
  repeat' (first|exact ho _ _ _ _ _ _ _|refine st ?_|(refine pf 6 ?_;refine pm (hlong) ?_)|(refine pf 7 ?_;refine pm (hcode) ?_)|(refine pf 9 ?_;refine pm (hch) ?_)|(refine pf 8 ?_;refine pm (hr) ?_)|refine sb λnb_ hnb_=>?_|refine s2 (λh=>?_) λh=>?_|fail)
end
end Go.Proofs.YtdnpdghlggbklaaGreatDoor.Am
