/- A part of the proof; the statement is proved in the last part. -/
import Derived.Test.YtenbpcngcicamaaGreatDoorQbq
set_option linter.unusedSimpArgs false
set_option linter.unusedVariables false
namespace Go.Proofs.YtenbpcngcicamaaGreatDoor.Am
section
set_option maxRecDepth 100000
set_option maxHeartbeats 4000000
def gb(l:List aF)(s:aZ):Int:=mG (λx=>decide (x.name=s)) l 0
theorem iW(l:List aF)(s:aZ)(hl:l.length<2^62):az Tryz.prog 62 [.lst (l.map aF.enc),.str s] (.W6 (gb l s)):=by
 refine B0 _ _ _ _ ?_;unfold pJ;refine ez l (λx=>decide (x.name=s)) (λi=>[.lst (l.map aF.enc),.str s,.W6 i]) hl rfl (λi h1 hd hi hno nx hn=>?_) (λi h1 hd hno nx=>?_)
 all_goals unfold nE
 ·have hx:=aw (f:=aF.enc) h1
  repeat' (first|refine st ?_|refine sb λnb_ hnb_=>?_|refine s2 (λh=>?_) λh=>?_|fail)
  ·exact⟨by rw[gb,ph h1 hno h],rfl⟩
  ·exact hn h
 ·repeat' (first|refine st ?_|refine sb λnb_ hnb_=>?_|refine s2 (λh=>?_) λh=>?_|fail)
  exact⟨by rw[gb,gG hno],rfl⟩
theorem I4(l:List aZ)(s:aZ)(hl:l.length<2^62):TI 64 [.lst (l.map au),.str s]:=by
 refine ti λQ hq=>pI _ _ _ _ ?_
 unfold mX;refine l7 l.length (λi=>[.lst (l.map au),.str s,.W6 i]) hl rfl (λi h1 hd hi nx hn=>?_) (λi h1 hd nx=>?_)
 all_goals unfold fH
 ·have hx:=aw (f:=au) h1
  repeat' (first|refine st ?_|refine sb λnb_ hnb_=>?_|refine s2 (λh=>?_) λh=>?_|fail)
  all_goals first|exact hq _ _|exact hn
 ·repeat' (first|refine st ?_|refine sb λnb_ hnb_=>?_|refine s2 (λh=>?_) λh=>?_|fail)
  exact hq _ _
theorem m5(l:List ah)(s:aZ)(hl:l.length<2^62):TI 63 [.lst (l.map ah.enc),.str s]:=by
 refine ti λQ hq=>xC _ _ _ _ ?_
 unfold lU;refine l7 l.length (λi=>[.lst (l.map ah.enc),.str s,.W6 i]) hl rfl (λi h1 hd hi nx hn=>?_) (λi h1 hd nx=>?_)
 all_goals unfold km
 ·have hx:=aw (f:=ah.enc) h1
  repeat' (first|refine st ?_|refine sb λnb_ hnb_=>?_|refine s2 (λh=>?_) λh=>?_|fail)
  all_goals first|exact hq _ _|exact hn
 ·repeat' (first|refine st ?_|refine sb λnb_ hnb_=>?_|refine s2 (λh=>?_) λh=>?_|fail)
  exact hq _ _
theorem qp(b:Bool):TI 104 [.bool b]:=by
 refine ti λQ hq=>zU _ _ _ ?_
 unfold nF
 repeat' (first|refine st ?_|refine sb λnb_ hnb_=>?_|refine s2 (λh=>?_) λh=>?_|fail)
 all_goals exact hq _ _
theorem P0(a b:Int):TI 101 [.W6 a,.W6 b]:=by
 refine ti λQ hq=>ID _ _ _ _ ?_
 unfold DG
 repeat' (first|refine st ?_|refine sb λnb_ hnb_=>?_|refine s2 (λh=>?_) λh=>?_|fail)
 all_goals exact hq _ _
theorem Oz(p:bL)(t:Nat)(s:aZ)(hw:p.wt<2^40)(ht:t<p.threads.length):∃n:Int,(n=5→∃k:Nat,k<p.decls.length∧gb p.decls s=k)∧az Tryz.prog 125 [.agg p.enc,.W6 t,.str s] (.W6 n):=by
 have hl1:=p.decls_len;have hl2:=p.threads_len;have hwt:=p.thread_wt ht;have hll:p.threads[t].locals.length<p.threads[t].wt:=by unfold ah.wt;omega
 have c1:=I4 p.threads[t].locals s W1;have c2:=iW p.decls s W1;have c3:=m5 p.threads s W1;have d0:decide (0≤(t:Int))=true:=by simp
 have d1:=bI ht;have hx:=aw (f:=ah.enc) ht;refine Vd λQ hq=>B7 _ _ _ _ _ ?_
 unfold pK;rcases tC (p:=λx:aF=>decide (x.name=s)) p.decls 0 with⟨h1,h2⟩|⟨k,h1,h2,h3⟩
 ·have e1:gb p.decls s=-1:=h1;rw[e1]at c2
  repeat' (first|refine st ?_|(refine pf 64 ?_;refine pm (c1) ?_)|(refine pf 62 ?_;refine pm (c2) ?_)|(refine pf 63 ?_;refine pm (c3) ?_)|refine sb λnb_ hnb_=>?_|refine s2 (λh=>?_) λh=>?_|fail)
  all_goals exact hq _ _ (λh=>absurd h W5)
 ·have e1:gb p.decls s=(k:Nat):=by rw[gb,h2];simp
  rw[e1]at c2;have d2:decide ((k:Int)<0)=false:=by simp
  have hy:=aw (f:=aF.enc) h1
  repeat' (first|refine st ?_|(refine pf 64 ?_;refine pm (c1) ?_)|(refine pf 62 ?_;refine pm (c2) ?_)|(refine pf 63 ?_;refine pm (c3) ?_)|refine sb λnb_ hnb_=>?_|refine s2 (λh=>?_) λh=>?_|fail)
  all_goals exact hq _ _ λ_=>⟨k,h1,e1⟩
theorem OA(p:bL)(t:Nat)(s:aZ)(a b:Int)(hw:p.wt<2^40)(ht:t<p.threads.length):TI 102 [.agg p.enc,.W6 t,.str s,.W6 a,.W6 b]:=by
 obtain⟨n,_,c1⟩:=Oz p t s hw ht;refine ti λQ hq=>sk _ _ _ _ _ _ _ ?_
 unfold mY
 repeat' (first|refine st ?_|(refine pf 125 ?_;refine pm (c1) ?_)|refine sb λnb_ hnb_=>?_|refine s2 (λh=>?_) λh=>?_|fail)
 all_goals exact hq _ _
theorem P1(p:bL)(t:Nat)(s:aZ)(hw:p.wt<2^40)(ht:t<p.threads.length):∃n:Int,(n=0→∃k:Nat,k<p.decls.length∧gb p.decls s=k)∧az Tryz.prog 102 [.agg p.enc,.W6 t,.str s,.W6 5,.W6 5] (.W6 n):=by
 obtain⟨n,g,c1⟩:=Oz p t s hw ht;refine Vd λQ hq=>sk _ _ _ _ _ _ _ ?_
 unfold mY
 repeat' (first|refine st ?_|(refine pf 125 ?_;refine pm (c1) ?_)|refine sb λnb_ hnb_=>?_|refine s2 (λh=>?_) λh=>?_|fail)
 all_goals first
  |exact hq _ _ (λh0=>absurd h0 W5)
  |exact hq _ _ (λ_=>g (by simp_all))
theorem P2:∀(k:Nat) (x:ao),x.wt≤k→k<2^40→TE 126 [.agg x.row]:=by
 intro k
 induction k with
 |zero=>intro x h;have:=x.wt_eq;omega
 |succ k ih=>
  intro x hk hb;have hlen:=x.len;refine te λQ hq=>DB _ _ _ ?_
  unfold sn
  repeat' (first|refine st ?_|refine sb λnb_ hnb_=>?_|refine s2 (λh=>?_) λh=>?_|fail)
  refine F2 (β:=Int×Int) x.l.length (λi n=>[.pptr [x.row] 0 0,.W6 n.1,.W6 n.2,.W6 i]) (1,0) W1 rfl (λi n h1 hd hi nx hn=>?_) (λi n h1 hd nx=>?_)
  all_goals unfold pL
  ·have hx:=Dg h1;have hc:=ih x.l[i] (by have:=x.kid h1;omega) W1
   repeat' (first|refine st ?_|(refine pf 126 ?_;refine pm (hc) ?_)|refine Kb ?_|refine sb λnb_ hnb_=>?_|refine s2 (λh=>?_) λh=>?_|fail)
   exact hn (_,_)
  ·repeat' (first|refine st ?_|refine sb λnb_ hnb_=>?_|refine s2 (λh=>?_) λh=>?_|fail)
   exact hq _ _ _
theorem P3(p:bL)(t:Nat)(hw:p.wt<2^40)(ht:t<p.threads.length):∀(k:Nat) (x:ao),x.wt≤k→k<2^40→TI 127 [.agg p.enc,.W6 t,.agg x.row]:=by
 intro k
 induction k with
 |zero=>intro x h;have:=x.wt_eq;omega
 |succ k ih=>
  intro x hk hb;have hlen:=x.len;have cw:=λa b=>OA p t x.name a b hw ht
  refine ti λQ hq=>DF _ _ _ _ _ ?_
  unfold ss;have key:∀r:Int,jt Q [.W6 t,.pptr [p.enc] 0 0,.pptr [x.row] 0 0,.W6 r] []:=by
   intro r;unfold jt
   repeat' (first|refine st ?_|refine sb λnb_ hnb_=>?_|refine s2 (λh=>?_) λh=>?_|fail)
   refine F2 x.l.length (λi r=>[.W6 t,.pptr [p.enc] 0 0,.pptr [x.row] 0 0,.W6 r,.W6 i]) r W1 rfl (λi r h1 hd hi nx hn=>?_) (λi r h1 hd nx=>?_)
   all_goals unfold pM
   ·have hx:=Dg h1;have hc:=ih x.l[i] (by have:=x.kid h1;omega) W1
    repeat' (first|refine st ?_|(refine pf 127 ?_;refine pm (hc) ?_)|refine sb λnb_ hnb_=>?_|refine s2 (λh=>?_) λh=>?_|fail)
    all_goals first|exact hq _ _|exact hn _
   ·repeat' (first|refine st ?_|refine sb λnb_ hnb_=>?_|refine s2 (λh=>?_) λh=>?_|fail)
    all_goals exact hq _ _
  repeat' (first|with_reducible exact key _|refine st ?_|(refine pf 102 ?_;refine pm (cw _ _) ?_)|refine sb λnb_ hnb_=>?_|refine s2 (λh=>?_) λh=>?_|fail)
theorem Sp(p:bL)(t:Nat)(x:ao)(hw:p.wt<2^40)(ht:t<p.threads.length)(hx:x.wt<2^40):TI 103 [.agg p.enc,.W6 t,.agg x.row]:=by
 have c1:=Ow _ x (Vl _) hx;have c2:=P2 _ x (Vl _) hx;have c3:=P3 p t hw ht _ x (Vl _) hx;refine ti λQ hq=>E8 _ _ _ _ _ ?_
 unfold xD
 repeat' (first|refine st ?_|(refine pf 123 ?_;refine pm (c1) ?_)|(refine pf 126 ?_;refine pm (c2) ?_)|(refine pf 127 ?_;refine pm (c3) ?_)|refine sb λnb_ hnb_=>?_|refine s2 (λh=>?_) λh=>?_|fail)
 all_goals exact hq _ _
theorem P4:∀(k:Nat) (l:List ab),ab.wts l≤k→k<2^40→TI 40 [.lst (l.map ab.enc)]:=by
 intro k
 induction k using Nat.strongRecOn with
 |_ k ih=>
  intro l hl hk;have hlen:=ab.wts_len l;refine ti λQ hq=>DJ _ _ _ ?_
  unfold su
  repeat' (first|refine st ?_|refine sb λnb_ hnb_=>?_|refine s2 (λh=>?_) λh=>?_|fail)
  refine F2 l.length (λi n=>[.lst (l.map ab.enc),.W6 n,.W6 i]) _ W1 rfl (λi n h1 hd hi nx hn=>?_) (λi n h1 hd nx=>?_)
  all_goals unfold pN
  ·have hx:=FJ h1;have hwi:=ab.wts_get l i h1;have hwe:=(l[i]).wt_eq;have c1:=ih _ W1 l[i].body (Vl _) W1;have c2:=ih _ W1 l[i].els (Vl _) W1
   repeat' (first|refine st ?_|(refine pf 40 ?_;refine pm (c1) ?_)|(refine pf 40 ?_;refine pm (c2) ?_)|refine sb λnb_ hnb_=>?_|refine s2 (λh=>?_) λh=>?_|fail)
   exact hn _
  ·repeat' (first|refine st ?_|refine sb λnb_ hnb_=>?_|refine s2 (λh=>?_) λh=>?_|fail)
   exact hq _ _
theorem P5(l:List aF)(hl:l.length<2^40):TE 38 [.lst (l.map aF.enc)]:=by
 refine te λQ hq=>En _ _ _ ?_
 unfold sC;refine F2 (β:=Int×Int×Int×Int) l.length (λi n=>[.lst (l.map aF.enc),.W6 n.1,.W6 n.2.1,.W6 n.2.2.1,.W6 n.2.2.2,.W6 i]) (0,0,0,0) W1 rfl (λi n h1 hd hi nx hn=>?_) (λi n h1 hd nx=>?_)
 all_goals unfold p9
 ·have hx:=aw (f:=aF.enc) h1;have c1:=iW (l.take i) l[i].name (by rw[VO];omega);have c2:=iW (l.take i) l[i].on (by rw[VO];omega);have key:∀a b c d:Int,jA Q nx [.lst (l.map aF.enc),.W6 a,.W6 b,.W6 c,.W6 d,.W6 (i:Int),.pptr [l[i].enc] 0 0] []:=by
   intro a b c d;unfold jA;rcases tC (p:=λx:aF=>decide (x.name=l[i].on)) (l.take i) 0 with⟨g1,g2⟩|⟨k,g1,g2,g3⟩
   ·have e1:gb (l.take i) l[i].on=-1:=g1;rw[e1]at c2
    repeat' (first|refine st ?_|refine fX ?_|(refine pf 62 ?_;refine pm (c2) ?_)|refine sb λnb_ hnb_=>?_|refine s2 (λh=>?_) λh=>?_|fail)
    all_goals first|exact hq _ _ _|exact hn (_,_,_,_)
   ·have e1:gb (l.take i) l[i].on=(k:Nat):=by rw[gb,g2];simp
    have hkl:k<l.length:=by rw[VO]at g1;omega
    rw[e1]at c2;have hy:=aw (f:=aF.enc) hkl;have d2:decide ((k:Int)<0)=false:=by simp
    repeat' (first|refine st ?_|refine fX ?_|(refine pf 62 ?_;refine pm (c2) ?_)|refine sb λnb_ hnb_=>?_|refine s2 (λh=>?_) λh=>?_|fail)
    all_goals first|exact hq _ _ _|exact hn (_,_,_,_)
  repeat' (first|with_reducible exact key _ _ _ _|refine st ?_|refine fX ?_|(refine pf 62 ?_;refine pm (c1) ?_)|refine Kb ?_|refine sb λnb_ hnb_=>?_|refine s2 (λh=>?_) λh=>?_|fail)
  all_goals exact hq _ _ _
 ·repeat' (first|refine st ?_|refine sb λnb_ hnb_=>?_|refine s2 (λh=>?_) λh=>?_|fail)
  exact hq _ _ _
theorem Mn(p:bL)(hw:p.wt<2^40):TE 39 [.agg p.enc]:=by
 have hl1:=p.decls_len;have hl2:=p.threads_len;refine te λQ hq=>Ao _ _ _ ?_
 unfold nM
 repeat' (first|refine st ?_|refine sb λnb_ hnb_=>?_|refine s2 (λh=>?_) λh=>?_|fail)
 refine l7 p.threads.length (λi=>[.pptr [p.enc] 0 0,.W6 i]) W1 rfl (λi h1 hd hi nx hn=>?_) (λi h1 hd nx=>?_)
 all_goals unfold ma
 ·have hx:=aw (f:=ah.enc) h1;have c1:=iW p.decls p.threads[i].name W1;have c2:=m5 (p.threads.take i) p.threads[i].name (by rw[VO];omega)
  repeat' (first|refine st ?_|refine fX ?_|(refine pf 62 ?_;refine pm (c1) ?_)|(refine pf 63 ?_;refine pm (c2) ?_)|refine sb λnb_ hnb_=>?_|refine s2 (λh=>?_) λh=>?_|fail)
  all_goals first|exact hq _ _ _|exact hn
 ·repeat' (first|refine st ?_|refine sb λnb_ hnb_=>?_|refine s2 (λh=>?_) λh=>?_|fail)
  refine l7 p.threads.length (λi=>[.pptr [p.enc] 0 0,.W6 i]) W1 rfl (λi h1 hd hi nx hn=>?_) (λi h1 hd nx=>?_)
  all_goals unfold l9
  ·have hx:=aw (f:=ah.enc) h1;generalize p.threads[i]=t at *
   repeat' (first|refine st ?_|refine sb λnb_ hnb_=>?_|refine s2 (λh=>?_) λh=>?_|fail)
   ·exact hq _ _ _
   ·have h4:t.locals.length≤4:=by simp at h;omega
    refine l7 t.locals.length (λk=>[.pptr [p.enc] 0 0,.W6 i,.pptr [t.enc] 0 0,.W6 k]) W1 rfl (λk g1 gd gi ny gn=>?_) (λk g1 gd ny=>?_)
    all_goals unfold l8
    ·have hy:=aw (f:=au) g1;have c1:=iW p.decls t.locals[k] W1;have c2:=m5 p.threads t.locals[k] W1;have c3:=I4 (t.locals.take k) t.locals[k] (by rw[VO];omega)
     repeat' (first|refine st ?_|refine fX ?_|(refine pf 62 ?_;refine pm (c1) ?_)|(refine pf 63 ?_;refine pm (c2) ?_)|(refine pf 64 ?_;refine pm (c3) ?_)|refine sb λnb_ hnb_=>?_|refine s2 (λh=>?_) λh=>?_|fail)
     all_goals first|exact hq _ _ _|exact gn
    ·repeat' (first|refine st ?_|refine sb λnb_ hnb_=>?_|refine s2 (λh=>?_) λh=>?_|fail)
     exact hn
  ·repeat' (first|refine st ?_|refine sb λnb_ hnb_=>?_|refine s2 (λh=>?_) λh=>?_|fail)
   exact hq _ _ _
theorem Mo(bw:Nat)(v0 v1 v2 v4 v5:AV)(o1:Option Nat)(ar:List ab)(k:Nat)(R:SH)(a b:Int)(name:aZ)(h0:o1=none→ar=[])(hk:k≤ar.length)(h6:k≤6):
  af Tryz.prog 100 [.ptr bw 0 0,.W6 a,.W6 b,.str name] ((bw,⟨6,[[v0,v1,v2,am o1 k,v4,v5]]⟩)::(ae o1 11 (ar.map ab.enc)++R)) λu K=>∃r:Bool,u=.bool r∧K=(bw,⟨6,[[v0,v1,v2,am o1 k,v4,v5]]⟩)::(ae o1 11 (ar.map ab.enc)++R):=by
 refine qb _ _ _ _ _ _ ?_;unfold iH;generalize hL:(bw,(⟨6,[[v0,v1,v2,am o1 k,v4,v5]]⟩:Blk))::(ae o1 11 (ar.map ab.enc)++R)=L;generalize hQ:(λ(u:AV) (K:SH)=>∃r:Bool,u=AV.bool r∧K=L)=Q;have hq:∀r:Bool,Q (.bool r) L:=λr=>by subst hQ;exact⟨r,rfl,rfl⟩
 clear hQ;subst hL;cases o1 with
 |none=>
  have:=h0 rfl;subst this;obtain rfl:k=0:=by simpa using hk
  dsimp only[ae,am,List.nil_append]at *;refine np 0 (λ_=>True) (λi=>[.ptr bw 0 0,.W6 a,.W6 b,.str name,.W6 i]) W1 trivial rfl (λi h1 hd hi _ nx hn=>by omega) (λi h1 hd _ nx=>?_);unfold eH
  repeat' (first|refine st ?_|refine sb λnb_ hnb_=>?_|refine s2 (λh=>?_) λh=>?_|fail)
  exact hq _
 |some b1=>
  dsimp only[ae,am,List.cons_append,List.nil_append]at *;refine np k (λ_=>True) (λi=>[.ptr bw 0 0,.W6 a,.W6 b,.str name,.W6 i]) W1 trivial rfl (λi h1 hd hi _ nx hn=>?_) (λi h1 hd _ nx=>?_)
  all_goals unfold eH
  ·have hx:=FJ (l:=ar) (i:=i) W1;generalize ar[i]'W1=x at *
   repeat' (first|refine st ?_|refine sb λnb_ hnb_=>?_|refine s2 (λh=>?_) λh=>?_|fail)
   all_goals first
    |exact hq _
    |exact hn trivial
  ·repeat' (first|refine st ?_|refine sb λnb_ hnb_=>?_|refine s2 (λh=>?_) λh=>?_|fail)
   exact hq _
theorem OB(o:Option Nat)(l:List aZ)(R:SH)(x:aZ)(h0:o=none→l=[])(hl:l.length<2^62):
  af Tryz.prog 64 [am o l.length,.str x] (ae o 1 (l.map au)++R) λu K=>∃r:Int,u=.W6 r∧K=ae o 1 (l.map au)++R:=by
 refine pI _ _ _ _ ?_;unfold mX;generalize hL:ae o 1 (l.map au)++R=L;generalize hQ:(λ(u:AV) (K:SH)=>∃r:Int,u=AV.W6 r∧K=L)=Q;have hq:∀r:Int,Q (.W6 r) L:=λr=>by subst hQ;exact⟨r,rfl,rfl⟩
 clear hQ;subst hL;cases o with
 |none=>
  have:=h0 rfl;subst this;dsimp only[ae,am,List.nil_append,List.length_nil]at *;refine np 0 (λ_=>True) (λi=>[.emp,.str x,.W6 i]) W1 trivial rfl (λi h1 hd hi _ nx hn=>by omega) (λi h1 hd _ nx=>?_);unfold fH
  repeat' (first|refine st ?_|refine sb λnb_ hnb_=>?_|refine s2 (λh=>?_) λh=>?_|fail)
  exact hq _
 |some b1=>
  dsimp only[ae,am,List.cons_append,List.nil_append]at *;refine np l.length (λ_=>True) (λi=>[.sl b1 0 l.length,.str x,.W6 i]) W1 trivial rfl (λi h1 hd hi _ nx hn=>?_) (λi h1 hd _ nx=>?_)
  all_goals unfold fH
  ·have hx:=aw (f:=au) h1
   repeat' (first|refine st ?_|refine sb λnb_ hnb_=>?_|refine s2 (λh=>?_) λh=>?_|fail)
   all_goals first
    |exact hq _
    |exact hn trivial
  ·repeat' (first|refine st ?_|refine sb λnb_ hnb_=>?_|refine s2 (λh=>?_) λh=>?_|fail)
   exact hq _
end
end Go.Proofs.YtenbpcngcicamaaGreatDoor.Am
