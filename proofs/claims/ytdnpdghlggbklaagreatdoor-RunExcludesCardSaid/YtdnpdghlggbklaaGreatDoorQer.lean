/- A part of the proof; the statement is proved in the last part. -/
import Derived.Test.YtdnpdghlggbklaaGreatDoorQeq
set_option linter.unusedSimpArgs false
set_option linter.unusedVariables false
namespace Go.Proofs.YtdnpdghlggbklaaGreatDoor.Am
section
set_option maxRecDepth 100000
set_option maxHeartbeats 4000000
def gp(l:List aI)(s:aZ):Int:=mL (λx=>decide (x.name=s)) l 0
theorem jd(l:List aI)(s:aZ)(hl:l.length<2^62):az Tryz.prog 88 [.lst (l.map aI.enc),.str s] (.Xm (gp l s)):=by
 refine B5 _ _ _ _ ?_;unfold pO;refine fw l (λx=>decide (x.name=s)) (λi=>[.lst (l.map aI.enc),.str s,.Xm i]) hl rfl (λi h1 hd hi hno nx hn=>?_) (λi h1 hd hno nx=>?_)
 all_goals unfold nI
 ·have hx:=aw (f:=aI.enc) h1
  repeat' (first|refine st ?_|refine sb λnb_ hnb_=>?_|refine s2 (λh=>?_) λh=>?_|fail)
  ·exact⟨by rw[gp,pn h1 hno h],rfl⟩
  ·exact hn h
 ·repeat' (first|refine st ?_|refine sb λnb_ hnb_=>?_|refine s2 (λh=>?_) λh=>?_|fail)
  exact⟨by rw[gp,gQ hno],rfl⟩
theorem I5(l:List aZ)(s:aZ)(hl:l.length<2^62):TI 90 [.lst (l.map au),.str s]:=by
 refine ti λQ hq=>pN _ _ _ _ ?_
 unfold m4;refine mb l.length (λi=>[.lst (l.map au),.str s,.Xm i]) hl rfl (λi h1 hd hi nx hn=>?_) (λi h1 hd nx=>?_)
 all_goals unfold fO
 ·have hx:=aw (f:=au) h1
  repeat' (first|refine st ?_|refine sb λnb_ hnb_=>?_|refine s2 (λh=>?_) λh=>?_|fail)
  all_goals first|exact hq _ _|exact hn
 ·repeat' (first|refine st ?_|refine sb λnb_ hnb_=>?_|refine s2 (λh=>?_) λh=>?_|fail)
  exact hq _ _
theorem m9(l:List ah)(s:aZ)(hl:l.length<2^62):TI 89 [.lst (l.map ah.enc),.str s]:=by
 refine ti λQ hq=>xM _ _ _ _ ?_
 unfold l5;refine mb l.length (λi=>[.lst (l.map ah.enc),.str s,.Xm i]) hl rfl (λi h1 hd hi nx hn=>?_) (λi h1 hd nx=>?_)
 all_goals unfold kB
 ·have hx:=aw (f:=ah.enc) h1
  repeat' (first|refine st ?_|refine sb λnb_ hnb_=>?_|refine s2 (λh=>?_) λh=>?_|fail)
  all_goals first|exact hq _ _|exact hn
 ·repeat' (first|refine st ?_|refine sb λnb_ hnb_=>?_|refine s2 (λh=>?_) λh=>?_|fail)
  exact hq _ _
theorem qB(b:Bool):TI 126 [.bool b]:=by
 refine ti λQ hq=>z7 _ _ _ ?_
 unfold nJ
 repeat' (first|refine st ?_|refine sb λnb_ hnb_=>?_|refine s2 (λh=>?_) λh=>?_|fail)
 all_goals exact hq _ _
theorem P5(a b:Int):TI 123 [.Xm a,.Xm b]:=by
 refine ti λQ hq=>ID _ _ _ _ ?_
 unfold DK
 repeat' (first|refine st ?_|refine sb λnb_ hnb_=>?_|refine s2 (λh=>?_) λh=>?_|fail)
 all_goals exact hq _ _
theorem OC(p:bP)(t:Nat)(s:aZ)(hw:p.wt<2^40)(ht:t<p.threads.length):∃n:Int,(n=5→∃k:Nat,k<p.decls.length∧gp p.decls s=k)∧az Tryz.prog 145 [.agg p.enc,.Xm t,.str s] (.Xm n):=by
 have hl1:=p.decls_len;have hl2:=p.threads_len;have hwt:=p.thread_wt ht;have hll:p.threads[t].locals.length<p.threads[t].wt:=by unfold ah.wt;omega
 have c1:=I5 p.threads[t].locals s Xh;have c2:=jd p.decls s Xh;have c3:=m9 p.threads s Xh;have d0:decide (0≤(t:Int))=true:=by simp
 have d1:=bF ht;have hx:=aw (f:=ah.enc) ht;refine Vu λQ hq=>Cc _ _ _ _ _ ?_
 unfold pP;rcases tM (p:=λx:aI=>decide (x.name=s)) p.decls 0 with⟨h1,h2⟩|⟨k,h1,h2,h3⟩
 ·have e1:gp p.decls s=-1:=h1;rw[e1]at c2
  repeat' (first|refine st ?_|(refine pf 90 ?_;refine pm (c1) ?_)|(refine pf 88 ?_;refine pm (c2) ?_)|(refine pf 89 ?_;refine pm (c3) ?_)|refine sb λnb_ hnb_=>?_|refine s2 (λh=>?_) λh=>?_|fail)
  all_goals exact hq _ _ (λh=>absurd h Xl)
 ·have e1:gp p.decls s=(k:Nat):=by rw[gp,h2];simp
  rw[e1]at c2;have d2:decide ((k:Int)<0)=false:=by simp
  have hy:=aw (f:=aI.enc) h1
  repeat' (first|refine st ?_|(refine pf 90 ?_;refine pm (c1) ?_)|(refine pf 88 ?_;refine pm (c2) ?_)|(refine pf 89 ?_;refine pm (c3) ?_)|refine sb λnb_ hnb_=>?_|refine s2 (λh=>?_) λh=>?_|fail)
  all_goals exact hq _ _ λ_=>⟨k,h1,e1⟩
theorem OD(p:bP)(t:Nat)(s:aZ)(a b:Int)(hw:p.wt<2^40)(ht:t<p.threads.length):TI 124 [.agg p.enc,.Xm t,.str s,.Xm a,.Xm b]:=by
 obtain⟨n,_,c1⟩:=OC p t s hw ht;refine ti λQ hq=>sE _ _ _ _ _ _ _ ?_
 unfold m5
 repeat' (first|refine st ?_|(refine pf 145 ?_;refine pm (c1) ?_)|refine sb λnb_ hnb_=>?_|refine s2 (λh=>?_) λh=>?_|fail)
 all_goals exact hq _ _
theorem P6(p:bP)(t:Nat)(s:aZ)(hw:p.wt<2^40)(ht:t<p.threads.length):∃n:Int,(n=0→∃k:Nat,k<p.decls.length∧gp p.decls s=k)∧az Tryz.prog 124 [.agg p.enc,.Xm t,.str s,.Xm 5,.Xm 5] (.Xm n):=by
 obtain⟨n,g,c1⟩:=OC p t s hw ht;refine Vu λQ hq=>sE _ _ _ _ _ _ _ ?_
 unfold m5
 repeat' (first|refine st ?_|(refine pf 145 ?_;refine pm (c1) ?_)|refine sb λnb_ hnb_=>?_|refine s2 (λh=>?_) λh=>?_|fail)
 all_goals first
  |exact hq _ _ (λh0=>absurd h0 Xl)
  |exact hq _ _ (λ_=>g (by simp_all))
theorem P7:∀(k:Nat) (x:ao),x.wt≤k→k<2^40→TE 146 [.agg x.row]:=by
 intro k
 induction k with
 |zero=>intro x h;have:=x.wt_eq;omega
 |succ k ih=>
  intro x hk hb;have hlen:=x.len;refine te λQ hq=>DF _ _ _ ?_
  unfold sF
  repeat' (first|refine st ?_|refine sb λnb_ hnb_=>?_|refine s2 (λh=>?_) λh=>?_|fail)
  refine F3 (β:=Int×Int) x.l.length (λi n=>[.pptr [x.row] 0 0,.Xm n.1,.Xm n.2,.Xm i]) (1,0) Xh rfl (λi n h1 hd hi nx hn=>?_) (λi n h1 hd nx=>?_)
  all_goals unfold pQ
  ·have hx:=Dk h1;have hc:=ih x.l[i] (by have:=x.kid h1;omega) Xh
   repeat' (first|refine st ?_|(refine pf 146 ?_;refine pm (hc) ?_)|refine Kb ?_|refine sb λnb_ hnb_=>?_|refine s2 (λh=>?_) λh=>?_|fail)
   exact hn (_,_)
  ·repeat' (first|refine st ?_|refine sb λnb_ hnb_=>?_|refine s2 (λh=>?_) λh=>?_|fail)
   exact hq _ _ _
theorem P8(p:bP)(t:Nat)(hw:p.wt<2^40)(ht:t<p.threads.length):∀(k:Nat) (x:ao),x.wt≤k→k<2^40→TI 147 [.agg p.enc,.Xm t,.agg x.row]:=by
 intro k
 induction k with
 |zero=>intro x h;have:=x.wt_eq;omega
 |succ k ih=>
  intro x hk hb;have hlen:=x.len;have cw:=λa b=>OD p t x.name a b hw ht
  refine ti λQ hq=>DJ _ _ _ _ _ ?_
  unfold sG;have key:∀r:Int,jD Q [.Xm t,.pptr [p.enc] 0 0,.pptr [x.row] 0 0,.Xm r] []:=by
   intro r;unfold jD
   repeat' (first|refine st ?_|refine sb λnb_ hnb_=>?_|refine s2 (λh=>?_) λh=>?_|fail)
   refine F3 x.l.length (λi r=>[.Xm t,.pptr [p.enc] 0 0,.pptr [x.row] 0 0,.Xm r,.Xm i]) r Xh rfl (λi r h1 hd hi nx hn=>?_) (λi r h1 hd nx=>?_)
   all_goals unfold pR
   ·have hx:=Dk h1;have hc:=ih x.l[i] (by have:=x.kid h1;omega) Xh
    repeat' (first|refine st ?_|(refine pf 147 ?_;refine pm (hc) ?_)|refine sb λnb_ hnb_=>?_|refine s2 (λh=>?_) λh=>?_|fail)
    all_goals first|exact hq _ _|exact hn _
   ·repeat' (first|refine st ?_|refine sb λnb_ hnb_=>?_|refine s2 (λh=>?_) λh=>?_|fail)
    all_goals exact hq _ _
  repeat' (first|with_reducible exact key _|refine st ?_|(refine pf 124 ?_;refine pm (cw _ _) ?_)|refine sb λnb_ hnb_=>?_|refine s2 (λh=>?_) λh=>?_|fail)
theorem SA(p:bP)(t:Nat)(x:ao)(hw:p.wt<2^40)(ht:t<p.threads.length)(hx:x.wt<2^40):TI 125 [.agg p.enc,.Xm t,.agg x.row]:=by
 have c1:=Oz _ x (VC _) hx;have c2:=P7 _ x (VC _) hx;have c3:=P8 p t hw ht _ x (VC _) hx;refine ti λQ hq=>Fa _ _ _ _ _ ?_
 unfold xN
 repeat' (first|refine st ?_|(refine pf 143 ?_;refine pm (c1) ?_)|(refine pf 146 ?_;refine pm (c2) ?_)|(refine pf 147 ?_;refine pm (c3) ?_)|refine sb λnb_ hnb_=>?_|refine s2 (λh=>?_) λh=>?_|fail)
 all_goals exact hq _ _
theorem P9:∀(k:Nat) (l:List ab),ab.wts l≤k→k<2^40→TI 57 [.lst (l.map ab.enc)]:=by
 intro k
 induction k using Nat.strongRecOn with
 |_ k ih=>
  intro l hl hk;have hlen:=ab.wts_len l;refine ti λQ hq=>DN _ _ _ ?_
  unfold sH
  repeat' (first|refine st ?_|refine sb λnb_ hnb_=>?_|refine s2 (λh=>?_) λh=>?_|fail)
  refine F3 l.length (λi n=>[.lst (l.map ab.enc),.Xm n,.Xm i]) _ Xh rfl (λi n h1 hd hi nx hn=>?_) (λi n h1 hd nx=>?_)
  all_goals unfold pS
  ·have hx:=FK h1;have hwi:=ab.wts_get l i h1;have hwe:=(l[i]).wt_eq;have c1:=ih _ Xh l[i].body (VC _) Xh;have c2:=ih _ Xh l[i].els (VC _) Xh
   repeat' (first|refine st ?_|(refine pf 57 ?_;refine pm (c1) ?_)|(refine pf 57 ?_;refine pm (c2) ?_)|refine sb λnb_ hnb_=>?_|refine s2 (λh=>?_) λh=>?_|fail)
   exact hn _
  ·repeat' (first|refine st ?_|refine sb λnb_ hnb_=>?_|refine s2 (λh=>?_) λh=>?_|fail)
   exact hq _ _
theorem Qa(l:List aI)(hl:l.length<2^40):TE 55 [.lst (l.map aI.enc)]:=by
 refine te λQ hq=>Er _ _ _ ?_
 unfold sK;refine F3 (β:=Int×Int×Int×Int) l.length (λi n=>[.lst (l.map aI.enc),.Xm n.1,.Xm n.2.1,.Xm n.2.2.1,.Xm n.2.2.2,.Xm i]) (0,0,0,0) Xh rfl (λi n h1 hd hi nx hn=>?_) (λi n h1 hd nx=>?_)
 all_goals unfold qi
 ·have hx:=aw (f:=aI.enc) h1;have c1:=jd (l.take i) l[i].name (by rw[V5];omega);have c2:=jd (l.take i) l[i].on (by rw[V5];omega);have key:∀a b c d:Int,jJ Q nx [.lst (l.map aI.enc),.Xm a,.Xm b,.Xm c,.Xm d,.Xm (i:Int),.pptr [l[i].enc] 0 0] []:=by
   intro a b c d;unfold jJ;rcases tM (p:=λx:aI=>decide (x.name=l[i].on)) (l.take i) 0 with⟨g1,g2⟩|⟨k,g1,g2,g3⟩
   ·have e1:gp (l.take i) l[i].on=-1:=g1;rw[e1]at c2
    repeat' (first|refine st ?_|refine gj ?_|(refine pf 88 ?_;refine pm (c2) ?_)|refine sb λnb_ hnb_=>?_|refine s2 (λh=>?_) λh=>?_|fail)
    all_goals first|exact hq _ _ _|exact hn (_,_,_,_)
   ·have e1:gp (l.take i) l[i].on=(k:Nat):=by rw[gp,g2];simp
    have hkl:k<l.length:=by rw[V5]at g1;omega
    rw[e1]at c2;have hy:=aw (f:=aI.enc) hkl;have d2:decide ((k:Int)<0)=false:=by simp
    repeat' (first|refine st ?_|refine gj ?_|(refine pf 88 ?_;refine pm (c2) ?_)|refine sb λnb_ hnb_=>?_|refine s2 (λh=>?_) λh=>?_|fail)
    all_goals first|exact hq _ _ _|exact hn (_,_,_,_)
  repeat' (first|with_reducible exact key _ _ _ _|refine st ?_|refine gj ?_|(refine pf 88 ?_;refine pm (c1) ?_)|refine Kb ?_|refine sb λnb_ hnb_=>?_|refine s2 (λh=>?_) λh=>?_|fail)
  all_goals exact hq _ _ _
 ·repeat' (first|refine st ?_|refine sb λnb_ hnb_=>?_|refine s2 (λh=>?_) λh=>?_|fail)
  exact hq _ _ _
theorem Ml(p:bP)(hw:p.wt<2^40):TE 56 [.agg p.enc]:=by
 have hl1:=p.decls_len;have hl2:=p.threads_len;refine te λQ hq=>Au _ _ _ ?_
 unfold nQ
 repeat' (first|refine st ?_|refine sb λnb_ hnb_=>?_|refine s2 (λh=>?_) λh=>?_|fail)
 refine mb p.threads.length (λi=>[.pptr [p.enc] 0 0,.Xm i]) Xh rfl (λi h1 hd hi nx hn=>?_) (λi h1 hd nx=>?_)
 all_goals unfold me
 ·have hx:=aw (f:=ah.enc) h1;have c1:=jd p.decls p.threads[i].name Xh;have c2:=m9 (p.threads.take i) p.threads[i].name (by rw[V5];omega)
  repeat' (first|refine st ?_|refine gj ?_|(refine pf 88 ?_;refine pm (c1) ?_)|(refine pf 89 ?_;refine pm (c2) ?_)|refine sb λnb_ hnb_=>?_|refine s2 (λh=>?_) λh=>?_|fail)
  all_goals first|exact hq _ _ _|exact hn
 ·repeat' (first|refine st ?_|refine sb λnb_ hnb_=>?_|refine s2 (λh=>?_) λh=>?_|fail)
  refine mb p.threads.length (λi=>[.pptr [p.enc] 0 0,.Xm i]) Xh rfl (λi h1 hd hi nx hn=>?_) (λi h1 hd nx=>?_)
  all_goals unfold md
  ·have hx:=aw (f:=ah.enc) h1;generalize p.threads[i]=t at *
   repeat' (first|refine st ?_|refine sb λnb_ hnb_=>?_|refine s2 (λh=>?_) λh=>?_|fail)
   ·exact hq _ _ _
   ·have h4:t.locals.length≤4:=by simp at h;omega
    refine mb t.locals.length (λk=>[.pptr [p.enc] 0 0,.Xm i,.pptr [t.enc] 0 0,.Xm k]) Xh rfl (λk g1 gd gi ny gn=>?_) (λk g1 gd ny=>?_)
    all_goals unfold mc
    ·have hy:=aw (f:=au) g1;have c1:=jd p.decls t.locals[k] Xh;have c2:=m9 p.threads t.locals[k] Xh;have c3:=I5 (t.locals.take k) t.locals[k] (by rw[V5];omega)
     repeat' (first|refine st ?_|refine gj ?_|(refine pf 88 ?_;refine pm (c1) ?_)|(refine pf 89 ?_;refine pm (c2) ?_)|(refine pf 90 ?_;refine pm (c3) ?_)|refine sb λnb_ hnb_=>?_|refine s2 (λh=>?_) λh=>?_|fail)
     all_goals first|exact hq _ _ _|exact gn
    ·repeat' (first|refine st ?_|refine sb λnb_ hnb_=>?_|refine s2 (λh=>?_) λh=>?_|fail)
     exact hn
  ·repeat' (first|refine st ?_|refine sb λnb_ hnb_=>?_|refine s2 (λh=>?_) λh=>?_|fail)
   exact hq _ _ _
theorem Mm(bw:Nat)(v0 v1 v2 v4 v5:AV)(o1:Option Nat)(ar:List ab)(k:Nat)(R:SH)(a b:Int)(name:aZ)(h0:o1=none→ar=[])(hk:k≤ar.length)(h6:k≤6):
  af Tryz.prog 122 [.ptr bw 0 0,.Xm a,.Xm b,.str name] ((bw,⟨6,[[v0,v1,v2,am o1 k,v4,v5]]⟩)::(ae o1 11 (ar.map ab.enc)++R)) λu K=>∃r:Bool,u=.bool r∧K=(bw,⟨6,[[v0,v1,v2,am o1 k,v4,v5]]⟩)::(ae o1 11 (ar.map ab.enc)++R):=by
 refine qk _ _ _ _ _ _ ?_;unfold iP;generalize hL:(bw,(⟨6,[[v0,v1,v2,am o1 k,v4,v5]]⟩:Blk))::(ae o1 11 (ar.map ab.enc)++R)=L;generalize hQ:(λ(u:AV) (K:SH)=>∃r:Bool,u=AV.bool r∧K=L)=Q;have hq:∀r:Bool,Q (.bool r) L:=λr=>by subst hQ;exact⟨r,rfl,rfl⟩
 clear hQ;subst hL;cases o1 with
 |none=>
  have:=h0 rfl;subst this;obtain rfl:k=0:=by simpa using hk
  dsimp only[ae,am,List.nil_append]at *;refine pk 0 (λ_=>True) (λi=>[.ptr bw 0 0,.Xm a,.Xm b,.str name,.Xm i]) Xh trivial rfl (λi h1 hd hi _ nx hn=>by omega) (λi h1 hd _ nx=>?_);unfold eO
  repeat' (first|refine st ?_|refine sb λnb_ hnb_=>?_|refine s2 (λh=>?_) λh=>?_|fail)
  exact hq _
 |some b1=>
  dsimp only[ae,am,List.cons_append,List.nil_append]at *;refine pk k (λ_=>True) (λi=>[.ptr bw 0 0,.Xm a,.Xm b,.str name,.Xm i]) Xh trivial rfl (λi h1 hd hi _ nx hn=>?_) (λi h1 hd _ nx=>?_)
  all_goals unfold eO
  ·have hx:=FK (l:=ar) (i:=i) Xh;generalize ar[i]'Xh=x at *
   repeat' (first|refine st ?_|refine sb λnb_ hnb_=>?_|refine s2 (λh=>?_) λh=>?_|fail)
   all_goals first
    |exact hq _
    |exact hn trivial
  ·repeat' (first|refine st ?_|refine sb λnb_ hnb_=>?_|refine s2 (λh=>?_) λh=>?_|fail)
   exact hq _
theorem OE(o:Option Nat)(l:List aZ)(R:SH)(x:aZ)(h0:o=none→l=[])(hl:l.length<2^62):
  af Tryz.prog 90 [am o l.length,.str x] (ae o 1 (l.map au)++R) λu K=>∃r:Int,u=.Xm r∧K=ae o 1 (l.map au)++R:=by
 refine pN _ _ _ _ ?_;unfold m4;generalize hL:ae o 1 (l.map au)++R=L;generalize hQ:(λ(u:AV) (K:SH)=>∃r:Int,u=AV.Xm r∧K=L)=Q;have hq:∀r:Int,Q (.Xm r) L:=λr=>by subst hQ;exact⟨r,rfl,rfl⟩
 clear hQ;subst hL;cases o with
 |none=>
  have:=h0 rfl;subst this;dsimp only[ae,am,List.nil_append,List.length_nil]at *;refine pk 0 (λ_=>True) (λi=>[.emp,.str x,.Xm i]) Xh trivial rfl (λi h1 hd hi _ nx hn=>by omega) (λi h1 hd _ nx=>?_);unfold fO
  repeat' (first|refine st ?_|refine sb λnb_ hnb_=>?_|refine s2 (λh=>?_) λh=>?_|fail)
  exact hq _
 |some b1=>
  dsimp only[ae,am,List.cons_append,List.nil_append]at *;refine pk l.length (λ_=>True) (λi=>[.sl b1 0 l.length,.str x,.Xm i]) Xh trivial rfl (λi h1 hd hi _ nx hn=>?_) (λi h1 hd _ nx=>?_)
  all_goals unfold fO
  ·have hx:=aw (f:=au) h1
   repeat' (first|refine st ?_|refine sb λnb_ hnb_=>?_|refine s2 (λh=>?_) λh=>?_|fail)
   all_goals first
    |exact hq _
    |exact hn trivial
  ·repeat' (first|refine st ?_|refine sb λnb_ hnb_=>?_|refine s2 (λh=>?_) λh=>?_|fail)
   exact hq _
end
end Go.Proofs.YtdnpdghlggbklaaGreatDoor.Am
