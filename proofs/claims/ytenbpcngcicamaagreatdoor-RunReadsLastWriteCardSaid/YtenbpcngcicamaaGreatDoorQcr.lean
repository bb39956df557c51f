/- A part of the proof; the statement is proved in the last part. -/
import Derived.Test.YtenbpcngcicamaaGreatDoorQcq
set_option linter.unusedSimpArgs false
set_option linter.unusedVariables false
namespace Go.Proofs.YtenbpcngcicamaaGreatDoor.Am
section
set_option maxRecDepth 100000
set_option maxHeartbeats 4000000
def gj(l:List aH)(s:bj):Int:=mO (λx=>decide (x.name=s)) l 0
theorem i8(l:List aH)(s:bj)(hl:l.length<2^62):aB Tryz.prog 62 [.lst (l.map aH.enc),.str s] (.W9 (gj l s)):=by
 refine BZ _ _ _ _ ?_;unfold pR;refine fp l (λx=>decide (x.name=s)) (λi=>[.lst (l.map aH.enc),.str s,.W9 i]) hl rfl (λi h1 hd hi hno nx hn=>?_) (λi h1 hd hno nx=>?_)
 all_goals unfold nL
 ·have hx:=az (f:=aH.enc) h1
  repeat' (first|refine st ?_|refine sb λnb_ hnb_=>?_|refine s2 (λh=>?_) λh=>?_|fail)
  ·exact⟨by rw[gj,pr h1 hno h],rfl⟩
  ·exact hn h
 ·repeat' (first|refine st ?_|refine sb λnb_ hnb_=>?_|refine s2 (λh=>?_) λh=>?_|fail)
  exact⟨by rw[gj,gL hno],rfl⟩
theorem IX(l:List bj)(s:bj)(hl:l.length<2^62):TI 64 [.lst (l.map aw),.str s]:=by
 refine ti λQ hq=>pQ _ _ _ _ ?_
 unfold m7;refine me l.length (λi=>[.lst (l.map aw),.str s,.W9 i]) hl rfl (λi h1 hd hi nx hn=>?_) (λi h1 hd nx=>?_)
 all_goals unfold fL
 ·have hx:=az (f:=aw) h1
  repeat' (first|refine st ?_|refine sb λnb_ hnb_=>?_|refine s2 (λh=>?_) λh=>?_|fail)
  all_goals first|exact hq _ _|exact hn
 ·repeat' (first|refine st ?_|refine sb λnb_ hnb_=>?_|refine s2 (λh=>?_) λh=>?_|fail)
  exact hq _ _
theorem np(l:List aj)(s:bj)(hl:l.length<2^62):TI 63 [.lst (l.map aj.enc),.str s]:=by
 refine ti λQ hq=>xD _ _ _ _ ?_
 unfold l7;refine me l.length (λi=>[.lst (l.map aj.enc),.str s,.W9 i]) hl rfl (λi h1 hd hi nx hn=>?_) (λi h1 hd nx=>?_)
 all_goals unfold kE
 ·have hx:=az (f:=aj.enc) h1
  repeat' (first|refine st ?_|refine sb λnb_ hnb_=>?_|refine s2 (λh=>?_) λh=>?_|fail)
  all_goals first|exact hq _ _|exact hn
 ·repeat' (first|refine st ?_|refine sb λnb_ hnb_=>?_|refine s2 (λh=>?_) λh=>?_|fail)
  exact hq _ _
theorem qt(b:Bool):TI 104 [.bool b]:=by
 refine ti λQ hq=>zS _ _ _ ?_
 unfold nM
 repeat' (first|refine st ?_|refine sb λnb_ hnb_=>?_|refine s2 (λh=>?_) λh=>?_|fail)
 all_goals exact hq _ _
theorem P2(a b:Int):TI 101 [.W9 a,.W9 b]:=by
 refine ti λQ hq=>Ix _ _ _ _ ?_
 unfold DE
 repeat' (first|refine st ?_|refine sb λnb_ hnb_=>?_|refine s2 (λh=>?_) λh=>?_|fail)
 all_goals exact hq _ _
theorem Ov(p:bO)(t:Nat)(s:bj)(hw:p.wt<2^40)(ht:t<p.threads.length):∃n:Int,(n=5→∃k:Nat,k<p.decls.length∧gj p.decls s=k)∧aB Tryz.prog 125 [.agg p.enc,.W9 t,.str s] (.W9 n):=by
 have hl1:=p.decls_len;have hl2:=p.threads_len;have hwt:=p.thread_wt ht;have hll:p.threads[t].locals.length<p.threads[t].wt:=by unfold aj.wt;omega
 have c1:=IX p.threads[t].locals s W4;have c2:=i8 p.decls s W4;have c3:=np p.threads s W4;have d0:decide (0≤(t:Int))=true:=by simp
 have d1:=bF ht;have hx:=az (f:=aj.enc) ht;refine Vg λQ hq=>B6 _ _ _ _ _ ?_
 unfold pS;rcases tC (p:=λx:aH=>decide (x.name=s)) p.decls 0 with⟨h1,h2⟩|⟨k,h1,h2,h3⟩
 ·have e1:gj p.decls s=-1:=h1;rw[e1]at c2
  repeat' (first|refine st ?_|(refine pf 64 ?_;refine pm (c1) ?_)|(refine pf 62 ?_;refine pm (c2) ?_)|(refine pf 63 ?_;refine pm (c3) ?_)|refine sb λnb_ hnb_=>?_|refine s2 (λh=>?_) λh=>?_|fail)
  all_goals exact hq _ _ (λh=>absurd h W8)
 ·have e1:gj p.decls s=(k:Nat):=by rw[gj,h2];simp
  rw[e1]at c2;have d2:decide ((k:Int)<0)=false:=by simp
  have hy:=az (f:=aH.enc) h1
  repeat' (first|refine st ?_|(refine pf 64 ?_;refine pm (c1) ?_)|(refine pf 62 ?_;refine pm (c2) ?_)|(refine pf 63 ?_;refine pm (c3) ?_)|refine sb λnb_ hnb_=>?_|refine s2 (λh=>?_) λh=>?_|fail)
  all_goals exact hq _ _ λ_=>⟨k,h1,e1⟩
theorem Ow(p:bO)(t:Nat)(s:bj)(a b:Int)(hw:p.wt<2^40)(ht:t<p.threads.length):TI 102 [.agg p.enc,.W9 t,.str s,.W9 a,.W9 b]:=by
 obtain⟨n,_,c1⟩:=Ov p t s hw ht;refine ti λQ hq=>sj _ _ _ _ _ _ _ ?_
 unfold m8
 repeat' (first|refine st ?_|(refine pf 125 ?_;refine pm (c1) ?_)|refine sb λnb_ hnb_=>?_|refine s2 (λh=>?_) λh=>?_|fail)
 all_goals exact hq _ _
theorem P3(p:bO)(t:Nat)(s:bj)(hw:p.wt<2^40)(ht:t<p.threads.length):∃n:Int,(n=0→∃k:Nat,k<p.decls.length∧gj p.decls s=k)∧aB Tryz.prog 102 [.agg p.enc,.W9 t,.str s,.W9 5,.W9 5] (.W9 n):=by
 obtain⟨n,g,c1⟩:=Ov p t s hw ht;refine Vg λQ hq=>sj _ _ _ _ _ _ _ ?_
 unfold m8
 repeat' (first|refine st ?_|(refine pf 125 ?_;refine pm (c1) ?_)|refine sb λnb_ hnb_=>?_|refine s2 (λh=>?_) λh=>?_|fail)
 all_goals first
  |exact hq _ _ (λh0=>absurd h0 W8)
  |exact hq _ _ (λ_=>g (by simp_all))
theorem P4:∀(k:Nat) (x:au),x.wt≤k→k<2^40→TE 126 [.agg x.row]:=by
 intro k
 induction k with
 |zero=>intro x h;have:=x.wt_eq;omega
 |succ k ih=>
  intro x hk hb;have hlen:=x.len;refine te λQ hq=>Dz _ _ _ ?_
  unfold sk
  repeat' (first|refine st ?_|refine sb λnb_ hnb_=>?_|refine s2 (λh=>?_) λh=>?_|fail)
  refine FV (β:=Int×Int) x.l.length (λi n=>[.pptr [x.row] 0 0,.W9 n.1,.W9 n.2,.W9 i]) (1,0) W4 rfl (λi n h1 hd hi nx hn=>?_) (λi n h1 hd nx=>?_)
  all_goals unfold pT
  ·have hx:=De h1;have hc:=ih x.l[i] (by have:=x.kid h1;omega) W4
   repeat' (first|refine st ?_|(refine pf 126 ?_;refine pm (hc) ?_)|refine J5 ?_|refine sb λnb_ hnb_=>?_|refine s2 (λh=>?_) λh=>?_|fail)
   exact hn (_,_)
  ·repeat' (first|refine st ?_|refine sb λnb_ hnb_=>?_|refine s2 (λh=>?_) λh=>?_|fail)
   exact hq _ _ _
theorem P5(p:bO)(t:Nat)(hw:p.wt<2^40)(ht:t<p.threads.length):∀(k:Nat) (x:au),x.wt≤k→k<2^40→TI 127 [.agg p.enc,.W9 t,.agg x.row]:=by
 intro k
 induction k with
 |zero=>intro x h;have:=x.wt_eq;omega
 |succ k ih=>
  intro x hk hb;have hlen:=x.len;have cw:=λa b=>Ow p t x.name a b hw ht
  refine ti λQ hq=>DD _ _ _ _ _ ?_
  unfold sn;have key:∀r:Int,jx Q [.W9 t,.pptr [p.enc] 0 0,.pptr [x.row] 0 0,.W9 r] []:=by
   intro r;unfold jx
   repeat' (first|refine st ?_|refine sb λnb_ hnb_=>?_|refine s2 (λh=>?_) λh=>?_|fail)
   refine FV x.l.length (λi r=>[.W9 t,.pptr [p.enc] 0 0,.pptr [x.row] 0 0,.W9 r,.W9 i]) r W4 rfl (λi r h1 hd hi nx hn=>?_) (λi r h1 hd nx=>?_)
   all_goals unfold pU
   ·have hx:=De h1;have hc:=ih x.l[i] (by have:=x.kid h1;omega) W4
    repeat' (first|refine st ?_|(refine pf 127 ?_;refine pm (hc) ?_)|refine sb λnb_ hnb_=>?_|refine s2 (λh=>?_) λh=>?_|fail)
    all_goals first|exact hq _ _|exact hn _
   ·repeat' (first|refine st ?_|refine sb λnb_ hnb_=>?_|refine s2 (λh=>?_) λh=>?_|fail)
    all_goals exact hq _ _
  repeat' (first|with_reducible exact key _|refine st ?_|(refine pf 102 ?_;refine pm (cw _ _) ?_)|refine sb λnb_ hnb_=>?_|refine s2 (λh=>?_) λh=>?_|fail)
theorem Sr(p:bO)(t:Nat)(x:au)(hw:p.wt<2^40)(ht:t<p.threads.length)(hx:x.wt<2^40):TI 103 [.agg p.enc,.W9 t,.agg x.row]:=by
 have c1:=Oq _ x (Vo _) hx;have c2:=P4 _ x (Vo _) hx;have c3:=P5 p t hw ht _ x (Vo _) hx;refine ti λQ hq=>E4 _ _ _ _ _ ?_
 unfold xE
 repeat' (first|refine st ?_|(refine pf 123 ?_;refine pm (c1) ?_)|(refine pf 126 ?_;refine pm (c2) ?_)|(refine pf 127 ?_;refine pm (c3) ?_)|refine sb λnb_ hnb_=>?_|refine s2 (λh=>?_) λh=>?_|fail)
 all_goals exact hq _ _
theorem P6:∀(k:Nat) (l:List ab),ab.wts l≤k→k<2^40→TI 40 [.lst (l.map ab.enc)]:=by
 intro k
 induction k using Nat.strongRecOn with
 |_ k ih=>
  intro l hl hk;have hlen:=ab.wts_len l;refine ti λQ hq=>DH _ _ _ ?_
  unfold ss
  repeat' (first|refine st ?_|refine sb λnb_ hnb_=>?_|refine s2 (λh=>?_) λh=>?_|fail)
  refine FV l.length (λi n=>[.lst (l.map ab.enc),.W9 n,.W9 i]) _ W4 rfl (λi n h1 hd hi nx hn=>?_) (λi n h1 hd nx=>?_)
  all_goals unfold pV
  ·have hx:=FE h1;have hwi:=ab.wts_get l i h1;have hwe:=(l[i]).wt_eq;have c1:=ih _ W4 l[i].body (Vo _) W4;have c2:=ih _ W4 l[i].els (Vo _) W4
   repeat' (first|refine st ?_|(refine pf 40 ?_;refine pm (c1) ?_)|(refine pf 40 ?_;refine pm (c2) ?_)|refine sb λnb_ hnb_=>?_|refine s2 (λh=>?_) λh=>?_|fail)
   exact hn _
  ·repeat' (first|refine st ?_|refine sb λnb_ hnb_=>?_|refine s2 (λh=>?_) λh=>?_|fail)
   exact hq _ _
theorem P7(l:List aH)(hl:l.length<2^40):TE 38 [.lst (l.map aH.enc)]:=by
 refine te λQ hq=>Ek _ _ _ ?_
 unfold sB;refine FV (β:=Int×Int×Int×Int) l.length (λi n=>[.lst (l.map aH.enc),.W9 n.1,.W9 n.2.1,.W9 n.2.2.1,.W9 n.2.2.2,.W9 i]) (0,0,0,0) W4 rfl (λi n h1 hd hi nx hn=>?_) (λi n h1 hd nx=>?_)
 all_goals unfold qb
 ·have hx:=az (f:=aH.enc) h1;have c1:=i8 (l.take i) l[i].name (by rw[VR];omega);have c2:=i8 (l.take i) l[i].on (by rw[VR];omega);have key:∀a b c d:Int,jN Q nx [.lst (l.map aH.enc),.W9 a,.W9 b,.W9 c,.W9 d,.W9 (i:Int),.pptr [l[i].enc] 0 0] []:=by
   intro a b c d;unfold jN;rcases tC (p:=λx:aH=>decide (x.name=l[i].on)) (l.take i) 0 with⟨g1,g2⟩|⟨k,g1,g2,g3⟩
   ·have e1:gj (l.take i) l[i].on=-1:=g1;rw[e1]at c2
    repeat' (first|refine st ?_|refine ge ?_|(refine pf 62 ?_;refine pm (c2) ?_)|refine sb λnb_ hnb_=>?_|refine s2 (λh=>?_) λh=>?_|fail)
    all_goals first|exact hq _ _ _|exact hn (_,_,_,_)
   ·have e1:gj (l.take i) l[i].on=(k:Nat):=by rw[gj,g2];simp
    have hkl:k<l.length:=by rw[VR]at g1;omega
    rw[e1]at c2;have hy:=az (f:=aH.enc) hkl;have d2:decide ((k:Int)<0)=false:=by simp
    repeat' (first|refine st ?_|refine ge ?_|(refine pf 62 ?_;refine pm (c2) ?_)|refine sb λnb_ hnb_=>?_|refine s2 (λh=>?_) λh=>?_|fail)
    all_goals first|exact hq _ _ _|exact hn (_,_,_,_)
  repeat' (first|with_reducible exact key _ _ _ _|refine st ?_|refine ge ?_|(refine pf 62 ?_;refine pm (c1) ?_)|refine J5 ?_|refine sb λnb_ hnb_=>?_|refine s2 (λh=>?_) λh=>?_|fail)
  all_goals exact hq _ _ _
 ·repeat' (first|refine st ?_|refine sb λnb_ hnb_=>?_|refine s2 (λh=>?_) λh=>?_|fail)
  exact hq _ _ _
theorem Me(p:bO)(hw:p.wt<2^40):TE 39 [.agg p.enc]:=by
 have hl1:=p.decls_len;have hl2:=p.threads_len;refine te λQ hq=>An _ _ _ ?_
 unfold nT
 repeat' (first|refine st ?_|refine sb λnb_ hnb_=>?_|refine s2 (λh=>?_) λh=>?_|fail)
 refine me p.threads.length (λi=>[.pptr [p.enc] 0 0,.W9 i]) W4 rfl (λi h1 hd hi nx hn=>?_) (λi h1 hd nx=>?_)
 all_goals unfold mh
 ·have hx:=az (f:=aj.enc) h1;have c1:=i8 p.decls p.threads[i].name W4;have c2:=np (p.threads.take i) p.threads[i].name (by rw[VR];omega)
  repeat' (first|refine st ?_|refine ge ?_|(refine pf 62 ?_;refine pm (c1) ?_)|(refine pf 63 ?_;refine pm (c2) ?_)|refine sb λnb_ hnb_=>?_|refine s2 (λh=>?_) λh=>?_|fail)
  all_goals first|exact hq _ _ _|exact hn
 ·repeat' (first|refine st ?_|refine sb λnb_ hnb_=>?_|refine s2 (λh=>?_) λh=>?_|fail)
  refine me p.threads.length (λi=>[.pptr [p.enc] 0 0,.W9 i]) W4 rfl (λi h1 hd hi nx hn=>?_) (λi h1 hd nx=>?_)
  all_goals unfold mg
  ·have hx:=az (f:=aj.enc) h1;generalize p.threads[i]=t at *
   repeat' (first|refine st ?_|refine sb λnb_ hnb_=>?_|refine s2 (λh=>?_) λh=>?_|fail)
   ·exact hq _ _ _
   ·have h4:t.locals.length≤4:=by simp at h;omega
    refine me t.locals.length (λk=>[.pptr [p.enc] 0 0,.W9 i,.pptr [t.enc] 0 0,.W9 k]) W4 rfl (λk g1 gd gi ny gn=>?_) (λk g1 gd ny=>?_)
    all_goals unfold mf
    ·have hy:=az (f:=aw) g1;have c1:=i8 p.decls t.locals[k] W4;have c2:=np p.threads t.locals[k] W4;have c3:=IX (t.locals.take k) t.locals[k] (by rw[VR];omega)
     repeat' (first|refine st ?_|refine ge ?_|(refine pf 62 ?_;refine pm (c1) ?_)|(refine pf 63 ?_;refine pm (c2) ?_)|(refine pf 64 ?_;refine pm (c3) ?_)|refine sb λnb_ hnb_=>?_|refine s2 (λh=>?_) λh=>?_|fail)
     all_goals first|exact hq _ _ _|exact gn
    ·repeat' (first|refine st ?_|refine sb λnb_ hnb_=>?_|refine s2 (λh=>?_) λh=>?_|fail)
     exact hn
  ·repeat' (first|refine st ?_|refine sb λnb_ hnb_=>?_|refine s2 (λh=>?_) λh=>?_|fail)
   exact hq _ _ _
theorem Mf(bw:Nat)(v0 v1 v2 v4 v5:AV)(o1:Option Nat)(ar:List ab)(k:Nat)(R:SH)(a b:Int)(name:bj)(h0:o1=none→ar=[])(hk:k≤ar.length)(h6:k≤6):
  ai Tryz.prog 100 [.ptr bw 0 0,.W9 a,.W9 b,.str name] ((bw,⟨6,[[v0,v1,v2,aq o1 k,v4,v5]]⟩)::(ah o1 11 (ar.map ab.enc)++R)) λu K=>∃r:Bool,u=.bool r∧K=(bw,⟨6,[[v0,v1,v2,aq o1 k,v4,v5]]⟩)::(ah o1 11 (ar.map ab.enc)++R):=by
 refine qd _ _ _ _ _ _ ?_;unfold iK;generalize hL:(bw,(⟨6,[[v0,v1,v2,aq o1 k,v4,v5]]⟩:Blk))::(ah o1 11 (ar.map ab.enc)++R)=L;generalize hQ:(λ(u:AV) (K:SH)=>∃r:Bool,u=AV.bool r∧K=L)=Q;have hq:∀r:Bool,Q (.bool r) L:=λr=>by subst hQ;exact⟨r,rfl,rfl⟩
 clear hQ;subst hL;cases o1 with
 |none=>
  have:=h0 rfl;subst this;obtain rfl:k=0:=by simpa using hk
  dsimp only[ah,aq,List.nil_append]at *;refine pq 0 (λ_=>True) (λi=>[.ptr bw 0 0,.W9 a,.W9 b,.str name,.W9 i]) W4 trivial rfl (λi h1 hd hi _ nx hn=>by omega) (λi h1 hd _ nx=>?_);unfold eK
  repeat' (first|refine st ?_|refine sb λnb_ hnb_=>?_|refine s2 (λh=>?_) λh=>?_|fail)
  exact hq _
 |some b1=>
  dsimp only[ah,aq,List.cons_append,List.nil_append]at *;refine pq k (λ_=>True) (λi=>[.ptr bw 0 0,.W9 a,.W9 b,.str name,.W9 i]) W4 trivial rfl (λi h1 hd hi _ nx hn=>?_) (λi h1 hd _ nx=>?_)
  all_goals unfold eK
  ·have hx:=FE (l:=ar) (i:=i) W4;generalize ar[i]'W4=x at *
   repeat' (first|refine st ?_|refine sb λnb_ hnb_=>?_|refine s2 (λh=>?_) λh=>?_|fail)
   all_goals first
    |exact hq _
    |exact hn trivial
  ·repeat' (first|refine st ?_|refine sb λnb_ hnb_=>?_|refine s2 (λh=>?_) λh=>?_|fail)
   exact hq _
theorem Ox(o:Option Nat)(l:List bj)(R:SH)(x:bj)(h0:o=none→l=[])(hl:l.length<2^62):
  ai Tryz.prog 64 [aq o l.length,.str x] (ah o 1 (l.map aw)++R) λu K=>∃r:Int,u=.W9 r∧K=ah o 1 (l.map aw)++R:=by
 refine pQ _ _ _ _ ?_;unfold m7;generalize hL:ah o 1 (l.map aw)++R=L;generalize hQ:(λ(u:AV) (K:SH)=>∃r:Int,u=AV.W9 r∧K=L)=Q;have hq:∀r:Int,Q (.W9 r) L:=λr=>by subst hQ;exact⟨r,rfl,rfl⟩
 clear hQ;subst hL;cases o with
 |none=>
  have:=h0 rfl;subst this;dsimp only[ah,aq,List.nil_append,List.length_nil]at *;refine pq 0 (λ_=>True) (λi=>[.emp,.str x,.W9 i]) W4 trivial rfl (λi h1 hd hi _ nx hn=>by omega) (λi h1 hd _ nx=>?_);unfold fL
  repeat' (first|refine st ?_|refine sb λnb_ hnb_=>?_|refine s2 (λh=>?_) λh=>?_|fail)
  exact hq _
 |some b1=>
  dsimp only[ah,aq,List.cons_append,List.nil_append]at *;refine pq l.length (λ_=>True) (λi=>[.sl b1 0 l.length,.str x,.W9 i]) W4 trivial rfl (λi h1 hd hi _ nx hn=>?_) (λi h1 hd _ nx=>?_)
  all_goals unfold fL
  ·have hx:=az (f:=aw) h1
   repeat' (first|refine st ?_|refine sb λnb_ hnb_=>?_|refine s2 (λh=>?_) λh=>?_|fail)
   all_goals first
    |exact hq _
    |exact hn trivial
  ·repeat' (first|refine st ?_|refine sb λnb_ hnb_=>?_|refine s2 (λh=>?_) λh=>?_|fail)
   exact hq _
end
end Go.Proofs.YtenbpcngcicamaaGreatDoor.Am
