/- A part of the proof; the statement is proved in the last part. -/
import Derived.Test.YtenbpcngcicamaaGreatDoorQcp
set_option linter.unusedSimpArgs false
set_option linter.unusedVariables false
namespace Go.Proofs.YtenbpcngcicamaaGreatDoor.Am
section
set_option maxRecDepth 100000
set_option maxHeartbeats 2000000
theorem au.pureR(x:au):aY (.agg x.row):=by rw[←x.enc_row];exact .aggs x.pure
theorem ab.pureR(x:ab):aY (.agg x.row):=by rw[←x.enc_row];exact .aggs x.pure
theorem D7:∀a∈([]:List AV),aY a:=nofun
theorem ep{x:AV}{l:List AV}(h:aY x)(t:∀a∈l,aY a):∀a∈x::l,aY a:=by simp only[V3];exact⟨h,t⟩
theorem pv{l:List AV}(h:∀a∈l,aY a:=by repeat first|exact D7|refine ep ?_ ?_|exact .int _ _|exact .bool _|exact .str _|exact bO.pure _|exact au.pureR _|exact ab.pureR _|exact .lmap λx _=>x.pure|exact .lmap λx _=>md x|exact .aggs (aH.pure _)|fail):∀a∈l,aY a:=h
@[irreducible] noncomputable def vI (f:FuncId) (args:List AV):Int:=Classical.epsilon λn=>aB Tryz.prog f args (.W9 n)
@[irreducible] noncomputable def vB (f:FuncId) (args:List AV):Bool:=Classical.epsilon λn=>aB Tryz.prog f args (.bool n)
@[irreducible] noncomputable def vE (f:FuncId) (args:List AV):Int×Int:=Classical.epsilon λn=>aB Tryz.prog f args (.tup [.W9 n.1,.W9 n.2])
abbrev TI(f:FuncId)(args:List AV):Prop:=aB Tryz.prog f args (.W9 (vI f args))
abbrev TB(f:FuncId)(args:List AV):Prop:=aB Tryz.prog f args (.bool (vB f args))
abbrev TE(f:FuncId)(args:List AV):Prop:=aB Tryz.prog f args (.tup [.W9 (vE f args).1,.W9 (vE f args).2])
theorem Vg{G:Int→Prop}{f:FuncId}{args:List AV}(h:∀Q:R,(∀(n:Int) K,G n→Q (.W9 n) K)→ai Tryz.prog f args [] Q)(ha:∀a∈args,aY a:=by exact pv):∃n:Int,G n∧aB Tryz.prog f args (.W9 n):=by obtain⟨v,K,⟨n,rfl,hg⟩,hp⟩:=(h (λu K=>∃n,u=.W9 n∧G n) λn K hg=>⟨n,rfl,hg⟩).pure ha (by rintro _ _ ⟨n,rfl,_⟩;exact .int _ _);exact⟨n,hg,hp⟩
theorem ti{f:FuncId}{args:List AV}(h:∀Q:R,(∀(n:Int) K,Q (.W9 n) K)→ai Tryz.prog f args [] Q)(ha:∀a∈args,aY a:=by exact pv):TI f args:=by obtain⟨n,_,hp⟩:=Vg (G:=λ_=>True) (λQ hq=>h Q λn K=>hq n K trivial) ha;unfold TI vI;exact Classical.epsilon_spec (p:=λn=>aB Tryz.prog f args (.W9 n)) ⟨n,hp⟩
abbrev Up(op line:Int)(name arg:bj)(index:List au)(e:au)(body els:List ab):AV:=(.pptr [[.W9 op,.W9 line,.str name,.str arg,.lst (index.map au.enc),.W9 e.op,.W9 e.n,.str e.name,.lst (e.l.map au.enc),.lst (body.map ab.enc),.lst (els.map ab.enc)]] 0 0)
theorem tb{f:FuncId}{args:List AV}(h:∀Q:R,(∀(n:Bool) K,Q (.bool n) K)→ai Tryz.prog f args [] Q)(ha:∀a∈args,aY a:=by exact pv):TB f args:=by obtain⟨v,K,⟨n,rfl⟩,hp⟩:=(h (λu K=>∃n,u=.bool n) λn K=>⟨n,rfl⟩).pure ha (by rintro _ _ ⟨n,rfl⟩;exact .bool _);unfold TB vB;exact Classical.epsilon_spec (p:=λn=>aB Tryz.prog f args (.bool n)) ⟨n,hp⟩
theorem te{f:FuncId}{args:List AV}(h:∀Q:R,(∀(a b:Int) K,Q (.tup [.W9 a,.W9 b]) K)→ai Tryz.prog f args [] Q)(ha:∀a∈args,aY a:=by exact pv):TE f args:=by obtain⟨v,K,⟨a,b,rfl⟩,hp⟩:=(h (λu K=>∃a b,u=.tup [.W9 a,.W9 b]) λa b K=>⟨a,b,rfl⟩).pure ha (by rintro _ _ ⟨a,b,rfl⟩;exact On _ _);unfold TE vE;exact Classical.epsilon_spec (p:=λn:Int×Int=>aB Tryz.prog f args (.tup [.W9 n.1,.W9 n.2])) ⟨(a,b),hp⟩
theorem FV{β:Type}(n:Nat)(S:Nat→β→List AV)(x0:β){B:List AV→SH→W.Kn→Prop}{vs:List AV}{L:SH}(hl:n<2^62)(hv:vs=S 0 x0)
  (h1:∀i x,i<n→decide ((i:Int)<(n:Int))=true→IntKind.i64.wrap ((i:Int)+1)=((i+1:Nat):Int)→∀nx:W.Kn,(∀y,nx (S (i+1) y) L)→B (S i x) L nx)
  (h2:∀i x,i=n→decide ((i:Int)<(n:Int))=false→∀nx:W.Kn,B (S i x) L nx):W.loop B vs L:=by
 refine cg n (λi x=>(S i x,L)) (λ_ _=>True) x0 trivial (by rw[hv];exact .refl _ _) λi x hi _=>?_
 rcases Vt i n with h|h
 ·exact h1 i x h (bF h) (aE h hl) _ λy=>⟨i+1,y,W4,W4,trivial,.refl _ _⟩
 ·exact h2 i x W4 (bM h) _
theorem me(n:Nat)(S:Nat→List AV){B:List AV→SH→W.Kn→Prop}{vs:List AV}{L:SH}(hl:n<2^62)(hv:vs=S 0)
  (h1:∀i,i<n→decide ((i:Int)<(n:Int))=true→IntKind.i64.wrap ((i:Int)+1)=((i+1:Nat):Int)→∀nx:W.Kn,nx (S (i+1)) L→B (S i) L nx)
  (h2:∀i,i=n→decide ((i:Int)<(n:Int))=false→∀nx:W.Kn,B (S i) L nx):W.loop B vs L:=
 FV n (λi (_:Unit)=>S i) () hl hv (λi _ h hd hi nx hn=>h1 i h hd hi nx (hn ())) λi _ e hd nx=>h2 i e hd nx
theorem IW(c:Int):TB 96 [.int .u8 c]:=by
 refine tb λQ hq=>nH _ _ _ ?_
 unfold jr
 repeat' (first|refine st ?_|refine sb λnb_ hnb_=>?_|refine s2 (λh=>?_) λh=>?_|fail)
 all_goals exact hq _ _
theorem PY(c:Int):TB 122 [.int .u8 c]:=by
 refine tb λQ hq=>pL _ _ _ ?_
 unfold ly
 repeat' (first|refine st ?_|refine sb λnb_ hnb_=>?_|refine s2 (λh=>?_) λh=>?_|fail)
 all_goals exact hq _ _
theorem P0(c:Int):TB 98 [.int .u8 c]:=by
 refine tb λQ hq=>pM _ _ _ ?_
 unfold lz
 repeat' (first|refine st ?_|(refine pf 96 ?_;refine pm (IW _) ?_)|(refine pf 122 ?_;refine pm (PY _) ?_)|refine sb λnb_ hnb_=>?_|refine s2 (λh=>?_) λh=>?_|fail)
 all_goals exact hq _ _
theorem Lf:∀rows:List (List AV),(rows.all λr=>match r with|[.str _]=>true|_=>false)=true→∃l:List bj,rows=l.map aw∧l.length=rows.length
 |[],_=>⟨[],rfl,rfl⟩
 | [.str s]::l,h=>by obtain⟨m,h1,h2⟩:=Lf l (by simpa using h);exact⟨s::m,by rw[h1];rfl,by simp[h2]⟩
theorem Sq:∃l:List bj,aB Tryz.prog 121 [] (.lst (l.map aw))∧l.length<2^62:=by
 obtain⟨v,K,⟨l,rfl,hl⟩,hp⟩:=ai.pure (P:=Tryz.prog) (f:=121) (args:=[]) (Q:=λv K=>∃l:List bj,v=.lst (l.map aw)∧l.length<2^62) (by
  refine ai.fz (kD _ _ ?_);unfold gO
  repeat' (first|refine st ?_|refine sb λnb_ hnb_=>?_|refine s2 (λh=>?_) λh=>?_|fail)
  refine(λ{rows:List (List AV)} {n:Nat} (hr:(rows.all λr=>match r with|[.str _]=>true|_=>false)=true) (hn:rows.length=n) (h9:n<2^62) (hmm:(nb_,(⟨1,rows⟩:Blk))∈[(nb_,⟨1,rows⟩)])=>?_:∀{rows:List (List AV)} {n:Nat},(rows.all λr=>match r with|[.str _]=>true|_=>false)=true→rows.length=n→n<2^62→(nb_,(⟨1,rows⟩:Blk))∈[(nb_,⟨1,rows⟩)]→∃v2 L2,aI [.sl nb_ 0 n] [(nb_,⟨1,rows⟩)] [v2] L2∧∃l:List bj,v2=.lst (l.map aw)∧l.length<2^62) rfl rfl W8 (.head _);obtain⟨l,h1,h2⟩:=Lf _ hr;exact⟨_,[],aI.all (Fz.sls (l:=l) (f:=aw) hmm h1 W8 W4),l,rfl,W4⟩) nofun (by rintro _ _ ⟨l,rfl,_⟩;exact .lmap λx _=>md x)
 exact⟨l,hp,hl⟩
theorem Uq(s:bj):TB 97 [.str s]:=by
 obtain⟨l,hk,hl⟩:=Sq;refine tb λQ hq=>jt _ _ _ ?_
 unfold fZ
 repeat' (first|refine st ?_|(refine pf 121 ?_;refine pm (hk) ?_)|refine sb λnb_ hnb_=>?_|refine s2 (λh=>?_) λh=>?_|fail)
 refine me l.length (λi=>[.str s,.lst (l.map aw),.W9 i]) hl rfl (λi h1 hd hi nx hn=>?_) (λi h1 hd nx=>?_)
 all_goals unfold fD
 ·have hx:=az (f:=aw) h1
  repeat' (first|refine st ?_|refine sb λnb_ hnb_=>?_|refine s2 (λh=>?_) λh=>?_|fail)
  all_goals first|exact hq _ _|exact hn
 ·repeat' (first|refine st ?_|refine sb λnb_ hnb_=>?_|refine s2 (λh=>?_) λh=>?_|fail)
  exact hq _ _
theorem jM(s:bj)(hs:s.length<2^62):TB 60 [.str s]:=by
 refine tb λQ hq=>iv _ _ _ ?_
 unfold ga;by_cases h0:0<s.length
 ·have d1:decide ((s.length:Int)<1)=false:=by simpa using(by omega:(1:Int)≤s.length)
  repeat' (first|refine st ?_|refine KV (i:=0) ?_ h0|(refine pf 96 ?_;refine pm (IW _) ?_)|(refine pf 97 ?_;refine pm (Uq _) ?_)|refine sb λnb_ hnb_=>?_|refine s2 (λh=>?_) λh=>?_|fail)
  all_goals first|exact hq _ _|skip
  all_goals
   refine me s.length (λi=>[.str s,.W9 i]) hs rfl (λi h1 hd hi nx hn=>?_) (λi h1 hd nx=>?_)
   all_goals unfold iu
   ·repeat' (first|refine st ?_|refine KV ?_|(refine pf 98 ?_;refine pm (P0 _) ?_)|refine sb λnb_ hnb_=>?_|refine s2 (λh=>?_) λh=>?_|fail)
    all_goals first|exact hq _ _|exact hn
   ·repeat' (first|refine st ?_|refine sb λnb_ hnb_=>?_|refine s2 (λh=>?_) λh=>?_|fail)
    exact hq _ _
 ·have d1:decide ((s.length:Int)<1)=true:=by simpa using(by omega:(s.length:Int)<1)
  repeat' (first|refine st ?_|refine sb λnb_ hnb_=>?_|refine s2 (λh=>?_) λh=>?_|fail)
  exact hq _ _
theorem J7(op:Int):TI 140 [.W9 op]:=by
 refine ti λQ hq=>xC _ _ _ ?_
 unfold l6
 repeat' (first|refine st ?_|refine sb λnb_ hnb_=>?_|refine s2 (λh=>?_) λh=>?_|fail)
 all_goals exact hq _ _
theorem Oq:∀(k:Nat) (x:au),x.wt≤k→k<2^40→TB 123 [.agg x.row]:=by
 intro k
 induction k with
 |zero=>intro x h;have:=x.wt_eq;omega
 |succ k ih=>
  intro x hk hb;have hnm:=jM x.name (by have:=x.wt_eq;omega);refine tb λQ hq=>qJ _ _ _ ?_
  unfold ju
  repeat' (first|refine st ?_|(refine pf 140 ?_;refine pm (J7 _) ?_)|(refine pf 60 ?_;refine pm (hnm) ?_)|refine sb λnb_ hnb_=>?_|refine s2 (λh=>?_) λh=>?_|fail)
  all_goals first|exact hq _ _|skip
  all_goals
   refine me x.l.length (λi=>[.pptr [x.row] 0 0,.W9 i]) (by have:=x.len;omega) rfl (λi h1 hd hi nx hn=>?_) (λi h1 hd nx=>?_)
   all_goals unfold iH
   ·have hx:=De h1;have hc:=ih x.l[i] (by have:=x.kid h1;omega) W4
    repeat' (first|refine st ?_|(refine pf 123 ?_;refine pm (hc) ?_)|refine sb λnb_ hnb_=>?_|refine s2 (λh=>?_) λh=>?_|fail)
    all_goals first|exact hq _ _|exact hn
   ·repeat' (first|refine st ?_|refine sb λnb_ hnb_=>?_|refine s2 (λh=>?_) λh=>?_|fail)
    all_goals exact hq _ _
theorem P1(x:au):TB 124 [.agg x.row]:=by
 refine tb λQ hq=>Dx _ _ _ ?_
 unfold si
 repeat' (first|refine st ?_|refine sb λnb_ hnb_=>?_|refine s2 (λh=>?_) λh=>?_|fail)
 all_goals exact hq _ _
theorem J8(l:List ab)(hl:l.length<2^40)(h:∀i (hi:i<l.length),TB 99 [.agg l[i].row]):TB 61 [.lst (l.map ab.enc)]:=by
 refine tb λQ hq=>pO _ _ _ ?_
 unfold iI;refine me l.length (λi=>[.lst (l.map ab.enc),.W9 i]) W4 rfl (λi h1 hd hi nx hn=>?_) (λi h1 hd nx=>?_)
 all_goals unfold hZ
 ·have hx:=FE h1;have hc:=h i h1
  repeat' (first|refine st ?_|(refine pf 99 ?_;refine pm (hc) ?_)|refine sb λnb_ hnb_=>?_|refine s2 (λh=>?_) λh=>?_|fail)
  all_goals first|exact hq _ _|exact hn
 ·repeat' (first|refine st ?_|refine sb λnb_ hnb_=>?_|refine s2 (λh=>?_) λh=>?_|fail)
  exact hq _ _
section
variable {op line:Int} {name arg:bj} {index:List au} {e:au} {body els:List ab} {Q:R} (hq:∀(n:Bool) K,Q (.bool n) K)
 (c1:TB 61 [.lst (body.map ab.enc)]) (c2:TB 61 [.lst (els.map ab.enc)]) (c3:TB 123 [.agg [.W9 e.op,.W9 e.n,.str e.name,.lst (e.l.map au.enc)]]) (c4:TB 124 [.agg [.W9 e.op,.W9 e.n,.str e.name,.lst (e.l.map au.enc)]])
 (c7:∀i∈index,TB 123 [.agg i.row]) (c5:TB 60 [.str arg]) (c6:TB 60 [.str name])
include hq c1 c2
theorem Ur:ff Q [] (Up op line name arg index e body els):=by
 unfold ff
 repeat' (first|refine st ?_|(refine pf 61 ?_;refine pm (c1) ?_)|(refine pf 61 ?_;refine pm (c2) ?_)|refine sb λnb_ hnb_=>?_|refine s2 (λh=>?_) λh=>?_|fail)
 all_goals exact hq _ _
include c3 c4
theorem Us:fg Q [] (Up op line name arg index e body els):=by
 unfold fg
 repeat' (first|with_reducible exact Ur hq c1 c2|refine st ?_|(refine pf 123 ?_;refine pm (c3) ?_)|(refine pf 124 ?_;refine pm (c4) ?_)|refine sb λnb_ hnb_=>?_|refine s2 (λh=>?_) λh=>?_|fail)
 all_goals exact hq _ _
include c7
theorem Ut:fh Q [] (Up op line name arg index e body els):=by
 have z1:=λ(_:True)=>Us (op:=op) (line:=line) (name:=name) (arg:=arg) (index:=index) hq c1 c2 c3 c4;clear c1 c2 c3 c4;unfold fh;by_cases hn:index.length=1
 ·obtain⟨i,rfl⟩:=List.length_eq_one_iff.1 hn;have h1:=c7 i (.head _);unfold au.row at h1;have hx0:=De (l:=[i]) (i:=0) W7
  repeat' (first|with_reducible exact z1 trivial|refine st ?_|(refine pf 123 ?_;refine pm (h1) ?_)|refine sb λnb_ hnb_=>?_|refine s2 (λh=>?_) λh=>?_|fail)
  all_goals exact hq _ _
 ·have d1:decide ((index.length:Int)=1)=false:=by simpa using(by omega:¬(index.length:Int)=1)
  repeat' (first|with_reducible exact z1 trivial|refine st ?_|refine sb λnb_ hnb_=>?_|refine s2 (λh=>?_) λh=>?_|fail)
  all_goals exact hq _ _
include c5
theorem Uu:fi Q [] (Up op line name arg index e body els):=by
 have z2:=λ(_:True)=>Ut (op:=op) (line:=line) (name:=name) (arg:=arg) hq c1 c2 c3 c4 c7;clear c1 c2 c3 c4 c7;unfold fi
 repeat' (first|with_reducible exact z2 trivial|refine st ?_|(refine pf 60 ?_;refine pm (c5) ?_)|refine sb λnb_ hnb_=>?_|refine s2 (λh=>?_) λh=>?_|fail)
 all_goals exact hq _ _
include c6
theorem Uv:fj Q [] (Up op line name arg index e body els):=by
 have z3:=λ(_:True)=>Uu (op:=op) (line:=line) (name:=name) hq c1 c2 c3 c4 c7 c5;clear c1 c2 c3 c4 c7 c5;unfold fj
 repeat' (first|with_reducible exact z3 trivial|refine st ?_|(refine pf 60 ?_;refine pm (c6) ?_)|refine sb λnb_ hnb_=>?_|refine s2 (λh=>?_) λh=>?_|fail)
 all_goals exact hq _ _
end
theorem Uw:∀(k:Nat) (x:ab),x.wt≤k→k<2^40→TB 99 [.agg x.row]:=by
 intro k
 induction k with
 |zero=>intro x h;have:=x.wt_eq;omega
 |succ k ih=>
  intro x hk hb;have hw:=x.wt_eq;have l1:=ab.wts_len x.body;have l2:=ab.wts_len x.els;have c1:=J8 x.body W4 λi hi=>ih _ (by have:=ab.wts_get _ i hi;omega) W4
  have c2:=J8 x.els W4 λi hi=>ih _ (by have:=ab.wts_get _ i hi;omega) W4
  have c7:∀i∈x.index,TB 123 [.agg i.row]:=λi hi=>by obtain⟨j,hj,rfl⟩:=Wq hi;exact Oq _ _ (Vo _) (by have:=au.wts_get x.index j hj;omega)
  refine tb λQ hq=>qL _ _ _ ?_
  have z4:=λ(_:True)=>Uv (op:=x.op) (line:=x.line) hq c1 c2 (Oq _ x.expr (Vo _) W4) (P1 x.expr) c7 (jM x.arg W4) (jM x.name W4);clear c1 c2 c7 ih hk hw l1 l2 hb;unfold jv ab.row
  repeat' (first|with_reducible exact z4 trivial|refine st ?_|refine sb λnb_ hnb_=>?_|refine s2 (λh=>?_) λh=>?_|fail)
  all_goals exact hq _ _
theorem Ot(d:aH)(hw:d.wt<2^40):TB 59 [.agg d.enc]:=by
 have h1:=jM d.name (by unfold aH.wt at hw;omega);have h2:=jM d.on (by unfold aH.wt at hw;omega);refine tb λQ hq=>qM _ _ _ ?_
 have z0:True→fk Q [] (.pptr [d.enc] 0 0):=by
  intro _;unfold fk
  repeat' (first|refine st ?_|refine sb λnb_ hnb_=>?_|refine s2 (λh=>?_) λh=>?_|fail)
  all_goals exact hq _ _
 have z1:True→fm Q [] (.pptr [d.enc] 0 0):=by
  intro _;unfold fm
  repeat' (first|with_reducible exact z0 trivial|refine st ?_|(refine pf 60 ?_;refine pm (h2) ?_)|refine sb λnb_ hnb_=>?_|refine s2 (λh=>?_) λh=>?_|fail)
  all_goals exact hq _ _
 unfold jw
 repeat' (first|with_reducible exact z1 trivial|refine st ?_|(refine pf 60 ?_;refine pm (h1) ?_)|refine sb λnb_ hnb_=>?_|refine s2 (λh=>?_) λh=>?_|fail)
 all_goals exact hq _ _
theorem Ou(p:bO)(hw:p.wt<2^40):TB 37 [.agg p.enc]:=by
 have hl1:=p.decls_len;have hl2:=p.threads_len;refine tb λQ hq=>BY _ _ _ ?_
 unfold pP
 repeat' (first|refine st ?_|refine sb λnb_ hnb_=>?_|refine s2 (λh=>?_) λh=>?_|fail)
 refine me p.decls.length (λi=>[.pptr [p.enc] 0 0,.W9 i]) W4 rfl (λi h1 hd hi nx hn=>?_) (λi h1 hd nx=>?_)
 all_goals unfold nK
 ·have hx:=az (f:=aH.enc) h1;have hc:=Ot p.decls[i] (by have:=p.decl_wt h1;omega)
  repeat' (first|refine st ?_|(refine pf 59 ?_;refine pm (hc) ?_)|refine sb λnb_ hnb_=>?_|refine s2 (λh=>?_) λh=>?_|fail)
  all_goals first|exact hq _ _|exact hn
 ·repeat' (first|refine st ?_|refine sb λnb_ hnb_=>?_|refine s2 (λh=>?_) λh=>?_|fail)
  refine me p.threads.length (λi=>[.pptr [p.enc] 0 0,.W9 i]) W4 rfl (λi h1 hd hi nx hn=>?_) (λi h1 hd nx=>?_)
  all_goals unfold nJ
  ·have hx:=az (f:=aj.enc) h1;have hwt:=p.thread_wt h1;have hloc:=λj (hj:j<(p.threads[i]).locals.length)=>(p.threads[i]).local_len hj
   have hwe:(p.threads[i]).wt=1+(p.threads[i]).name.length+(p.threads[i]).locals.length+((p.threads[i]).locals.map List.length).sum+ab.wts (p.threads[i]).body:=rfl;have hnm:=jM (p.threads[i]).name W4;have hbd:=J8 (p.threads[i]).body (by have:=ab.wts_len (p.threads[i]).body;omega) λj hj=>Uw _ _ (Vo _) (by have:=ab.wts_get _ j hj;omega)
   generalize p.threads[i]=t at *
   repeat' (first|refine st ?_|refine sb λnb_ hnb_=>?_|refine s2 (λh=>?_) λh=>?_|fail)
   refine me t.locals.length (λj=>[.pptr [p.enc] 0 0,.W9 i,.pptr [t.enc] 0 0,.W9 j]) W4 rfl (λj h1 hd hi2 nx2 hn2=>?_) (λj h1 hd nx2=>?_)
   all_goals unfold nI
   ·have hx2:=az (f:=aw) h1;have hc:=jM t.locals[j] (by have:=hloc j h1;omega)
    repeat' (first|refine st ?_|(refine pf 60 ?_;refine pm (hc) ?_)|refine sb λnb_ hnb_=>?_|refine s2 (λh=>?_) λh=>?_|fail)
    all_goals first|exact hq _ _|exact hn2
   ·repeat' (first|refine st ?_|(refine pf 60 ?_;refine pm (hnm) ?_)|(refine pf 61 ?_;refine pm (hbd) ?_)|refine sb λnb_ hnb_=>?_|refine s2 (λh=>?_) λh=>?_|fail)
    all_goals first|exact hq _ _|exact hn
  ·repeat' (first|refine st ?_|refine sb λnb_ hnb_=>?_|refine s2 (λh=>?_) λh=>?_|fail)
   exact hq _ _
end
section
set_option maxRecDepth 100000
def D8(Q:R)(c:Kn)(a:SH)(b d e f g h i j:AV):Prop:=eE 6 0 b d a λk=>wb .neq 3 k (.W9 3) λl=>wk l ((true=true)∧(aO 1 e [] 1 a λm o=>Q (.tup [(.W9 6),m]) a)) (wb .add 3 f (.W9 1) λn=>c [b,g,h,i,j,n] a)
def D9(Q:R)(d:Kn)(e:SH)(b f g h i j k c:AV)(a:SH)(l:Ns):Prop:=wn [] l [] e.names λo=>wb .lss 3 c (.W9 0) λm=>wk m ((true=true)∧(aO 1 b [] 1 a λn p=>Q (.tup [(.W9 5),n]) a)) ((D8 Q d a f c b g h i j k))
def Ea(Q:R)(e:Kn)(a:SH)(b c d f g h i:AV):Prop:=(true=true)∧(W.calm [] ⟨2,(dT b),[],[],false,[]⟩ (W.slice 6 b none (some c) none a λj=>wn (dT b) [] [] [] λk=>aO 5 d [rm 2 k] 4 a λl m=>wd [] 5 (.fn 62 []) [j,l] a (D9 Q e a d b c f g h i)))
def Eb(Q:R)(b:Kn)(a:SH)(c d e f g h i:AV):Prop:=aC 0 c a λj=>wb .eql 3 j (.W9 5) λk=>wk k ((Ea Q b a d e c f g h i)) (wb .add 3 e (.W9 1) λl=>b [d,f,g,h,i,l] a)
def jN(Q:R)(j:Kn)(k:Vs)(l:SH):Prop:=Mw 0 4 5 6 7 8 9 k λm e f g h n i=>wb .gtr 3 e (.W9 12) λa=>bH a false f l λo p=>wg a false (wb .gtr 3 o (.W9 4)) p λq r=>W.pick a (.bool true) q λb=>bH b false g r λs t=>wg b false (wb .gtr 3 s (.W9 2)) t λu v=>W.pick b (.bool true) u λc=>bH c false h v λw x=>wg c false (wb .gtr 3 w (.W9 2)) x λy d=>W.pick c (.bool true) y λz=>wk z ((true=true)∧(aO 1 i [] 1 d λA B=>Q (.tup [(.W9 2),A]) d)) ((Eb Q j d i m n e f g h))
def Ec(a:Kn)(b:SH)(j c d e f g h i:AV):Prop:=wb .eql 3 j (.W9 5) λk=>wk k (wb .add 3 c (.W9 1) λl=>a [d,e,f,l,g,h,i] b) (wb .add 3 g (.W9 1) λm=>a [d,e,f,c,m,h,i] b)
def Ed(a:Kn)(j:Vs)(b:SH):Prop:=No 0 4 5 6 7 8 9 36 47 j λc d e f g h i k l=>wk l (wb .add 3 e (.W9 1) λm=>a [c,d,m,f,g,h,i] b) ((Ec a b k f c d e g h i))
def Ee(l:Kn)(b:SH)(a c d e f g h i:AV):Prop:=W.join (Ed l) λj=>wb .eql 3 a (.W9 3) λk=>wk k (j [c,d,e,f,g,h,i,a,k] b) (wb .eql 3 a (.W9 4) λm=>j [c,d,e,f,g,h,i,a,m] b)
def Ef(c:Kn)(j:Vs)(a:SH):Prop:=No 0 4 5 6 7 8 9 36 39 j λd e f g h i b k l=>wk l (aC 3 b a λm=>W.mnx true m (.W9 1) λn=>wb .add 3 e n λo=>c [d,o,f,g,h,i,b] a) ((Ee c a k d e f g h i b))
def Eg(Q:R)(l:Kn)(b:SH)(c d e f g h i:AV):Prop:=W.join (jN Q l) λm=>aC 0 c b λa=>W.join (Ef m) λj=>wb .eql 3 a (.W9 1) λk=>wk k (j [d,e,f,g,h,i,c,a,k] b) (wb .eql 3 a (.W9 2) λn=>j [d,e,f,g,h,i,c,a,n] b)
def Eh(Q:R)(c:Kn)(a:SH)(b d e f g h i:AV):Prop:=aC 3 b a λj=>wb .gtr 3 j (.W9 4) λk=>wk k ((true=true)∧(aO 1 b [] 1 a λl m=>Q (.tup [(.W9 2),l]) a)) ((Eg Q c a b d e f g h i))
def Ei(Q:R)(c:Kn)(d:SH)(b e f g h i j k:AV)(a:SH)(l:Ns):Prop:=wn [] l [] d.names λo=>wb .geq 3 k (.W9 0) λm=>wk m ((true=true)∧(aO 1 b [] 1 a λn p=>Q (.tup [(.W9 4),n]) a)) ((Eh Q c a b e f g h i j))
def Ej(Q:R)(f:Kn)(d:SH)(a c g h i j:AV):Prop:=lE 6 a c d λk=>qn [(.W9 0),(.W9 0),(.str []),(.W9 0),(.W9 0),(.str [])] 6 k d λe b=>(true=true)∧(W.calm [] ⟨2,(dT a),[],[],false,[]⟩ (W.slice 6 a none (some c) none b λl=>wn (dT a) [] [] [] λm=>aO 2 e [rm 2 m] 4 b λn o=>wd [] 5 (.fn 62 []) [l,n] b (Ei Q f b e a g h i j c)))
def qb(Q:R)(d:Vs)(a:SH)(e:Kn):Prop:=Hf 0 4 5 6 7 8 d λb f g h i c=>W.len b λj=>wb .lss 3 c j λk=>wk k ((Ej Q e a b c f g h i)) (Q (.tup [(.W9 0),(.W9 0)]) a)
def sB(a:AV)(L:SH)(Q:R):Prop:=W.loop (qb Q) [a,(.W9 0),(.W9 0),(.W9 0),(.W9 0),(.W9 0)] L
theorem Ek(t0:AV)(L:SH)(Q:R)(h:sB t0 L Q):ai Tryz.prog 38 [t0] L Q:=
 fs [(11,[0,4,5,6,7,8,9]),(13,[0,4,5,6,7,8,9,36,39]),(16,[0,4,5,6,7,8,9,36,47])] [(3,[0,4,5,6,7,8])] [(5,[9])] [(6,[0,0,3,0,8,31,63]),(7,[0,1,0,7]),(9,[0,1,0,7]),(21,[0,1,0,7]),(23,[0,0,3,0,8,31,63]),(25,[0,1,0,7]),(27,[0,1,0,7])] Tryz.func38 h
def Ah(Q:R)(o:Kn)(p:SH)(h i j q:AV)(k:SH)(r:Ns):Prop:=wn [] r [] p.names λa4=>wb .geq 3 q (.W9 0) λa=>W.dgrd a false (λs=>W.faddr 1 h λt=>s t k rz) k λu b a5=>W.dgrd a false (λv=>dl [] 8 u b λw x=>v w b x) b λc l y=>W.dgrd a false (λz=>z i l rz) l λA d a6=>W.dgrd a false (λB=>W.calm [] ⟨10,(dT c),[],[],false,[]⟩ (W.slice 4 c none (some A) none d λC=>wn (dT c) [] [] [] λD=>B C d D)) d λE m F=>W.dgrd a false (λG=>W.faddr 0 j λH=>G H m rz) m λI e a7=>W.dgrd a false (λJ=>dl [rm 10 F,rm 8 y] 12 I e λM N=>J M e N) e λO f a8=>W.dgrd a false (λP=>wd [] 13 (.fn 63 []) [E,O] f λS T U=>wn [] U [] f.names λV=>P S T V) f λX n a9=>W.dgrd a false (λY=>wb .geq 3 X (.W9 0) λZ=>Y Z n rz) n λa0 g b0=>W.pick a (.bool true) a0 λa1=>wk a1 ((true=true)∧(aO 1 j [] 1 g λa2 b1=>Q (.tup [(.W9 4),a2]) g)) (wb .add 3 i (.W9 1) λa3=>o [h,a3] g)
def Ai(Q:R)(f:Kn)(b:SH)(c d:AV):Prop:=aC 1 c b λg=>lE 4 g d b λh=>qn [(.str []),(.W9 0),.nils,.nils] 4 h b λe a=>(true=true)∧(aO 0 c [] 1 a λi j=>aO 0 e [rm 1 j] 3 a λk l=>wd [] 4 (.fn 62 []) [i,k] a (Ah Q f a c d e))
def Aj(Q:R)(m:Kn)(e f c g n o:AV)(p:SH):Prop:=wb .geq 3 o (.W9 0) λb=>wg b false (W.faddr 1 e) p λq h=>wg b false (wl q h) h λr s=>bH b false f s λt i=>W.grd b false (λu=>wc (.fn 63 []) [r,t] i λv w=>u v w) i λx y=>wg b false (wb .geq 3 x (.W9 0)) y λz A=>W.pick b (.bool true) z λa=>wg a false (W.faddr 2 c) A λB j=>wg a false (wl B j) j λC D=>bH a false g D λE k=>wg a false (W.slice 1 C none (some E) none k) k λF G=>bH a false f G λH l=>W.grd a false (λI=>wc (.fn 64 []) [F,H] l λJ M=>I J M) l λN O=>wg a false (wb .geq 3 N (.W9 0)) O λP d=>W.pick a (.bool true) P λS=>wk S ((true=true)∧(aO 1 c [] 1 d λT V=>Q (.tup [(.W9 4),T]) d)) (wb .add 3 g (.W9 1) λU=>m [e,n,c,U] d)
def Ak(Q:R)(f:Kn)(a:SH)(b c d g:AV):Prop:=aC 2 b a λh=>wx 1 h c a λe=>aC 0 d a λi=>wc (.fn 62 []) [i,e] a (Aj Q f d e b c g)
def mf(Q:R)(f:Kn)(g:Vs)(a:SH)(h:Kn):Prop:=yO 1 6 7 8 g λb c d e=>aC 2 d a λi=>W.len i λj=>wb .lss 3 e j λk=>wk k ((Ak Q h a d e b c)) (wb .add 3 c (.W9 1) λl=>f [b,l] a)
def Al(Q:R)(f:Kn)(b:SH)(d e:AV):Prop:=aC 1 d b λg=>lE 4 g e b λh=>qn [(.str []),(.W9 0),.nils,.nils] 4 h b λc a=>aC 2 c a λi=>W.len i λj=>wb .gtr 3 j (.W9 4) λk=>wk k ((true=true)∧(aO 1 c [] 1 a λl m=>Q (.tup [(.W9 2),l]) a)) (W.loop (mf Q f) [d,e,c,(.W9 0)] a)
def mg(Q:R)(d:Vs)(a:SH)(e:Kn):Prop:=Pv 1 6 d λb c=>aC 1 b a λf=>W.len f λg=>wb .lss 3 c g λh=>wk h ((Al Q e a b c)) (Q (.tup [(.W9 0),(.W9 0)]) a)
def mh(Q:R)(d:Vs)(a:SH)(e:Kn):Prop:=Pv 1 4 d λb c=>aC 1 b a λf=>W.len f λg=>wb .lss 3 c g λh=>wk h ((Ai Q e a b c)) (W.loop (mg Q) [b,(.W9 0)] a)
def nT(a:AV)(L:SH)(Q:R):Prop:=sf a L λb c=>W.loop (mh Q) [b,(.W9 0)] c
theorem An(t0:AV)(L:SH)(Q:R)(h:nT t0 L Q):ai Tryz.prog 39 [t0] L Q:=
 fs [] [(2,[1,4]),(14,[1,6,7,8]),(8,[1,6])] [(0,[1]),(4,[5]),(10,[7])] [(5,[0,1,0,4,15,31,63,127,255,127,1023,127,2175,8191,16383,32767]),(6,[0,1,0,7]),(12,[0,1,0,7]),(18,[0,1,0,7])] Tryz.func39 h
def Ao(a:Kn)(b c d e:AV)(f:SH):Prop:=wb .add 3 b e λg=>wb .add 3 c (.W9 1) λh=>a [d,g,h] f
def Ap(Q:R)(d:Kn)(e f g a:AV)(b:SH):Prop:=W.ext 0 a λc=>W.ext 1 a λh=>wb .neq 59 c (.W9 0) λi=>wk i (Q (.tup [c,h]) b) (wb .add 3 e (.W9 1) λj=>d [f,g,j] b)
def Aq(Q:R)(e:Kn)(f:SH)(a b d:AV):Prop:=W.nilchk a λg=>W.faddr 2 g λh=>W.store 1 h b f λc=>aC 1 d c λi=>eE 4 3 i b c λj=>wc (.fn 41 []) [a,j] c (Ap Q e b d a)
def mi(Q:R)(d:Vs)(a:SH)(e:Kn):Prop:=vO 1 10 11 d λb f c=>aC 1 b a λg=>W.len g λh=>wb .lss 3 c h λi=>wk i ((Aq Q e a f c b)) (Q (.tup [(.W9 0),(.W9 0)]) a)
def Ar(Q:R)(a:SH)(b:AV):Prop:=ca 2 b a λc=>W.build [.nils,.nils,(.W9 0),.nils,.nils,.nils] [(0,2,c)] λd=>W.box d a λe f=>W.loop (mi Q) [b,e,(.W9 0)] f
def mj(Q:R)(e:Vs)(a:SH)(f:Kn):Prop:=vO 1 8 9 e λb d c=>aC 1 b a λg=>W.len g λh=>wb .lss 3 c h λi=>wk i (aC 1 b a λj=>eE 4 3 j c a λk=>wc (.fn 40 []) [k] a (Ao f d c b)) (wb .gtr 3 d (.W9 60) λl=>wk l (Q (.tup [(.W9 2),(.W9 0)]) a) ((Ar Q a b)))
def As(Q:R)(d a:AV)(b:SH):Prop:=W.ext 0 a λc=>W.ext 1 a λe=>wb .neq 59 c (.W9 0) λf=>wk f (Q (.tup [c,e]) b) (W.loop (mj Q) [d,(.W9 0),(.W9 0)] b)
def At(Q:R)(a:SH)(b:AV):Prop:=aC 1 b a λc=>W.len c λd=>wb .gtr 3 d (.W9 4) λe=>wk e (Q (.tup [(.W9 2),(.W9 0)]) a) (ca 2 b a λf=>wc (.fn 39 []) [f] a (As Q b))
def Au(Q:R)(d a:AV)(b:SH):Prop:=W.ext 0 a λc=>W.ext 1 a λe=>wb .neq 59 c (.W9 0) λf=>wk f (Q (.tup [c,e]) b) ((At Q b d))
def Av(Q:R)(b c:AV)(a:SH):Prop:=W.un .not c λd=>wk d (Q (.tup [(.W9 3),(.W9 0)]) a) (aC 0 b a λe=>wc (.fn 38 []) [e] a (Au Q b))
def nU(c:AV)(L:SH)(Q:R):Prop:=sf c L λa b=>ca 2 a b λd=>wc (.fn 37 []) [d] b (Av Q a)
theorem Aw(t0:AV)(L:SH)(Q:R)(h:nU t0 L Q):ai Tryz.prog 17 [t0] L Q:=
 fs [] [(13,[1,8,9]),(20,[1,10,11])] [(0,[1])] [] Tryz.func17 h
def qc(Q:R)(o:Kn)(d:SH)(g h i j e:AV):Prop:=dP 3 g d λp=>lE 11 p h d λq=>qn [(.W9 0),(.W9 0),(.str []),(.str []),.nils,(.W9 0),(.W9 0),(.str []),.nils,.nils,.nils] 11 q d λf k=>aC 0 f k λr=>wb .eql 3 r i λa=>wg a false (W.faddr 0 f) k λs l=>wg a false (wl s l) l λt u=>bH a false j u λv w=>wg a false (wb .eql 3 t v) w λx y=>W.pick a (.bool true) x λb=>bH b true e y λz A=>wg b true (wb .eql 9 z (.str [])) A λB C=>bH b true B C λc D=>wg c false (W.faddr 2 f) D λE m=>wg c false (wl E m) m λF G=>bH c false e G λH I=>wg c false (wb .eql 9 F H) I λJ M=>wg b true (W.pick c (.bool true) J) M λN n=>W.pick b N (.bool false) λO=>wk O (Q (.bool true) n) (wb .add 3 h (.W9 1) λP=>o [g,i,j,e,P] n)
def eK(Q:R)(d:Vs)(a:SH)(e:Kn):Prop:=He 0 1 2 3 9 d λb f g h c=>dP 3 b a λi=>W.len i λj=>wb .lss 3 c j λk=>wk k ((qc Q e a b c f g h)) (Q (.bool false) a)
def iK(a b c d:AV)(L:SH)(Q:R):Prop:=W.loop (eK Q) [a,b,c,d,(.W9 0)] L
theorem qd(t0 t1 t2 t3:AV)(L:SH)(Q:R)(h:iK t0 t1 t2 t3 L Q):ai Tryz.prog 100 [t0,t1,t2,t3] L Q:=
 fs [] [(2,[0,1,2,3,9])] [(4,[10])] [] Tryz.func100 h
def xN(Q:R)(a:SH)(b:AV)(c:SH)(d:Ns):Prop:=wn [] d [] a.names λe=>Q b c
def xO(Q:R)(b:SH)(c d:AV)(a:SH)(e:Ns):Prop:=wn [] e [] b.names λf=>wd [] 13 (.fn 101 []) [c,d] a (xN Q a)
def xP(Q:R)(b:SH)(c d e:AV)(a:SH)(f:Ns):Prop:=wn [] f [] b.names λg=>wd [] 12 (.fn 101 []) [c,e] a (xO Q a d)
def xQ(Q:R)(b:SH)(c d e:AV)(a:SH)(f:Ns):Prop:=wn [] f [] b.names λg=>wd [] 11 (.fn 104 []) [c] a (xP Q a e d)
def xR(Q:R)(e:SH)(f g h i:AV)(b c:Fp)(j:AV)(a:SH)(k:Ns):Prop:=wn [] k [] e.names λd=>dr [rc 4 d,rm 3 b,rm 0 c] 5 2 f a λl m=>aO 3 g [rm 5 m,rc 4 d,rm 3 b,rm 0 c] 8 a λn o=>wd [] 9 (.fn 102 []) [l,h,n,(.W9 6),(.W9 6)] a (xQ Q a i j)
def xS(Q:R)(f:Vs)(a:SH):Prop:=He 3 4 5 6 7 f λb k c d g=>(true=true)∧(dr [] 0 2 c a λh e=>aO 2 b [rm 0 e] 3 a λi j=>wd [] 4 (.fn 102 []) [h,d,i,(.W9 8),(.W9 8)] a (xR Q a c b d g j e))
def xT(Q:R)(a:SH)(b:AV)(c:SH)(d:Ns):Prop:=wn [] d [] a.names λe=>Q b c
def xU(Q:R)(b:SH)(c d:AV)(a:SH)(e:Ns):Prop:=wn [] e [] b.names λf=>wd [] 10 (.fn 101 []) [c,d] a (xT Q a)
def xV(Q:R)(e:SH)(f g h:AV)(b c:Fp)(i:AV)(a:SH)(j:Ns):Prop:=wn [] j [] e.names λd=>dr [rc 4 d,rm 3 b,rm 0 c] 5 2 f a λk l=>W.faddr 5 g λm=>dr [rm 5 l,rc 4 d,rm 3 b,rm 0 c] 8 4 m a λn o=>wd [] 9 (.fn 103 []) [k,h,n] a (xU Q a i)
def xW(Q:R)(a:SH)(b c d:AV):Prop:=(true=true)∧(dr [] 0 2 b a λf e=>aO 2 c [rm 0 e] 3 a λg h=>wd [] 4 (.fn 102 []) [f,d,g,(.W9 8),(.W9 1)] a (xV Q a b c d h e))
def xX(Q:R)(a:SH)(b:AV)(c:SH)(d:Ns):Prop:=wn [] d [] a.names λe=>Q b c
def tD(Q:R)(b:SH)(c d:AV)(a:SH)(e:Ns):Prop:=wn [] e [] b.names λf=>wd [] 18 (.fn 101 []) [c,d] a (xX Q a)
def tE(Q:R)(b:SH)(c d e:AV)(a:SH)(f:Ns):Prop:=wn [] f [] b.names λg=>wd [] 17 (.fn 101 []) [c,e] a (tD Q a d)
def tF(Q:R)(j:SH)(k l m n:AV)(b c d e f g h:Fp)(o:AV)(a:SH)(p:Ns):Prop:=wn [] p [] j.names λi=>dr [rc 11 i,rm 10 b,rm 9 c,rm 8 d,rm 5 e,rc 4 f,rm 3 g,rm 0 h] 12 2 k a λq r=>W.faddr 5 l λs=>dr [rm 12 r,rc 11 i,rm 10 b,rm 9 c,rm 8 d,rm 5 e,rc 4 f,rm 3 g,rm 0 h] 15 4 s a λt u=>wd [] 16 (.fn 103 []) [q,m,t] a (tE Q a o n)
def tG(Q:R)(i:SH)(f g h:AV)(b c:Fp)(j:AV)(a:SH)(k:Ns):Prop:=wn [] k [] i.names λd=>dr [rc 4 d,rm 3 b,rm 0 c] 5 2 f a λl e=>aO 4 g [rm 5 e,rc 4 d,rm 3 b,rm 0 c] 8 a λm n=>di [rm 5 e,rc 4 d,rm 3 b,rm 0 c] 9 4 m (.W9 0) a λo p=>dr [rm 5 e,rc 4 d,rm 3 b,rm 0 c] 10 4 o a λq r=>wd [] 11 (.fn 103 []) [l,h,q] a (tF Q a f g h j r p n e d b c)
def xY(Q:R)(a:SH)(b c d:AV):Prop:=(true=true)∧(dr [] 0 2 b a λf e=>aO 2 c [rm 0 e] 3 a λg h=>wd [] 4 (.fn 102 []) [f,d,g,(.W9 2),(.W9 2)] a (tG Q a b c d h e))
def xZ(Q:R)(a:SH)(b c d:AV):Prop:=aC 4 b a λe=>W.len e λf=>wb .eql 3 f (.W9 0) λg=>wk g ((xW Q a c b d)) ((xY Q a c b d))
def tH(Q:R)(a b:AV)(c:SH):Prop:=wc (.fn 101 []) [a,b] c λd e=>Q d e
def tI(Q:R)(a d e f:AV)(g:SH):Prop:=bH a false d g λh i=>wg a false (W.faddr 2 e) i λj b=>wg a false (wl j b) b λk c=>W.grd a false (λl=>wc (.fn 100 []) [h,(.W9 4),(.W9 4),k] c λm n=>l m n) c λo p=>W.pick a (.bool true) o λq=>wc (.fn 104 []) [q] p (tH Q f)
def x7(Q:R)(a:SH)(c b d e f:AV):Prop:=ca 2 c a λg=>aC 2 b a λh=>wc (.fn 102 []) [g,d,h,(.W9 3),(.W9 3)] a (tI Q e f b)
def tJ(Q:R)(a b:AV)(c:SH):Prop:=wc (.fn 101 []) [a,b] c λd e=>Q d e
def tK(Q:R)(a d e f:AV)(g:SH):Prop:=bH a false d g λh i=>wg a false (W.faddr 2 e) i λj b=>wg a false (wl j b) b λk c=>W.grd a false (λl=>wc (.fn 100 []) [h,(.W9 5),(.W9 6),k] c λm n=>l m n) c λo p=>W.pick a (.bool true) o λq=>wc (.fn 104 []) [q] p (tJ Q f)
def x9(Q:R)(a:SH)(c b d e f:AV):Prop:=ca 2 c a λg=>aC 2 b a λh=>wc (.fn 102 []) [g,d,h,(.W9 4),(.W9 4)] a (tK Q e f b)
def tL(Q:R)(e:SH)(b f g h:AV)(i:SH)(j:Ns):Prop:=wn [] j [] e.names λB=>bH b false h i λk l=>wg b false (W.un .not k) l λm n=>W.pick b (.bool true) m λa=>wg a false (W.faddr 0 f) n λo c=>wg a false (wl o c) c λp q=>wg a false (wb .eql 3 p (.W9 9)) q λr s=>bH a false r s λd t=>bH d true g t λu v=>wg a false (W.pick d u (.bool false)) v λw x=>W.pick a (.bool true) w λy=>wc (.fn 104 []) [y] x λz A=>Q z A
def tM(Q:R)(b:SH)(c d e f g h:AV)(a:SH)(i:Ns):Prop:=wn [] i [] b.names λl=>di [] 8 6 c h a λj m=>aO 5 j [] 10 a λk n=>wd [] 11 (.fn 100 []) [d,(.W9 4),(.W9 4),k] a (tL Q a e f g)
def ya(Q:R)(a:SH)(c d e f g:AV):Prop:=(true=true)∧(aO 0 c [] 2 a λh b=>aO 0 c [rm 2 b] 4 a λi j=>aO 2 d [rm 4 j,rm 2 b] 6 a λk l=>wd [rm 2 b] 7 (.fn 62 []) [i,k] a (tM Q a h e f d g))
def tN(Q:R)(c d e f g a:AV)(b:SH):Prop:=wb .neq 59 a (.W9 0) λh=>wk h (Q a b) ((ya Q b c d e f g))
def yb(Q:R)(a:SH)(b c d e f g:AV):Prop:=ca 2 b a λh=>aC 2 c a λi=>wc (.fn 102 []) [h,d,i,(.W9 5),(.W9 5)] a (tN Q b c e f g)
def yc(Q:R)(c:SH)(d g:AV):Prop:=(true=true)∧(W.nilchk d λh=>aO 4 h [] 4 c λa e=>aO 2 g [rm 4 e] 6 c λi o=>W.calm [rm 4 e] ⟨7,[],[],[],false,[]⟩ (W.bslice 1 [(.str [])] 1 [(0,i)] c λb j=>wn [] [] (aa b) [] λp=>W.calm [] ⟨8,(aa a++aa b),(aa a),[],false,[]⟩ (W.append 1 16 a b j λf k=>wn (aa a++aa b) (aa a) (aa f) [] λq=>W.nilchk d λl=>W.faddr 4 l λm=>ds [] 11 1 m f k λn r=>Q (.W9 0) n)))
def tO(Q:R)(b:SH)(c d e:AV)(a:SH)(f:Ns):Prop:=wn [] f [] b.names λh=>wb .geq 3 e (.W9 0) λg=>wk g (Q (.W9 8) a) ((yc Q a c d))
def yd(Q:R)(a:SH)(b c:AV):Prop:=(true=true)∧(W.nilchk b λd=>aO 4 d [] 3 a λe f=>aO 2 c [rm 3 f] 5 a λg h=>wd [] 6 (.fn 64 []) [e,g] a (tO Q a b c))
def tP(Q:R)(c g h i j k d:AV)(l:SH):Prop:=bH c false g l λm n=>W.pick c (.bool true) m λe=>bH e false h n λo p=>W.pick e (.bool true) o λa=>bH a false d p λq r=>bH a false i r λs t=>wg a false (wb .eql 3 q s) t λu v=>W.pick a (.bool true) u λb=>bH b false d v λw x=>wg b false (wb .eql 3 w (.W9 0)) x λy f=>W.pick b (.bool true) y λz=>wk z (Q (.W9 7) f) ((yd Q f j k))
def tQ(Q:R)(d b e f g h i c:AV)(a:SH):Prop:=wb .neq 59 c (.W9 0) λj=>wk j (Q c a) (aC 1 d a λk=>aC 2 b a λl=>wc (.fn 63 []) [k,l] a (tP Q e f g h i b))
def ye(Q:R)(a:SH)(b c d e f g h:AV):Prop:=ca 2 b a λi=>aC 2 c a λj=>wc (.fn 102 []) [i,d,j,(.W9 7),(.W9 7)] a (tQ Q b c e f g d h)
def tR(Q:R)(a b:AV)(c:SH):Prop:=wc (.fn 101 []) [a,b] c λd e=>Q d e
def tS(Q:R)(b f g h i j:AV)(k:SH):Prop:=bH b false f k λl m=>W.pick b (.bool true) l λa=>wg a false (W.faddr 1 g) m λn c=>wg a false (wl n c) c λo p=>wg a false (W.faddr 2 h) p λq d=>wg a false (wl q d) d λr e=>W.grd a false (λs=>wc (.fn 63 []) [o,r] e λt u=>s t u) e λv w=>bH a false i w λx y=>wg a false (wb .eql 3 v x) y λz A=>W.pick a (.bool true) z λB=>wc (.fn 104 []) [B] A (tR Q j)
def tT(Q:R)(a:SH)(b c d e f:AV):Prop:=ca 2 b a λg=>aC 2 c a λh=>wc (.fn 102 []) [g,d,h,(.W9 7),(.W9 7)] a (tS Q e f b c d)
def tU(Q:R)(a:Vs)(b:SH):Prop:=He 3 4 5 6 7 a λd c e f g=>Q c b
def tV(a:Kn)(b:Vs)(c d e f:AV)(g:SH):Prop:=a [c,f,d,e,(ax [0,3,5,6,14] b 7)] g
def tW(a:Kn)(b:Vs)(c d e f g:AV)(h:SH):Prop:=wc (.fn 101 []) [c,g] h (tV a b d e f)
def tX(Q:R)(f:Vs)(c:SH):Prop:=He 0 3 5 6 14 f λg d h i l=>(true=true)∧(W.nilchk g λm=>aO 5 m [] 4 c λa j=>aO 2 d [rm 4 j] 6 c λn w=>W.calm [rm 4 j] ⟨7,[],[],[],false,[]⟩ (W.bslice 1 [(.str [])] 1 [(0,n)] c λb o=>wn [] [] (aa b) [] λx=>W.calm [] ⟨8,(aa a++aa b),(aa a),[],false,[]⟩ (W.append 1 16 a b o λk p=>wn (aa a++aa b) (aa a) (aa k) [] λy=>W.nilchk g λq=>W.faddr 5 q λr=>ds [] 11 1 r k p λe z=>W.join (tU Q) λs=>ca 2 h e λt=>W.faddr 5 d λu=>ca 4 u e λv=>wc (.fn 103 []) [t,i,v] e (tW s f l d h i))))
def tY(Q:R)(b c g h i:AV)(j:SH):Prop:=W.join (tX Q) λk=>(true=true)∧(wb .eql 59 i (.W9 0) λa=>W.dgrd a true (λq=>q b j rz) j λr l Z=>W.dgrd a true (λs=>W.nilchk r λt=>s t l rz) l λu m a0=>W.dgrd a true (λv=>W.faddr 5 u λw=>v w m rz) m λx d a1=>W.dgrd a true (λy=>dl [] 6 x d λz A=>y z d A) d λB n C=>W.dgrd a true (λD=>W.faddr 2 c λE=>D E n rz) n λF e a2=>W.dgrd a true (λG=>dl [rm 6 C] 8 F e λH I=>G H e I) e λJ f a3=>W.dgrd a true (λM=>wd [] 9 (.fn 64 []) [B,J] f λN O P=>wn [] P [] f.names λS=>M N O S) f λT o a4=>W.dgrd a true (λU=>wb .geq 3 T (.W9 0) λV=>U V o rz) o λX p a5=>W.pick a X (.bool false) λY=>wk Y (k [b,c,g,h,(.W9 8)] p) (k [b,c,g,h,i] p))
def tZ(Q:R)(a b c d e f:AV)(g:SH):Prop:=wc (.fn 101 []) [a,f] g (tY Q b c d e)
def t6(Q:R)(a b c d e f g:AV)(h:SH):Prop:=bH a false b h λi j=>W.pick a (.bool true) i λk=>wc (.fn 104 []) [k] j (tZ Q g c d e f)
def t7(Q:R)(a:SH)(b c d e f g:AV):Prop:=ca 2 b a λh=>aC 2 c a λi=>wc (.fn 102 []) [h,d,i,(.W9 6),(.W9 6)] a (t6 Q e f g c b d)
def t8(Q:R)(f:Kn)(g:Vs)(a:SH)(h b c d e i j:AV):Prop:=wb .eql 3 h (.W9 14) λk=>wk k ((t7 Q a b c d e i j)) (f [c,(ax [0,3,5,6,7,8,9,30,119] g 4),b,d,e] a)
def ua(Q:R)(g:Kn)(h:Vs)(a:SH)(b c d e f i j k:AV):Prop:=wb .eql 3 b (.W9 13) λl=>wk l ((tT Q a c d e f i)) ((t8 Q g h a b c d e f j k))
def ub(Q:R)(j:Kn)(k:Vs)(a:SH)(b c d e f g h i:AV):Prop:=wb .eql 3 b (.W9 12) λl=>wk l ((ye Q a c d e f g h i)) ((ua Q j k a b c d e f g h i))
def uc(Q:R)(i:Kn)(a:Vs)(b:SH):Prop:=No 0 3 5 6 7 8 9 30 119 a λc d e f g h j k l=>wk l ((yb Q b e d f c g h)) ((ub Q i a b k e d f g h j c))
def ud(b:Kn)(c:SH)(a d e f g h i j:AV):Prop:=wb .eql 3 a (.W9 10) λk=>wk k (b [d,e,f,g,h,i,j,a,k] c) (wb .eql 3 a (.W9 11) λl=>b [d,e,f,g,h,i,j,a,l] c)
def ue(Q:R)(l:Kn)(b:SH)(a c d e f g h i:AV):Prop:=W.join (uc Q l) λj=>wb .eql 3 a (.W9 9) λk=>wk k (j [c,d,e,f,g,h,i,a,k] b) ((ud j b a c d e f g h i))
def uf(Q:R)(e:Kn)(b:SH)(c a d f g h i j:AV):Prop:=wb .eql 3 c (.W9 8) λk=>wk k (bH a false d b λl m=>W.pick a (.bool true) l λn=>wc (.fn 104 []) [n] m λo p=>Q o p) ((ue Q e b c f g h i a d j))
def ug(Q:R)(d:Kn)(a:SH)(b c e f g h i j:AV):Prop:=wb .eql 3 b (.W9 7) λk=>wk k (wc (.fn 104 []) [c] a λl m=>Q l m) ((uf Q d a b c e f g h i j))
def uh(Q:R)(g:Kn)(h:Vs)(a:SH):Prop:=No 0 3 5 6 7 8 9 30 91 h λb c d e f i j k l=>wk l ((x9 Q a d c e f b)) ((ug Q g a k f i b c d e j))
def ui(Q:R)(l:Kn)(b:SH)(a c d e f g h i:AV):Prop:=W.join (uh Q l) λj=>wb .eql 3 a (.W9 5) λk=>wk k (j [c,d,e,f,g,h,i,a,k] b) (wb .eql 3 a (.W9 6) λm=>j [c,d,e,f,g,h,i,a,m] b)
def uj(Q:R)(h:Kn)(a:SH)(b c d e f g i j:AV):Prop:=wb .eql 3 b (.W9 4) λk=>wk k ((x7 Q a c d e f g)) ((ui Q h a b g d c e f i j))
def uk(Q:R)(e:Kn)(f:Vs)(a:SH):Prop:=No 0 3 5 6 7 8 9 30 67 f λg b c d h i j k l=>wk l (ca 2 c a λm=>W.faddr 5 b λn=>ca 4 n a λo=>wc (.fn 103 []) [m,d,o] a λp q=>Q p q) ((uj Q e a k c b d h g i j))
def ul(Q:R)(l:Kn)(b:SH)(c a d e f g h i:AV):Prop:=W.join (uk Q l) λj=>wb .eql 3 a (.W9 2) λk=>wk k (j [c,d,e,f,g,h,i,a,k] b) (wb .eql 3 a (.W9 3) λm=>j [c,d,e,f,g,h,i,a,m] b)
def um(Q:R)(f a c d g h i:AV)(b:SH):Prop:=W.join (xS Q) λj=>aC 0 a b λe=>wb .eql 3 e (.W9 1) λk=>wk k ((xZ Q b a c d)) ((ul Q j b f e a c d g h i))
def uo(Q:R)(a b c d e f:AV)(g:SH):Prop:=wc (.fn 100 []) [a,(.W9 3),(.W9 3),(.str [])] g (um Q a b c d e f)
def uq(Q:R)(a b c d e:AV)(f:SH):Prop:=wc (.fn 100 []) [a,(.W9 8),(.W9 8),(.str [])] f (uo Q a b c d e)
def ml(a f:AV)(L:SH)(Q:R):Prop:=sf f L λg b=>(true=true)∧(W.nilchk a λh=>W.faddr 0 h λi=>dr [] 3 2 i b λj d=>W.nilchk a λk=>aO 2 k [rm 3 d] 7 b λl e=>W.calm [rm 7 e,rm 3 d] ⟨8,[],[],[],false,[]⟩ (W.alloc [.nils,.nils] b λc m=>wn [] [] (aa c) [] λq=>ds [rm 7 e] 9 2 c j m λn r=>W.frz1 c n λo p=>wc (.fn 100 []) [a,(.W9 7),(.W9 7),(.str [])] p (uq Q a g o l)))
theorem yf(t0 t1:AV)(L:SH)(Q:R)(h:ml t0 t1 L Q):ai Tryz.prog 65 [t0,t1] L Q:=
 fs [(48,[3,4,5,6,7]),(11,[0,3,5,6,7,8,9,30,67]),(16,[0,3,5,6,7,8,9,30,91]),(24,[0,3,5,6,7,8,9,30,119]),(46,[0,3,5,6,14])] [] [(0,[3]),(1,[5])] [(1,[0,1,3,7,0,16,48,112,0,271,1023]),(8,[0,0,0,4,15,0,0,0,128,511,1023,2047]),(9,[0,0,0,4,15,0,0,0,128,384,896,2047,0,0,0,16384,65535,131071,262143,524287]),(28,[0,0,2,0,8,0,32,120,254,510,1022,2047,4095]),(37,[0,1,3,7,0,16,63,127]),(39,[0,0,2,6,14,0,32,96,254,511,1023,2047]),(45,[0,1,3,7,15,31,63,7,135,511,1023,2047]),(47,[0,0,2,6,14,0,32,96,254,511,1023,2047]),(49,[0,0,0,4,15,0,0,0,128,511,0,2047,4095,8191,16383])] Tryz.func65 h
def gf(Q:R)(f:Kn)(g:Vs)(a:SH):Prop:=He 0 1 6 8 9 g λb h i d j=>(true=true)∧(W.nilchk b λk=>aO 3 k [] 4 a λc l=>W.nilchk b λm=>aO 3 m [rm 4 l] 8 a λn v=>W.len n λo=>wb .sub 3 o (.W9 1) λp=>W.calm [] ⟨11,(dT c),[],[],false,[]⟩ (W.slice 11 c none (some p) none a λq=>wn (dT c) [] [] [] λw=>W.nilchk b λr=>W.faddr 3 r λs=>ds [] 14 1 s q a λe x=>wb .neq 59 d (.W9 0) λt=>wk t (Q (.tup [d,j]) e) (wb .add 3 i (.W9 1) λu=>f [b,h,u] e)))
def kI(b:Kn)(c d e a:AV)(f:SH):Prop:=W.ext 0 a λg=>W.ext 1 a λh=>b [c,d,e,g,h] f
def gg(Q:R)(h:Kn)(i a c d e:AV)(b:SH):Prop:=W.ext 0 e λf=>W.ext 1 e λj=>W.join (gf Q h) λg=>wb .eql 59 f (.W9 0) λk=>wk k (aC 10 i b λl=>wc (.fn 41 []) [a,l] b (kI g a c d)) (g [a,c,d,f,j] b)
def yg(Q:R)(j:Kn)(d:SH)(b e k l:AV):Prop:=(true=true)∧(W.nilchk b λm=>aO 3 m [] 3 d λa g=>dr [rm 3 g] 4 11 e d λn o=>W.len a λp=>W.calm [rm 4 o,rm 3 g] ⟨6,[],[],[],false,[]⟩ (W.bslice 11 [(.W9 0),(.W9 0),(.str []),(.str []),.nils,(.W9 0),(.W9 0),(.str []),.nils,.nils,.nils] 1 [(0,(.agg [(.W9 0),(.W9 0),(.str []),(.str []),.nils,(.W9 0),(.W9 0),(.str []),.nils,.nils,.nils]))] d λc q=>wn [] [] (aa c) [] λy=>W.calm [] ⟨7,(aa a++aa c),(aa a),[],false,[]⟩ (W.append 11 176 a c q λf h=>wn (aa a++aa c) (aa a) (aa f) [] λz=>di [] 8 11 f p h λr s=>ds [] 9 11 r n h λt u=>W.nilchk b λv=>W.faddr 3 v λw=>ds [rm 9 u,rm 8 s] 12 1 w f t λi A=>aC 9 e i λx=>wc (.fn 41 []) [b,x] i (gg Q j e b k l))))
def gh(Q:R)(d:Kn)(e:Vs)(a:SH):Prop:=He 0 1 6 7 8 e λf g h b c=>wb .neq 59 c (.W9 0) λi=>wk i ((true=true)∧(aO 1 b [] 2 a λj k=>Q (.tup [c,j]) a)) ((yg Q d a f b g h))
def yh(Q:R)(g:Kn)(a c d e h:AV)(b:SH):Prop:=W.join (gh Q g) λf=>dP 3 a b λi=>W.len i λj=>wb .add 3 j (.W9 1) λk=>wb .gtr 3 k (.W9 6) λl=>wk l (f [a,c,d,e,(.W9 2)] b) (f [a,c,d,e,h] b)
def yi(Q:R)(g:Kn)(a:SH)(b c d:AV):Prop:=lE 11 b c a λh=>qn [(.W9 0),(.W9 0),(.str []),(.str []),.nils,(.W9 0),(.W9 0),(.str []),.nils,.nils,.nils] 11 h a λe f=>ca 11 e f λi=>wc (.fn 65 []) [d,i] f (yh Q g d b c e)
def kJ(Q:R)(d:Vs)(a:SH)(e:Kn):Prop:=vO 0 1 6 d λf b c=>W.len b λg=>wb .lss 3 c g λh=>wk h ((yi Q e a b c f)) (Q (.tup [(.W9 0),(.W9 0)]) a)
def mn(a b:AV)(L:SH)(Q:R):Prop:=W.loop (kJ Q) [a,b,(.W9 0)] L
theorem yj(t0 t1:AV)(L:SH)(Q:R)(h:mn t0 t1 L Q):ai Tryz.prog 41 [t0,t1] L Q:=
 fs [(7,[0,1,6,7,8]),(13,[0,1,6,8,9])] [(2,[0,1,6])] [(4,[7])] [(9,[0,0,2,1,15]),(10,[0,1,3,7,0,15,0,127,255,511,255,1279,3327]),(14,[0,0,2,6,14,0,32,96,224,480,992,2046,4095,8191,16383])] Tryz.func41 h
end
end Go.Proofs.YtenbpcngcicamaaGreatDoor.Am
