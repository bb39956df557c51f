/- A part of the proof; the statement is proved in the last part. -/
import Derived.Test.YtdnpdghlggbklaaGreatDoorQep
set_option linter.unusedSimpArgs false
set_option linter.unusedVariables false
namespace Go.Proofs.YtdnpdghlggbklaaGreatDoor.Am
section
set_option maxRecDepth 100000
set_option maxHeartbeats 2000000
theorem ao.pureR(x:ao):aW (.agg x.row):=by rw[←x.enc_row];exact .aggs x.pure
theorem ab.pureR(x:ab):aW (.agg x.row):=by rw[←x.enc_row];exact .aggs x.pure
theorem Ed:∀a∈([]:List AV),aW a:=nofun
theorem ep{x:AV}{l:List AV}(h:aW x)(t:∀a∈l,aW a):∀a∈x::l,aW a:=by simp only[Wg];exact⟨h,t⟩
theorem pv{l:List AV}(h:∀a∈l,aW a:=by repeat first|exact Ed|refine ep ?_ ?_|exact .int _ _|exact .bool _|exact .str _|exact bP.pure _|exact ao.pureR _|exact ab.pureR _|exact .lmap λx _=>x.pure|exact .lmap λx _=>ma x|exact .aggs (aI.pure _)|fail):∀a∈l,aW a:=h
@[irreducible] noncomputable def vI (f:FuncId) (args:List AV):Int:=Classical.epsilon λn=>az Tryz.prog f args (.Xm n)
@[irreducible] noncomputable def vB (f:FuncId) (args:List AV):Bool:=Classical.epsilon λn=>az Tryz.prog f args (.bool n)
@[irreducible] noncomputable def vE (f:FuncId) (args:List AV):Int×Int:=Classical.epsilon λn=>az Tryz.prog f args (.tup [.Xm n.1,.Xm n.2])
abbrev TI(f:FuncId)(args:List AV):Prop:=az Tryz.prog f args (.Xm (vI f args))
abbrev TB(f:FuncId)(args:List AV):Prop:=az Tryz.prog f args (.bool (vB f args))
abbrev TE(f:FuncId)(args:List AV):Prop:=az Tryz.prog f args (.tup [.Xm (vE f args).1,.Xm (vE f args).2])
theorem Vu{G:Int→Prop}{f:FuncId}{args:List AV}(h:∀Q:R,(∀(n:Int) K,G n→Q (.Xm n) K)→af Tryz.prog f args [] Q)(ha:∀a∈args,aW a:=by exact pv):∃n:Int,G n∧az Tryz.prog f args (.Xm n):=by obtain⟨v,K,⟨n,rfl,hg⟩,hp⟩:=(h (λu K=>∃n,u=.Xm n∧G n) λn K hg=>⟨n,rfl,hg⟩).pure ha (by rintro _ _ ⟨n,rfl,_⟩;exact .int _ _);exact⟨n,hg,hp⟩
theorem ti{f:FuncId}{args:List AV}(h:∀Q:R,(∀(n:Int) K,Q (.Xm n) K)→af Tryz.prog f args [] Q)(ha:∀a∈args,aW a:=by exact pv):TI f args:=by obtain⟨n,_,hp⟩:=Vu (G:=λ_=>True) (λQ hq=>h Q λn K=>hq n K trivial) ha;unfold TI vI;exact Classical.epsilon_spec (p:=λn=>az Tryz.prog f args (.Xm n)) ⟨n,hp⟩
abbrev UD(op line:Int)(name arg:aZ)(index:List ao)(e:ao)(body els:List ab):AV:=(.pptr [[.Xm op,.Xm line,.str name,.str arg,.lst (index.map ao.enc),.Xm e.op,.Xm e.n,.str e.name,.lst (e.l.map ao.enc),.lst (body.map ab.enc),.lst (els.map ab.enc)]] 0 0)
theorem tb{f:FuncId}{args:List AV}(h:∀Q:R,(∀(n:Bool) K,Q (.bool n) K)→af Tryz.prog f args [] Q)(ha:∀a∈args,aW a:=by exact pv):TB f args:=by obtain⟨v,K,⟨n,rfl⟩,hp⟩:=(h (λu K=>∃n,u=.bool n) λn K=>⟨n,rfl⟩).pure ha (by rintro _ _ ⟨n,rfl⟩;exact .bool _);unfold TB vB;exact Classical.epsilon_spec (p:=λn=>az Tryz.prog f args (.bool n)) ⟨n,hp⟩
theorem te{f:FuncId}{args:List AV}(h:∀Q:R,(∀(a b:Int) K,Q (.tup [.Xm a,.Xm b]) K)→af Tryz.prog f args [] Q)(ha:∀a∈args,aW a:=by exact pv):TE f args:=by obtain⟨v,K,⟨a,b,rfl⟩,hp⟩:=(h (λu K=>∃a b,u=.tup [.Xm a,.Xm b]) λa b K=>⟨a,b,rfl⟩).pure ha (by rintro _ _ ⟨a,b,rfl⟩;exact Ox _ _);unfold TE vE;exact Classical.epsilon_spec (p:=λn:Int×Int=>az Tryz.prog f args (.tup [.Xm n.1,.Xm n.2])) ⟨(a,b),hp⟩
theorem F3{β:Type}(n:Nat)(S:Nat→β→List AV)(x0:β){B:List AV→SH→W.Kn→Prop}{vs:List AV}{L:SH}(hl:n<2^62)(hv:vs=S 0 x0)
  (h1:∀i x,i<n→decide ((i:Int)<(n:Int))=true→IntKind.i64.wrap ((i:Int)+1)=((i+1:Nat):Int)→∀nx:W.Kn,(∀y,nx (S (i+1) y) L)→B (S i x) L nx)
  (h2:∀i x,i=n→decide ((i:Int)<(n:Int))=false→∀nx:W.Kn,B (S i x) L nx):W.loop B vs L:=by
 refine cg n (λi x=>(S i x,L)) (λ_ _=>True) x0 trivial (by rw[hv];exact .refl _ _) λi x hi _=>?_
 rcases VG i n with h|h
 ·exact h1 i x h (bF h) (aE h hl) _ λy=>⟨i+1,y,Xh,Xh,trivial,.refl _ _⟩
 ·exact h2 i x Xh (bI h) _
theorem mb(n:Nat)(S:Nat→List AV){B:List AV→SH→W.Kn→Prop}{vs:List AV}{L:SH}(hl:n<2^62)(hv:vs=S 0)
  (h1:∀i,i<n→decide ((i:Int)<(n:Int))=true→IntKind.i64.wrap ((i:Int)+1)=((i+1:Nat):Int)→∀nx:W.Kn,nx (S (i+1)) L→B (S i) L nx)
  (h2:∀i,i=n→decide ((i:Int)<(n:Int))=false→∀nx:W.Kn,B (S i) L nx):W.loop B vs L:=
 F3 n (λi (_:Unit)=>S i) () hl hv (λi _ h hd hi nx hn=>h1 i h hd hi nx (hn ())) λi _ e hd nx=>h2 i e hd nx
theorem I4(c:Int):TB 118 [.int .u8 c]:=by
 refine tb λQ hq=>nE _ _ _ ?_
 unfold jy
 repeat' (first|refine st ?_|refine sb λnb_ hnb_=>?_|refine s2 (λh=>?_) λh=>?_|fail)
 all_goals exact hq _ _
theorem P2(c:Int):TB 142 [.int .u8 c]:=by
 refine tb λQ hq=>pI _ _ _ ?_
 unfold lx
 repeat' (first|refine st ?_|refine sb λnb_ hnb_=>?_|refine s2 (λh=>?_) λh=>?_|fail)
 all_goals exact hq _ _
theorem P3(c:Int):TB 120 [.int .u8 c]:=by
 refine tb λQ hq=>pJ _ _ _ ?_
 unfold ly
 repeat' (first|refine st ?_|(refine pf 118 ?_;refine pm (I4 _) ?_)|(refine pf 142 ?_;refine pm (P2 _) ?_)|refine sb λnb_ hnb_=>?_|refine s2 (λh=>?_) λh=>?_|fail)
 all_goals exact hq _ _
theorem Ll:∀rows:List (List AV),(rows.all λr=>match r with|[.str _]=>true|_=>false)=true→∃l:List aZ,rows=l.map au∧l.length=rows.length
 |[],_=>⟨[],rfl,rfl⟩
 | [.str s]::l,h=>by obtain⟨m,h1,h2⟩:=Ll l (by simpa using h);exact⟨s::m,by rw[h1];rfl,by simp[h2]⟩
theorem Sz:∃l:List aZ,az Tryz.prog 141 [] (.lst (l.map au))∧l.length<2^62:=by
 obtain⟨v,K,⟨l,rfl,hl⟩,hp⟩:=af.pure (P:=Tryz.prog) (f:=141) (args:=[]) (Q:=λv K=>∃l:List aZ,v=.lst (l.map au)∧l.length<2^62) (by
  refine af.fz (kz _ _ ?_);unfold gT
  repeat' (first|refine st ?_|refine sb λnb_ hnb_=>?_|refine s2 (λh=>?_) λh=>?_|fail)
  refine(λ{rows:List (List AV)} {n:Nat} (hr:(rows.all λr=>match r with|[.str _]=>true|_=>false)=true) (hn:rows.length=n) (h9:n<2^62) (hmm:(nb_,(⟨1,rows⟩:Blk))∈[(nb_,⟨1,rows⟩)])=>?_:∀{rows:List (List AV)} {n:Nat},(rows.all λr=>match r with|[.str _]=>true|_=>false)=true→rows.length=n→n<2^62→(nb_,(⟨1,rows⟩:Blk))∈[(nb_,⟨1,rows⟩)]→∃v2 L2,aJ [.sl nb_ 0 n] [(nb_,⟨1,rows⟩)] [v2] L2∧∃l:List aZ,v2=.lst (l.map au)∧l.length<2^62) rfl rfl Xl (.head _);obtain⟨l,h1,h2⟩:=Ll _ hr;exact⟨_,[],aJ.all (Fz.sls (l:=l) (f:=au) hmm h1 Xl Xh),l,rfl,Xh⟩) nofun (by rintro _ _ ⟨l,rfl,_⟩;exact .lmap λx _=>ma x)
 exact⟨l,hp,hl⟩
theorem UE(s:aZ):TB 119 [.str s]:=by
 obtain⟨l,hk,hl⟩:=Sz;refine tb λQ hq=>jz _ _ _ ?_
 unfold ge
 repeat' (first|refine st ?_|(refine pf 141 ?_;refine pm (hk) ?_)|refine sb λnb_ hnb_=>?_|refine s2 (λh=>?_) λh=>?_|fail)
 refine mb l.length (λi=>[.str s,.lst (l.map au),.Xm i]) hl rfl (λi h1 hd hi nx hn=>?_) (λi h1 hd nx=>?_)
 all_goals unfold fG
 ·have hx:=aw (f:=au) h1
  repeat' (first|refine st ?_|refine sb λnb_ hnb_=>?_|refine s2 (λh=>?_) λh=>?_|fail)
  all_goals first|exact hq _ _|exact hn
 ·repeat' (first|refine st ?_|refine sb λnb_ hnb_=>?_|refine s2 (λh=>?_) λh=>?_|fail)
  exact hq _ _
theorem jI(s:aZ)(hs:s.length<2^62):TB 86 [.str s]:=by
 refine tb λQ hq=>iB _ _ _ ?_
 unfold gf;by_cases h0:0<s.length
 ·have d1:decide ((s.length:Int)<1)=false:=by simpa using(by omega:(1:Int)≤s.length)
  repeat' (first|refine st ?_|refine K4 (i:=0) ?_ h0|(refine pf 118 ?_;refine pm (I4 _) ?_)|(refine pf 119 ?_;refine pm (UE _) ?_)|refine sb λnb_ hnb_=>?_|refine s2 (λh=>?_) λh=>?_|fail)
  all_goals first|exact hq _ _|skip
  all_goals
   refine mb s.length (λi=>[.str s,.Xm i]) hs rfl (λi h1 hd hi nx hn=>?_) (λi h1 hd nx=>?_)
   all_goals unfold iA
   ·repeat' (first|refine st ?_|refine K4 ?_|(refine pf 120 ?_;refine pm (P3 _) ?_)|refine sb λnb_ hnb_=>?_|refine s2 (λh=>?_) λh=>?_|fail)
    all_goals first|exact hq _ _|exact hn
   ·repeat' (first|refine st ?_|refine sb λnb_ hnb_=>?_|refine s2 (λh=>?_) λh=>?_|fail)
    exact hq _ _
 ·have d1:decide ((s.length:Int)<1)=true:=by simpa using(by omega:(s.length:Int)<1)
  repeat' (first|refine st ?_|refine sb λnb_ hnb_=>?_|refine s2 (λh=>?_) λh=>?_|fail)
  exact hq _ _
theorem Ke(op:Int):TI 154 [.Xm op]:=by
 refine ti λQ hq=>xL _ _ _ ?_
 unfold lZ
 repeat' (first|refine st ?_|refine sb λnb_ hnb_=>?_|refine s2 (λh=>?_) λh=>?_|fail)
 all_goals exact hq _ _
theorem Oz:∀(k:Nat) (x:ao),x.wt≤k→k<2^40→TB 143 [.agg x.row]:=by
 intro k
 induction k with
 |zero=>intro x h;have:=x.wt_eq;omega
 |succ k ih=>
  intro x hk hb;have hnm:=jI x.name (by have:=x.wt_eq;omega);refine tb λQ hq=>qR _ _ _ ?_
  unfold jA
  repeat' (first|refine st ?_|(refine pf 154 ?_;refine pm (Ke _) ?_)|(refine pf 86 ?_;refine pm (hnm) ?_)|refine sb λnb_ hnb_=>?_|refine s2 (λh=>?_) λh=>?_|fail)
  all_goals first|exact hq _ _|skip
  all_goals
   refine mb x.l.length (λi=>[.pptr [x.row] 0 0,.Xm i]) (by have:=x.len;omega) rfl (λi h1 hd hi nx hn=>?_) (λi h1 hd nx=>?_)
   all_goals unfold iL
   ·have hx:=Dk h1;have hc:=ih x.l[i] (by have:=x.kid h1;omega) Xh
    repeat' (first|refine st ?_|(refine pf 143 ?_;refine pm (hc) ?_)|refine sb λnb_ hnb_=>?_|refine s2 (λh=>?_) λh=>?_|fail)
    all_goals first|exact hq _ _|exact hn
   ·repeat' (first|refine st ?_|refine sb λnb_ hnb_=>?_|refine s2 (λh=>?_) λh=>?_|fail)
    all_goals exact hq _ _
theorem P4(x:ao):TB 144 [.agg x.row]:=by
 refine tb λQ hq=>DD _ _ _ ?_
 unfold sD
 repeat' (first|refine st ?_|refine sb λnb_ hnb_=>?_|refine s2 (λh=>?_) λh=>?_|fail)
 all_goals exact hq _ _
theorem Kf(l:List ab)(hl:l.length<2^40)(h:∀i (hi:i<l.length),TB 121 [.agg l[i].row]):TB 87 [.lst (l.map ab.enc)]:=by
 refine tb λQ hq=>pL _ _ _ ?_
 unfold iM;refine mb l.length (λi=>[.lst (l.map ab.enc),.Xm i]) Xh rfl (λi h1 hd hi nx hn=>?_) (λi h1 hd nx=>?_)
 all_goals unfold ik
 ·have hx:=FK h1;have hc:=h i h1
  repeat' (first|refine st ?_|(refine pf 121 ?_;refine pm (hc) ?_)|refine sb λnb_ hnb_=>?_|refine s2 (λh=>?_) λh=>?_|fail)
  all_goals first|exact hq _ _|exact hn
 ·repeat' (first|refine st ?_|refine sb λnb_ hnb_=>?_|refine s2 (λh=>?_) λh=>?_|fail)
  exact hq _ _
section
variable {op line:Int} {name arg:aZ} {index:List ao} {e:ao} {body els:List ab} {Q:R} (hq:∀(n:Bool) K,Q (.bool n) K)
 (c1:TB 87 [.lst (body.map ab.enc)]) (c2:TB 87 [.lst (els.map ab.enc)]) (c3:TB 143 [.agg [.Xm e.op,.Xm e.n,.str e.name,.lst (e.l.map ao.enc)]]) (c4:TB 144 [.agg [.Xm e.op,.Xm e.n,.str e.name,.lst (e.l.map ao.enc)]])
 (c7:∀i∈index,TB 143 [.agg i.row]) (c5:TB 86 [.str arg]) (c6:TB 86 [.str name])
include hq c1 c2
theorem UF:fi Q [] (UD op line name arg index e body els):=by
 unfold fi
 repeat' (first|refine st ?_|(refine pf 87 ?_;refine pm (c1) ?_)|(refine pf 87 ?_;refine pm (c2) ?_)|refine sb λnb_ hnb_=>?_|refine s2 (λh=>?_) λh=>?_|fail)
 all_goals exact hq _ _
include c3 c4
theorem UG:fj Q [] (UD op line name arg index e body els):=by
 unfold fj
 repeat' (first|with_reducible exact UF hq c1 c2|refine st ?_|(refine pf 143 ?_;refine pm (c3) ?_)|(refine pf 144 ?_;refine pm (c4) ?_)|refine sb λnb_ hnb_=>?_|refine s2 (λh=>?_) λh=>?_|fail)
 all_goals exact hq _ _
include c7
theorem UH:fk Q [] (UD op line name arg index e body els):=by
 have z1:=λ(_:True)=>UG (op:=op) (line:=line) (name:=name) (arg:=arg) (index:=index) hq c1 c2 c3 c4;clear c1 c2 c3 c4;unfold fk;by_cases hn:index.length=1
 ·obtain⟨i,rfl⟩:=List.length_eq_one_iff.1 hn;have h1:=c7 i (.head _);unfold ao.row at h1;have hx0:=Dk (l:=[i]) (i:=0) Xk
  repeat' (first|with_reducible exact z1 trivial|refine st ?_|(refine pf 143 ?_;refine pm (h1) ?_)|refine sb λnb_ hnb_=>?_|refine s2 (λh=>?_) λh=>?_|fail)
  all_goals exact hq _ _
 ·have d1:decide ((index.length:Int)=1)=false:=by simpa using(by omega:¬(index.length:Int)=1)
  repeat' (first|with_reducible exact z1 trivial|refine st ?_|refine sb λnb_ hnb_=>?_|refine s2 (λh=>?_) λh=>?_|fail)
  all_goals exact hq _ _
include c5
theorem UI:fm Q [] (UD op line name arg index e body els):=by
 have z2:=λ(_:True)=>UH (op:=op) (line:=line) (name:=name) (arg:=arg) hq c1 c2 c3 c4 c7;clear c1 c2 c3 c4 c7;unfold fm
 repeat' (first|with_reducible exact z2 trivial|refine st ?_|(refine pf 86 ?_;refine pm (c5) ?_)|refine sb λnb_ hnb_=>?_|refine s2 (λh=>?_) λh=>?_|fail)
 all_goals exact hq _ _
include c6
theorem UJ:fo Q [] (UD op line name arg index e body els):=by
 have z3:=λ(_:True)=>UI (op:=op) (line:=line) (name:=name) hq c1 c2 c3 c4 c7 c5;clear c1 c2 c3 c4 c7 c5;unfold fo
 repeat' (first|with_reducible exact z3 trivial|refine st ?_|(refine pf 86 ?_;refine pm (c6) ?_)|refine sb λnb_ hnb_=>?_|refine s2 (λh=>?_) λh=>?_|fail)
 all_goals exact hq _ _
end
theorem UK:∀(k:Nat) (x:ab),x.wt≤k→k<2^40→TB 121 [.agg x.row]:=by
 intro k
 induction k with
 |zero=>intro x h;have:=x.wt_eq;omega
 |succ k ih=>
  intro x hk hb;have hw:=x.wt_eq;have l1:=ab.wts_len x.body;have l2:=ab.wts_len x.els;have c1:=Kf x.body Xh λi hi=>ih _ (by have:=ab.wts_get _ i hi;omega) Xh
  have c2:=Kf x.els Xh λi hi=>ih _ (by have:=ab.wts_get _ i hi;omega) Xh
  have c7:∀i∈x.index,TB 143 [.agg i.row]:=λi hi=>by obtain⟨j,hj,rfl⟩:=WE hi;exact Oz _ _ (VC _) (by have:=ao.wts_get x.index j hj;omega)
  refine tb λQ hq=>qT _ _ _ ?_
  have z4:=λ(_:True)=>UJ (op:=x.op) (line:=x.line) hq c1 c2 (Oz _ x.expr (VC _) Xh) (P4 x.expr) c7 (jI x.arg Xh) (jI x.name Xh);clear c1 c2 c7 ih hk hw l1 l2 hb;unfold jB ab.row
  repeat' (first|with_reducible exact z4 trivial|refine st ?_|refine sb λnb_ hnb_=>?_|refine s2 (λh=>?_) λh=>?_|fail)
  all_goals exact hq _ _
theorem OA(d:aI)(hw:d.wt<2^40):TB 85 [.agg d.enc]:=by
 have h1:=jI d.name (by unfold aI.wt at hw;omega);have h2:=jI d.on (by unfold aI.wt at hw;omega);refine tb λQ hq=>qU _ _ _ ?_
 have z0:True→fp Q [] (.pptr [d.enc] 0 0):=by
  intro _;unfold fp
  repeat' (first|refine st ?_|refine sb λnb_ hnb_=>?_|refine s2 (λh=>?_) λh=>?_|fail)
  all_goals exact hq _ _
 have z1:True→fq Q [] (.pptr [d.enc] 0 0):=by
  intro _;unfold fq
  repeat' (first|with_reducible exact z0 trivial|refine st ?_|(refine pf 86 ?_;refine pm (h2) ?_)|refine sb λnb_ hnb_=>?_|refine s2 (λh=>?_) λh=>?_|fail)
  all_goals exact hq _ _
 unfold jC
 repeat' (first|with_reducible exact z1 trivial|refine st ?_|(refine pf 86 ?_;refine pm (h1) ?_)|refine sb λnb_ hnb_=>?_|refine s2 (λh=>?_) λh=>?_|fail)
 all_goals exact hq _ _
theorem OB(p:bP)(hw:p.wt<2^40):TB 54 [.agg p.enc]:=by
 have hl1:=p.decls_len;have hl2:=p.threads_len;refine tb λQ hq=>B4 _ _ _ ?_
 unfold pM
 repeat' (first|refine st ?_|refine sb λnb_ hnb_=>?_|refine s2 (λh=>?_) λh=>?_|fail)
 refine mb p.decls.length (λi=>[.pptr [p.enc] 0 0,.Xm i]) Xh rfl (λi h1 hd hi nx hn=>?_) (λi h1 hd nx=>?_)
 all_goals unfold nH
 ·have hx:=aw (f:=aI.enc) h1;have hc:=OA p.decls[i] (by have:=p.decl_wt h1;omega)
  repeat' (first|refine st ?_|(refine pf 85 ?_;refine pm (hc) ?_)|refine sb λnb_ hnb_=>?_|refine s2 (λh=>?_) λh=>?_|fail)
  all_goals first|exact hq _ _|exact hn
 ·repeat' (first|refine st ?_|refine sb λnb_ hnb_=>?_|refine s2 (λh=>?_) λh=>?_|fail)
  refine mb p.threads.length (λi=>[.pptr [p.enc] 0 0,.Xm i]) Xh rfl (λi h1 hd hi nx hn=>?_) (λi h1 hd nx=>?_)
  all_goals unfold nG
  ·have hx:=aw (f:=ah.enc) h1;have hwt:=p.thread_wt h1;have hloc:=λj (hj:j<(p.threads[i]).locals.length)=>(p.threads[i]).local_len hj
   have hwe:(p.threads[i]).wt=1+(p.threads[i]).name.length+(p.threads[i]).locals.length+((p.threads[i]).locals.map List.length).sum+ab.wts (p.threads[i]).body:=rfl;have hnm:=jI (p.threads[i]).name Xh;have hbd:=Kf (p.threads[i]).body (by have:=ab.wts_len (p.threads[i]).body;omega) λj hj=>UK _ _ (VC _) (by have:=ab.wts_get _ j hj;omega)
   generalize p.threads[i]=t at *
   repeat' (first|refine st ?_|refine sb λnb_ hnb_=>?_|refine s2 (λh=>?_) λh=>?_|fail)
   refine mb t.locals.length (λj=>[.pptr [p.enc] 0 0,.Xm i,.pptr [t.enc] 0 0,.Xm j]) Xh rfl (λj h1 hd hi2 nx2 hn2=>?_) (λj h1 hd nx2=>?_)
   all_goals unfold nF
   ·have hx2:=aw (f:=au) h1;have hc:=jI t.locals[j] (by have:=hloc j h1;omega)
    repeat' (first|refine st ?_|(refine pf 86 ?_;refine pm (hc) ?_)|refine sb λnb_ hnb_=>?_|refine s2 (λh=>?_) λh=>?_|fail)
    all_goals first|exact hq _ _|exact hn2
   ·repeat' (first|refine st ?_|(refine pf 86 ?_;refine pm (hnm) ?_)|(refine pf 87 ?_;refine pm (hbd) ?_)|refine sb λnb_ hnb_=>?_|refine s2 (λh=>?_) λh=>?_|fail)
    all_goals first|exact hq _ _|exact hn
  ·repeat' (first|refine st ?_|refine sb λnb_ hnb_=>?_|refine s2 (λh=>?_) λh=>?_|fail)
   exact hq _ _
end
section
set_option maxRecDepth 100000
def Ee(Q:R)(c:Kn)(a:SH)(b d e f g h i j:AV):Prop:=fe 6 0 b d a λk=>wb .neq 3 k (.Xm 3) λl=>wk l ((true=true)∧(aM 1 e [] 1 a λm o=>Q (.tup [(.Xm 6),m]) a)) (wb .add 3 f (.Xm 1) λn=>c [b,g,h,i,j,n] a)
def Ef(Q:R)(d:Kn)(e:SH)(b f g h i j k c:AV)(a:SH)(l:Ns):Prop:=wn [] l [] e.names λo=>wb .lss 3 c (.Xm 0) λm=>wk m ((true=true)∧(aM 1 b [] 1 a λn p=>Q (.tup [(.Xm 5),n]) a)) ((Ee Q d a f c b g h i j k))
def Eg(Q:R)(e:Kn)(a:SH)(b c d f g h i:AV):Prop:=(true=true)∧(W.calm [] ⟨2,(dS b),[],[],false,[]⟩ (W.slice 6 b none (some c) none a λj=>wn (dS b) [] [] [] λk=>aM 5 d [rm 2 k] 4 a λl m=>wd [] 5 (.fn 88 []) [j,l] a (Ef Q e a d b c f g h i)))
def Eh(Q:R)(b:Kn)(a:SH)(c d e f g h i:AV):Prop:=aA 0 c a λj=>wb .eql 3 j (.Xm 5) λk=>wk k ((Eg Q b a d e c f g h i)) (wb .add 3 e (.Xm 1) λl=>b [d,f,g,h,i,l] a)
def jJ(Q:R)(j:Kn)(k:Vs)(l:SH):Prop:=Nv 0 4 5 6 7 8 9 k λm e f g h n i=>wb .gtr 3 e (.Xm 12) λa=>bB a false f l λo p=>wg a false (wb .gtr 3 o (.Xm 4)) p λq r=>W.pick a (.bool true) q λb=>bB b false g r λs t=>wg b false (wb .gtr 3 s (.Xm 2)) t λu v=>W.pick b (.bool true) u λc=>bB c false h v λw x=>wg c false (wb .gtr 3 w (.Xm 2)) x λy d=>W.pick c (.bool true) y λz=>wk z ((true=true)∧(aM 1 i [] 1 d λA B=>Q (.tup [(.Xm 2),A]) d)) ((Eh Q j d i m n e f g h))
def Ei(a:Kn)(b:SH)(j c d e f g h i:AV):Prop:=wb .eql 3 j (.Xm 5) λk=>wk k (wb .add 3 c (.Xm 1) λl=>a [d,e,f,l,g,h,i] b) (wb .add 3 g (.Xm 1) λm=>a [d,e,f,c,m,h,i] b)
def Ej(a:Kn)(j:Vs)(b:SH):Prop:=LL 0 4 5 6 7 8 9 36 47 j λc d e f g h i k l=>wk l (wb .add 3 e (.Xm 1) λm=>a [c,d,m,f,g,h,i] b) ((Ei a b k f c d e g h i))
def Ek(l:Kn)(b:SH)(a c d e f g h i:AV):Prop:=W.join (Ej l) λj=>wb .eql 3 a (.Xm 3) λk=>wk k (j [c,d,e,f,g,h,i,a,k] b) (wb .eql 3 a (.Xm 4) λm=>j [c,d,e,f,g,h,i,a,m] b)
def El(c:Kn)(j:Vs)(a:SH):Prop:=LL 0 4 5 6 7 8 9 36 39 j λd e f g h i b k l=>wk l (aA 3 b a λm=>W.mnx true m (.Xm 1) λn=>wb .add 3 e n λo=>c [d,o,f,g,h,i,b] a) ((Ek c a k d e f g h i b))
def Em(Q:R)(l:Kn)(b:SH)(c d e f g h i:AV):Prop:=W.join (jJ Q l) λm=>aA 0 c b λa=>W.join (El m) λj=>wb .eql 3 a (.Xm 1) λk=>wk k (j [d,e,f,g,h,i,c,a,k] b) (wb .eql 3 a (.Xm 2) λn=>j [d,e,f,g,h,i,c,a,n] b)
def En(Q:R)(c:Kn)(a:SH)(b d e f g h i:AV):Prop:=aA 3 b a λj=>wb .gtr 3 j (.Xm 4) λk=>wk k ((true=true)∧(aM 1 b [] 1 a λl m=>Q (.tup [(.Xm 2),l]) a)) ((Em Q c a b d e f g h i))
def Eo(Q:R)(c:Kn)(d:SH)(b e f g h i j k:AV)(a:SH)(l:Ns):Prop:=wn [] l [] d.names λo=>wb .geq 3 k (.Xm 0) λm=>wk m ((true=true)∧(aM 1 b [] 1 a λn p=>Q (.tup [(.Xm 4),n]) a)) ((En Q c a b e f g h i j))
def Ep(Q:R)(f:Kn)(d:SH)(a c g h i j:AV):Prop:=lD 6 a c d λk=>qv [(.Xm 0),(.Xm 0),(.str []),(.Xm 0),(.Xm 0),(.str [])] 6 k d λe b=>(true=true)∧(W.calm [] ⟨2,(dS a),[],[],false,[]⟩ (W.slice 6 a none (some c) none b λl=>wn (dS a) [] [] [] λm=>aM 2 e [rm 2 m] 4 b λn o=>wd [] 5 (.fn 88 []) [l,n] b (Eo Q f b e a g h i j c)))
def qi(Q:R)(d:Vs)(a:SH)(e:Kn):Prop:=Ih 0 4 5 6 7 8 d λb f g h i c=>W.len b λj=>wb .lss 3 c j λk=>wk k ((Ep Q e a b c f g h i)) (Q (.tup [(.Xm 0),(.Xm 0)]) a)
def sK(a:AV)(L:SH)(Q:R):Prop:=W.loop (qi Q) [a,(.Xm 0),(.Xm 0),(.Xm 0),(.Xm 0),(.Xm 0)] L
theorem Er(t0:AV)(L:SH)(Q:R)(h:sK t0 L Q):af Tryz.prog 55 [t0] L Q:=
 fs [(11,[0,4,5,6,7,8,9]),(13,[0,4,5,6,7,8,9,36,39]),(16,[0,4,5,6,7,8,9,36,47])] [(3,[0,4,5,6,7,8])] [(5,[9])] [(6,[0,0,3,0,8,31,63]),(7,[0,1,0,7]),(9,[0,1,0,7]),(21,[0,1,0,7]),(23,[0,0,3,0,8,31,63]),(25,[0,1,0,7]),(27,[0,1,0,7])] Tryz.func55 h
def Ap(Q:R)(o:Kn)(p:SH)(h i j q:AV)(k:SH)(r:Ns):Prop:=wn [] r [] p.names λa4=>wb .geq 3 q (.Xm 0) λa=>W.dgrd a false (λs=>W.faddr 1 h λt=>s t k rz) k λu b a5=>W.dgrd a false (λv=>dl [] 8 u b λw x=>v w b x) b λc l y=>W.dgrd a false (λz=>z i l rz) l λA d a6=>W.dgrd a false (λB=>W.calm [] ⟨10,(dS c),[],[],false,[]⟩ (W.slice 4 c none (some A) none d λC=>wn (dS c) [] [] [] λD=>B C d D)) d λE m F=>W.dgrd a false (λG=>W.faddr 0 j λH=>G H m rz) m λI e a7=>W.dgrd a false (λJ=>dl [rm 10 F,rm 8 y] 12 I e λM N=>J M e N) e λO f a8=>W.dgrd a false (λP=>wd [] 13 (.fn 89 []) [E,O] f λS T U=>wn [] U [] f.names λV=>P S T V) f λX n a9=>W.dgrd a false (λY=>wb .geq 3 X (.Xm 0) λZ=>Y Z n rz) n λa0 g b0=>W.pick a (.bool true) a0 λa1=>wk a1 ((true=true)∧(aM 1 j [] 1 g λa2 b1=>Q (.tup [(.Xm 4),a2]) g)) (wb .add 3 i (.Xm 1) λa3=>o [h,a3] g)
def Aq(Q:R)(f:Kn)(b:SH)(c d:AV):Prop:=aA 1 c b λg=>lD 4 g d b λh=>qv [(.str []),(.Xm 0),.nils,.nils] 4 h b λe a=>(true=true)∧(aM 0 c [] 1 a λi j=>aM 0 e [rm 1 j] 3 a λk l=>wd [] 4 (.fn 88 []) [i,k] a (Ap Q f a c d e))
def Ar(Q:R)(m:Kn)(e f c g n o:AV)(p:SH):Prop:=wb .geq 3 o (.Xm 0) λb=>wg b false (W.faddr 1 e) p λq h=>wg b false (wl q h) h λr s=>bB b false f s λt i=>W.grd b false (λu=>wc (.fn 89 []) [r,t] i λv w=>u v w) i λx y=>wg b false (wb .geq 3 x (.Xm 0)) y λz A=>W.pick b (.bool true) z λa=>wg a false (W.faddr 2 c) A λB j=>wg a false (wl B j) j λC D=>bB a false g D λE k=>wg a false (W.slice 1 C none (some E) none k) k λF G=>bB a false f G λH l=>W.grd a false (λI=>wc (.fn 90 []) [F,H] l λJ M=>I J M) l λN O=>wg a false (wb .geq 3 N (.Xm 0)) O λP d=>W.pick a (.bool true) P λS=>wk S ((true=true)∧(aM 1 c [] 1 d λT V=>Q (.tup [(.Xm 4),T]) d)) (wb .add 3 g (.Xm 1) λU=>m [e,n,c,U] d)
def As(Q:R)(f:Kn)(a:SH)(b c d g:AV):Prop:=aA 2 b a λh=>wJ 1 h c a λe=>aA 0 d a λi=>wc (.fn 88 []) [i,e] a (Ar Q f d e b c g)
def mc(Q:R)(f:Kn)(g:Vs)(a:SH)(h:Kn):Prop:=yX 1 6 7 8 g λb c d e=>aA 2 d a λi=>W.len i λj=>wb .lss 3 e j λk=>wk k ((As Q h a d e b c)) (wb .add 3 c (.Xm 1) λl=>f [b,l] a)
def At(Q:R)(f:Kn)(b:SH)(d e:AV):Prop:=aA 1 d b λg=>lD 4 g e b λh=>qv [(.str []),(.Xm 0),.nils,.nils] 4 h b λc a=>aA 2 c a λi=>W.len i λj=>wb .gtr 3 j (.Xm 4) λk=>wk k ((true=true)∧(aM 1 c [] 1 a λl m=>Q (.tup [(.Xm 2),l]) a)) (W.loop (mc Q f) [d,e,c,(.Xm 0)] a)
def md(Q:R)(d:Vs)(a:SH)(e:Kn):Prop:=Py 1 6 d λb c=>aA 1 b a λf=>W.len f λg=>wb .lss 3 c g λh=>wk h ((At Q e a b c)) (Q (.tup [(.Xm 0),(.Xm 0)]) a)
def me(Q:R)(d:Vs)(a:SH)(e:Kn):Prop:=Py 1 4 d λb c=>aA 1 b a λf=>W.len f λg=>wb .lss 3 c g λh=>wk h ((Aq Q e a b c)) (W.loop (md Q) [b,(.Xm 0)] a)
def nQ(a:AV)(L:SH)(Q:R):Prop:=su a L λb c=>W.loop (me Q) [b,(.Xm 0)] c
theorem Au(t0:AV)(L:SH)(Q:R)(h:nQ t0 L Q):af Tryz.prog 56 [t0] L Q:=
 fs [] [(2,[1,4]),(14,[1,6,7,8]),(8,[1,6])] [(0,[1]),(4,[5]),(10,[7])] [(5,[0,1,0,4,15,31,63,127,255,127,1023,127,2175,8191,16383,32767]),(6,[0,1,0,7]),(12,[0,1,0,7]),(18,[0,1,0,7])] Tryz.func56 h
def Av(a:Kn)(b c d e:AV)(f:SH):Prop:=wb .add 3 b e λg=>wb .add 3 c (.Xm 1) λh=>a [d,g,h] f
def Aw(Q:R)(d:Kn)(e f g a:AV)(b:SH):Prop:=W.ext 0 a λc=>W.ext 1 a λh=>wb .neq 74 c (.Xm 0) λi=>wk i (Q (.tup [c,h]) b) (wb .add 3 e (.Xm 1) λj=>d [f,g,j] b)
def Ax(Q:R)(e:Kn)(f:SH)(a b d:AV):Prop:=W.nilchk a λg=>W.faddr 2 g λh=>W.store 1 h b f λc=>aA 1 d c λi=>fe 4 3 i b c λj=>wc (.fn 58 []) [a,j] c (Aw Q e b d a)
def mf(Q:R)(d:Vs)(a:SH)(e:Kn):Prop:=vY 1 10 11 d λb f c=>aA 1 b a λg=>W.len g λh=>wb .lss 3 c h λi=>wk i ((Ax Q e a f c b)) (Q (.tup [(.Xm 0),(.Xm 0)]) a)
def Ay(Q:R)(a:SH)(b:AV):Prop:=bZ 2 b a λc=>W.build [.nils,.nils,(.Xm 0),.nils,.nils,.nils] [(0,2,c)] λd=>W.box d a λe f=>W.loop (mf Q) [b,e,(.Xm 0)] f
def mg(Q:R)(e:Vs)(a:SH)(f:Kn):Prop:=vY 1 8 9 e λb d c=>aA 1 b a λg=>W.len g λh=>wb .lss 3 c h λi=>wk i (aA 1 b a λj=>fe 4 3 j c a λk=>wc (.fn 57 []) [k] a (Av f d c b)) (wb .gtr 3 d (.Xm 60) λl=>wk l (Q (.tup [(.Xm 2),(.Xm 0)]) a) ((Ay Q a b)))
def Az(Q:R)(d a:AV)(b:SH):Prop:=W.ext 0 a λc=>W.ext 1 a λe=>wb .neq 74 c (.Xm 0) λf=>wk f (Q (.tup [c,e]) b) (W.loop (mg Q) [d,(.Xm 0),(.Xm 0)] b)
def AA(Q:R)(a:SH)(b:AV):Prop:=aA 1 b a λc=>W.len c λd=>wb .gtr 3 d (.Xm 4) λe=>wk e (Q (.tup [(.Xm 2),(.Xm 0)]) a) (bZ 2 b a λf=>wc (.fn 56 []) [f] a (Az Q b))
def AB(Q:R)(d a:AV)(b:SH):Prop:=W.ext 0 a λc=>W.ext 1 a λe=>wb .neq 74 c (.Xm 0) λf=>wk f (Q (.tup [c,e]) b) ((AA Q b d))
def AC(Q:R)(b c:AV)(a:SH):Prop:=W.un .not c λd=>wk d (Q (.tup [(.Xm 3),(.Xm 0)]) a) (aA 0 b a λe=>wc (.fn 55 []) [e] a (AB Q b))
def nR(c:AV)(L:SH)(Q:R):Prop:=su c L λa b=>bZ 2 a b λd=>wc (.fn 54 []) [d] b (AC Q a)
theorem AD(t0:AV)(L:SH)(Q:R)(h:nR t0 L Q):af Tryz.prog 28 [t0] L Q:=
 fs [] [(13,[1,8,9]),(20,[1,10,11])] [(0,[1])] [] Tryz.func28 h
def qj(Q:R)(o:Kn)(d:SH)(g h i j e:AV):Prop:=dO 3 g d λp=>lD 11 p h d λq=>qv [(.Xm 0),(.Xm 0),(.str []),(.str []),.nils,(.Xm 0),(.Xm 0),(.str []),.nils,.nils,.nils] 11 q d λf k=>aA 0 f k λr=>wb .eql 3 r i λa=>wg a false (W.faddr 0 f) k λs l=>wg a false (wl s l) l λt u=>bB a false j u λv w=>wg a false (wb .eql 3 t v) w λx y=>W.pick a (.bool true) x λb=>bB b true e y λz A=>wg b true (wb .eql 9 z (.str [])) A λB C=>bB b true B C λc D=>wg c false (W.faddr 2 f) D λE m=>wg c false (wl E m) m λF G=>bB c false e G λH I=>wg c false (wb .eql 9 F H) I λJ M=>wg b true (W.pick c (.bool true) J) M λN n=>W.pick b N (.bool false) λO=>wk O (Q (.bool true) n) (wb .add 3 h (.Xm 1) λP=>o [g,i,j,e,P] n)
def eO(Q:R)(d:Vs)(a:SH)(e:Kn):Prop:=GC 0 1 2 3 9 d λb f g h c=>dO 3 b a λi=>W.len i λj=>wb .lss 3 c j λk=>wk k ((qj Q e a b c f g h)) (Q (.bool false) a)
def iP(a b c d:AV)(L:SH)(Q:R):Prop:=W.loop (eO Q) [a,b,c,d,(.Xm 0)] L
theorem qk(t0 t1 t2 t3:AV)(L:SH)(Q:R)(h:iP t0 t1 t2 t3 L Q):af Tryz.prog 122 [t0,t1,t2,t3] L Q:=
 fs [] [(2,[0,1,2,3,9])] [(4,[10])] [] Tryz.func122 h
def xW(Q:R)(a:SH)(b:AV)(c:SH)(d:Ns):Prop:=wn [] d [] a.names λe=>Q b c
def xX(Q:R)(b:SH)(c d:AV)(a:SH)(e:Ns):Prop:=wn [] e [] b.names λf=>wd [] 13 (.fn 123 []) [c,d] a (xW Q a)
def xY(Q:R)(b:SH)(c d e:AV)(a:SH)(f:Ns):Prop:=wn [] f [] b.names λg=>wd [] 12 (.fn 123 []) [c,e] a (xX Q a d)
def xZ(Q:R)(b:SH)(c d e:AV)(a:SH)(f:Ns):Prop:=wn [] f [] b.names λg=>wd [] 11 (.fn 126 []) [c] a (xY Q a e d)
def x7(Q:R)(e:SH)(f g h i:AV)(b c:Fp)(j:AV)(a:SH)(k:Ns):Prop:=wn [] k [] e.names λd=>dr [rc 4 d,rm 3 b,rm 0 c] 5 2 f a λl m=>aM 3 g [rm 5 m,rc 4 d,rm 3 b,rm 0 c] 8 a λn o=>wd [] 9 (.fn 124 []) [l,h,n,(.Xm 6),(.Xm 6)] a (xZ Q a i j)
def x9(Q:R)(f:Vs)(a:SH):Prop:=GC 3 4 5 6 7 f λb k c d g=>(true=true)∧(dr [] 0 2 c a λh e=>aM 2 b [rm 0 e] 3 a λi j=>wd [] 4 (.fn 124 []) [h,d,i,(.Xm 8),(.Xm 8)] a (x7 Q a c b d g j e))
def ya(Q:R)(a:SH)(b:AV)(c:SH)(d:Ns):Prop:=wn [] d [] a.names λe=>Q b c
def yb(Q:R)(b:SH)(c d:AV)(a:SH)(e:Ns):Prop:=wn [] e [] b.names λf=>wd [] 10 (.fn 123 []) [c,d] a (ya Q a)
def yc(Q:R)(e:SH)(f g h:AV)(b c:Fp)(i:AV)(a:SH)(j:Ns):Prop:=wn [] j [] e.names λd=>dr [rc 4 d,rm 3 b,rm 0 c] 5 2 f a λk l=>W.faddr 5 g λm=>dr [rm 5 l,rc 4 d,rm 3 b,rm 0 c] 8 4 m a λn o=>wd [] 9 (.fn 125 []) [k,h,n] a (yb Q a i)
def yd(Q:R)(a:SH)(b c d:AV):Prop:=(true=true)∧(dr [] 0 2 b a λf e=>aM 2 c [rm 0 e] 3 a λg h=>wd [] 4 (.fn 124 []) [f,d,g,(.Xm 8),(.Xm 1)] a (yc Q a b c d h e))
def ye(Q:R)(a:SH)(b:AV)(c:SH)(d:Ns):Prop:=wn [] d [] a.names λe=>Q b c
def tN(Q:R)(b:SH)(c d:AV)(a:SH)(e:Ns):Prop:=wn [] e [] b.names λf=>wd [] 18 (.fn 123 []) [c,d] a (ye Q a)
def tO(Q:R)(b:SH)(c d e:AV)(a:SH)(f:Ns):Prop:=wn [] f [] b.names λg=>wd [] 17 (.fn 123 []) [c,e] a (tN Q a d)
def tP(Q:R)(j:SH)(k l m n:AV)(b c d e f g h:Fp)(o:AV)(a:SH)(p:Ns):Prop:=wn [] p [] j.names λi=>dr [rc 11 i,rm 10 b,rm 9 c,rm 8 d,rm 5 e,rc 4 f,rm 3 g,rm 0 h] 12 2 k a λq r=>W.faddr 5 l λs=>dr [rm 12 r,rc 11 i,rm 10 b,rm 9 c,rm 8 d,rm 5 e,rc 4 f,rm 3 g,rm 0 h] 15 4 s a λt u=>wd [] 16 (.fn 125 []) [q,m,t] a (tO Q a o n)
def tQ(Q:R)(i:SH)(f g h:AV)(b c:Fp)(j:AV)(a:SH)(k:Ns):Prop:=wn [] k [] i.names λd=>dr [rc 4 d,rm 3 b,rm 0 c] 5 2 f a λl e=>aM 4 g [rm 5 e,rc 4 d,rm 3 b,rm 0 c] 8 a λm n=>di [rm 5 e,rc 4 d,rm 3 b,rm 0 c] 9 4 m (.Xm 0) a λo p=>dr [rm 5 e,rc 4 d,rm 3 b,rm 0 c] 10 4 o a λq r=>wd [] 11 (.fn 125 []) [l,h,q] a (tP Q a f g h j r p n e d b c)
def yf(Q:R)(a:SH)(b c d:AV):Prop:=(true=true)∧(dr [] 0 2 b a λf e=>aM 2 c [rm 0 e] 3 a λg h=>wd [] 4 (.fn 124 []) [f,d,g,(.Xm 2),(.Xm 2)] a (tQ Q a b c d h e))
def yg(Q:R)(a:SH)(b c d:AV):Prop:=aA 4 b a λe=>W.len e λf=>wb .eql 3 f (.Xm 0) λg=>wk g ((yd Q a c b d)) ((yf Q a c b d))
def tR(Q:R)(a b:AV)(c:SH):Prop:=wc (.fn 123 []) [a,b] c λd e=>Q d e
def tS(Q:R)(a d e f:AV)(g:SH):Prop:=bB a false d g λh i=>wg a false (W.faddr 2 e) i λj b=>wg a false (wl j b) b λk c=>W.grd a false (λl=>wc (.fn 122 []) [h,(.Xm 4),(.Xm 4),k] c λm n=>l m n) c λo p=>W.pick a (.bool true) o λq=>wc (.fn 126 []) [q] p (tR Q f)
def yh(Q:R)(a:SH)(c b d e f:AV):Prop:=bZ 2 c a λg=>aA 2 b a λh=>wc (.fn 124 []) [g,d,h,(.Xm 3),(.Xm 3)] a (tS Q e f b)
def tT(Q:R)(a b:AV)(c:SH):Prop:=wc (.fn 123 []) [a,b] c λd e=>Q d e
def tU(Q:R)(a d e f:AV)(g:SH):Prop:=bB a false d g λh i=>wg a false (W.faddr 2 e) i λj b=>wg a false (wl j b) b λk c=>W.grd a false (λl=>wc (.fn 122 []) [h,(.Xm 5),(.Xm 6),k] c λm n=>l m n) c λo p=>W.pick a (.bool true) o λq=>wc (.fn 126 []) [q] p (tT Q f)
def yi(Q:R)(a:SH)(c b d e f:AV):Prop:=bZ 2 c a λg=>aA 2 b a λh=>wc (.fn 124 []) [g,d,h,(.Xm 4),(.Xm 4)] a (tU Q e f b)
def tV(Q:R)(e:SH)(b f g h:AV)(i:SH)(j:Ns):Prop:=wn [] j [] e.names λB=>bB b false h i λk l=>wg b false (W.un .not k) l λm n=>W.pick b (.bool true) m λa=>wg a false (W.faddr 0 f) n λo c=>wg a false (wl o c) c λp q=>wg a false (wb .eql 3 p (.Xm 9)) q λr s=>bB a false r s λd t=>bB d true g t λu v=>wg a false (W.pick d u (.bool false)) v λw x=>W.pick a (.bool true) w λy=>wc (.fn 126 []) [y] x λz A=>Q z A
def tW(Q:R)(b:SH)(c d e f g h:AV)(a:SH)(i:Ns):Prop:=wn [] i [] b.names λl=>di [] 8 6 c h a λj m=>aM 5 j [] 10 a λk n=>wd [] 11 (.fn 122 []) [d,(.Xm 4),(.Xm 4),k] a (tV Q a e f g)
def yj(Q:R)(a:SH)(c d e f g:AV):Prop:=(true=true)∧(aM 0 c [] 2 a λh b=>aM 0 c [rm 2 b] 4 a λi j=>aM 2 d [rm 4 j,rm 2 b] 6 a λk l=>wd [rm 2 b] 7 (.fn 88 []) [i,k] a (tW Q a h e f d g))
def tX(Q:R)(c d e f g a:AV)(b:SH):Prop:=wb .neq 74 a (.Xm 0) λh=>wk h (Q a b) ((yj Q b c d e f g))
def yk(Q:R)(a:SH)(b c d e f g:AV):Prop:=bZ 2 b a λh=>aA 2 c a λi=>wc (.fn 124 []) [h,d,i,(.Xm 5),(.Xm 5)] a (tX Q b c e f g)
def yl(Q:R)(c:SH)(d g:AV):Prop:=(true=true)∧(W.nilchk d λh=>aM 4 h [] 4 c λa e=>aM 2 g [rm 4 e] 6 c λi o=>W.calm [rm 4 e] ⟨7,[],[],[],false,[]⟩ (W.bslice 1 [(.str [])] 1 [(0,i)] c λb j=>wn [] [] (aa b) [] λp=>W.calm [] ⟨8,(aa a++aa b),(aa a),[],false,[]⟩ (W.append 1 16 a b j λf k=>wn (aa a++aa b) (aa a) (aa f) [] λq=>W.nilchk d λl=>W.faddr 4 l λm=>ds [] 11 1 m f k λn r=>Q (.Xm 0) n)))
def tY(Q:R)(b:SH)(c d e:AV)(a:SH)(f:Ns):Prop:=wn [] f [] b.names λh=>wb .geq 3 e (.Xm 0) λg=>wk g (Q (.Xm 8) a) ((yl Q a c d))
def ym(Q:R)(a:SH)(b c:AV):Prop:=(true=true)∧(W.nilchk b λd=>aM 4 d [] 3 a λe f=>aM 2 c [rm 3 f] 5 a λg h=>wd [] 6 (.fn 90 []) [e,g] a (tY Q a b c))
def tZ(Q:R)(c g h i j k d:AV)(l:SH):Prop:=bB c false g l λm n=>W.pick c (.bool true) m λe=>bB e false h n λo p=>W.pick e (.bool true) o λa=>bB a false d p λq r=>bB a false i r λs t=>wg a false (wb .eql 3 q s) t λu v=>W.pick a (.bool true) u λb=>bB b false d v λw x=>wg b false (wb .eql 3 w (.Xm 0)) x λy f=>W.pick b (.bool true) y λz=>wk z (Q (.Xm 7) f) ((ym Q f j k))
def t6(Q:R)(d b e f g h i c:AV)(a:SH):Prop:=wb .neq 74 c (.Xm 0) λj=>wk j (Q c a) (aA 1 d a λk=>aA 2 b a λl=>wc (.fn 89 []) [k,l] a (tZ Q e f g h i b))
def yn(Q:R)(a:SH)(b c d e f g h:AV):Prop:=bZ 2 b a λi=>aA 2 c a λj=>wc (.fn 124 []) [i,d,j,(.Xm 7),(.Xm 7)] a (t6 Q b c e f g d h)
def t7(Q:R)(a b:AV)(c:SH):Prop:=wc (.fn 123 []) [a,b] c λd e=>Q d e
def t8(Q:R)(b f g h i j:AV)(k:SH):Prop:=bB b false f k λl m=>W.pick b (.bool true) l λa=>wg a false (W.faddr 1 g) m λn c=>wg a false (wl n c) c λo p=>wg a false (W.faddr 2 h) p λq d=>wg a false (wl q d) d λr e=>W.grd a false (λs=>wc (.fn 89 []) [o,r] e λt u=>s t u) e λv w=>bB a false i w λx y=>wg a false (wb .eql 3 v x) y λz A=>W.pick a (.bool true) z λB=>wc (.fn 126 []) [B] A (t7 Q j)
def ua(Q:R)(a:SH)(b c d e f:AV):Prop:=bZ 2 b a λg=>aA 2 c a λh=>wc (.fn 124 []) [g,d,h,(.Xm 7),(.Xm 7)] a (t8 Q e f b c d)
def ub(Q:R)(a:Vs)(b:SH):Prop:=GC 3 4 5 6 7 a λd c e f g=>Q c b
def uc(a:Kn)(b:Vs)(c d e f:AV)(g:SH):Prop:=a [c,f,d,e,(av [0,3,5,6,14] b 7)] g
def ud(a:Kn)(b:Vs)(c d e f g:AV)(h:SH):Prop:=wc (.fn 123 []) [c,g] h (uc a b d e f)
def ue(Q:R)(f:Vs)(c:SH):Prop:=GC 0 3 5 6 14 f λg d h i l=>(true=true)∧(W.nilchk g λm=>aM 5 m [] 4 c λa j=>aM 2 d [rm 4 j] 6 c λn w=>W.calm [rm 4 j] ⟨7,[],[],[],false,[]⟩ (W.bslice 1 [(.str [])] 1 [(0,n)] c λb o=>wn [] [] (aa b) [] λx=>W.calm [] ⟨8,(aa a++aa b),(aa a),[],false,[]⟩ (W.append 1 16 a b o λk p=>wn (aa a++aa b) (aa a) (aa k) [] λy=>W.nilchk g λq=>W.faddr 5 q λr=>ds [] 11 1 r k p λe z=>W.join (ub Q) λs=>bZ 2 h e λt=>W.faddr 5 d λu=>bZ 4 u e λv=>wc (.fn 125 []) [t,i,v] e (ud s f l d h i))))
def uf(Q:R)(b c g h i:AV)(j:SH):Prop:=W.join (ue Q) λk=>(true=true)∧(wb .eql 74 i (.Xm 0) λa=>W.dgrd a true (λq=>q b j rz) j λr l Z=>W.dgrd a true (λs=>W.nilchk r λt=>s t l rz) l λu m a0=>W.dgrd a true (λv=>W.faddr 5 u λw=>v w m rz) m λx d a1=>W.dgrd a true (λy=>dl [] 6 x d λz A=>y z d A) d λB n C=>W.dgrd a true (λD=>W.faddr 2 c λE=>D E n rz) n λF e a2=>W.dgrd a true (λG=>dl [rm 6 C] 8 F e λH I=>G H e I) e λJ f a3=>W.dgrd a true (λM=>wd [] 9 (.fn 90 []) [B,J] f λN O P=>wn [] P [] f.names λS=>M N O S) f λT o a4=>W.dgrd a true (λU=>wb .geq 3 T (.Xm 0) λV=>U V o rz) o λX p a5=>W.pick a X (.bool false) λY=>wk Y (k [b,c,g,h,(.Xm 8)] p) (k [b,c,g,h,i] p))
def ug(Q:R)(a b c d e f:AV)(g:SH):Prop:=wc (.fn 123 []) [a,f] g (uf Q b c d e)
def uh(Q:R)(a b c d e f g:AV)(h:SH):Prop:=bB a false b h λi j=>W.pick a (.bool true) i λk=>wc (.fn 126 []) [k] j (ug Q g c d e f)
def ui(Q:R)(a:SH)(b c d e f g:AV):Prop:=bZ 2 b a λh=>aA 2 c a λi=>wc (.fn 124 []) [h,d,i,(.Xm 6),(.Xm 6)] a (uh Q e f g c b d)
def uj(Q:R)(f:Kn)(g:Vs)(a:SH)(h b c d e i j:AV):Prop:=wb .eql 3 h (.Xm 14) λk=>wk k ((ui Q a b c d e i j)) (f [c,(av [0,3,5,6,7,8,9,30,119] g 4),b,d,e] a)
def uk(Q:R)(g:Kn)(h:Vs)(a:SH)(b c d e f i j k:AV):Prop:=wb .eql 3 b (.Xm 13) λl=>wk l ((ua Q a c d e f i)) ((uj Q g h a b c d e f j k))
def ul(Q:R)(j:Kn)(k:Vs)(a:SH)(b c d e f g h i:AV):Prop:=wb .eql 3 b (.Xm 12) λl=>wk l ((yn Q a c d e f g h i)) ((uk Q j k a b c d e f g h i))
def um(Q:R)(i:Kn)(a:Vs)(b:SH):Prop:=LL 0 3 5 6 7 8 9 30 119 a λc d e f g h j k l=>wk l ((yk Q b e d f c g h)) ((ul Q i a b k e d f g h j c))
def uo(b:Kn)(c:SH)(a d e f g h i j:AV):Prop:=wb .eql 3 a (.Xm 10) λk=>wk k (b [d,e,f,g,h,i,j,a,k] c) (wb .eql 3 a (.Xm 11) λl=>b [d,e,f,g,h,i,j,a,l] c)
def uq(Q:R)(l:Kn)(b:SH)(a c d e f g h i:AV):Prop:=W.join (um Q l) λj=>wb .eql 3 a (.Xm 9) λk=>wk k (j [c,d,e,f,g,h,i,a,k] b) ((uo j b a c d e f g h i))
def ur(Q:R)(e:Kn)(b:SH)(c a d f g h i j:AV):Prop:=wb .eql 3 c (.Xm 8) λk=>wk k (bB a false d b λl m=>W.pick a (.bool true) l λn=>wc (.fn 126 []) [n] m λo p=>Q o p) ((uq Q e b c f g h i a d j))
def ut(Q:R)(d:Kn)(a:SH)(b c e f g h i j:AV):Prop:=wb .eql 3 b (.Xm 7) λk=>wk k (wc (.fn 126 []) [c] a λl m=>Q l m) ((ur Q d a b c e f g h i j))
def uu(Q:R)(g:Kn)(h:Vs)(a:SH):Prop:=LL 0 3 5 6 7 8 9 30 91 h λb c d e f i j k l=>wk l ((yi Q a d c e f b)) ((ut Q g a k f i b c d e j))
def uv(Q:R)(l:Kn)(b:SH)(a c d e f g h i:AV):Prop:=W.join (uu Q l) λj=>wb .eql 3 a (.Xm 5) λk=>wk k (j [c,d,e,f,g,h,i,a,k] b) (wb .eql 3 a (.Xm 6) λm=>j [c,d,e,f,g,h,i,a,m] b)
def uw(Q:R)(h:Kn)(a:SH)(b c d e f g i j:AV):Prop:=wb .eql 3 b (.Xm 4) λk=>wk k ((yh Q a c d e f g)) ((uv Q h a b g d c e f i j))
def ux(Q:R)(e:Kn)(f:Vs)(a:SH):Prop:=LL 0 3 5 6 7 8 9 30 67 f λg b c d h i j k l=>wk l (bZ 2 c a λm=>W.faddr 5 b λn=>bZ 4 n a λo=>wc (.fn 125 []) [m,d,o] a λp q=>Q p q) ((uw Q e a k c b d h g i j))
def uy(Q:R)(l:Kn)(b:SH)(c a d e f g h i:AV):Prop:=W.join (ux Q l) λj=>wb .eql 3 a (.Xm 2) λk=>wk k (j [c,d,e,f,g,h,i,a,k] b) (wb .eql 3 a (.Xm 3) λm=>j [c,d,e,f,g,h,i,a,m] b)
def uz(Q:R)(f a c d g h i:AV)(b:SH):Prop:=W.join (x9 Q) λj=>aA 0 a b λe=>wb .eql 3 e (.Xm 1) λk=>wk k ((yg Q b a c d)) ((uy Q j b f e a c d g h i))
def uA(Q:R)(a b c d e f:AV)(g:SH):Prop:=wc (.fn 122 []) [a,(.Xm 3),(.Xm 3),(.str [])] g (uz Q a b c d e f)
def uB(Q:R)(a b c d e:AV)(f:SH):Prop:=wc (.fn 122 []) [a,(.Xm 8),(.Xm 8),(.str [])] f (uA Q a b c d e)
def mh(a f:AV)(L:SH)(Q:R):Prop:=su f L λg b=>(true=true)∧(W.nilchk a λh=>W.faddr 0 h λi=>dr [] 3 2 i b λj d=>W.nilchk a λk=>aM 2 k [rm 3 d] 7 b λl e=>W.calm [rm 7 e,rm 3 d] ⟨8,[],[],[],false,[]⟩ (W.alloc [.nils,.nils] b λc m=>wn [] [] (aa c) [] λq=>ds [rm 7 e] 9 2 c j m λn r=>W.frz1 c n λo p=>wc (.fn 122 []) [a,(.Xm 7),(.Xm 7),(.str [])] p (uB Q a g o l)))
theorem yo(t0 t1:AV)(L:SH)(Q:R)(h:mh t0 t1 L Q):af Tryz.prog 91 [t0,t1] L Q:=
 fs [(48,[3,4,5,6,7]),(11,[0,3,5,6,7,8,9,30,67]),(16,[0,3,5,6,7,8,9,30,91]),(24,[0,3,5,6,7,8,9,30,119]),(46,[0,3,5,6,14])] [] [(0,[3]),(1,[5])] [(1,[0,1,3,7,0,16,48,112,0,271,1023]),(8,[0,0,0,4,15,0,0,0,128,511,1023,2047]),(9,[0,0,0,4,15,0,0,0,128,384,896,2047,0,0,0,16384,65535,131071,262143,524287]),(28,[0,0,2,0,8,0,32,120,254,510,1022,2047,4095]),(37,[0,1,3,7,0,16,63,127]),(39,[0,0,2,6,14,0,32,96,254,511,1023,2047]),(45,[0,1,3,7,15,31,63,7,135,511,1023,2047]),(47,[0,0,2,6,14,0,32,96,254,511,1023,2047]),(49,[0,0,0,4,15,0,0,0,128,511,0,2047,4095,8191,16383])] Tryz.func91 h
def gk(Q:R)(f:Kn)(g:Vs)(a:SH):Prop:=GC 0 1 6 8 9 g λb h i d j=>(true=true)∧(W.nilchk b λk=>aM 3 k [] 4 a λc l=>W.nilchk b λm=>aM 3 m [rm 4 l] 8 a λn v=>W.len n λo=>wb .sub 3 o (.Xm 1) λp=>W.calm [] ⟨11,(dS c),[],[],false,[]⟩ (W.slice 11 c none (some p) none a λq=>wn (dS c) [] [] [] λw=>W.nilchk b λr=>W.faddr 3 r λs=>ds [] 14 1 s q a λe x=>wb .neq 74 d (.Xm 0) λt=>wk t (Q (.tup [d,j]) e) (wb .add 3 i (.Xm 1) λu=>f [b,h,u] e)))
def kH(b:Kn)(c d e a:AV)(f:SH):Prop:=W.ext 0 a λg=>W.ext 1 a λh=>b [c,d,e,g,h] f
def gl(Q:R)(h:Kn)(i a c d e:AV)(b:SH):Prop:=W.ext 0 e λf=>W.ext 1 e λj=>W.join (gk Q h) λg=>wb .eql 74 f (.Xm 0) λk=>wk k (aA 10 i b λl=>wc (.fn 58 []) [a,l] b (kH g a c d)) (g [a,c,d,f,j] b)
def yp(Q:R)(j:Kn)(d:SH)(b e k l:AV):Prop:=(true=true)∧(W.nilchk b λm=>aM 3 m [] 3 d λa g=>dr [rm 3 g] 4 11 e d λn o=>W.len a λp=>W.calm [rm 4 o,rm 3 g] ⟨6,[],[],[],false,[]⟩ (W.bslice 11 [(.Xm 0),(.Xm 0),(.str []),(.str []),.nils,(.Xm 0),(.Xm 0),(.str []),.nils,.nils,.nils] 1 [(0,(.agg [(.Xm 0),(.Xm 0),(.str []),(.str []),.nils,(.Xm 0),(.Xm 0),(.str []),.nils,.nils,.nils]))] d λc q=>wn [] [] (aa c) [] λy=>W.calm [] ⟨7,(aa a++aa c),(aa a),[],false,[]⟩ (W.append 11 176 a c q λf h=>wn (aa a++aa c) (aa a) (aa f) [] λz=>di [] 8 11 f p h λr s=>ds [] 9 11 r n h λt u=>W.nilchk b λv=>W.faddr 3 v λw=>ds [rm 9 u,rm 8 s] 12 1 w f t λi A=>aA 9 e i λx=>wc (.fn 58 []) [b,x] i (gl Q j e b k l))))
def gm(Q:R)(d:Kn)(e:Vs)(a:SH):Prop:=GC 0 1 6 7 8 e λf g h b c=>wb .neq 74 c (.Xm 0) λi=>wk i ((true=true)∧(aM 1 b [] 2 a λj k=>Q (.tup [c,j]) a)) ((yp Q d a f b g h))
def yq(Q:R)(g:Kn)(a c d e h:AV)(b:SH):Prop:=W.join (gm Q g) λf=>dO 3 a b λi=>W.len i λj=>wb .add 3 j (.Xm 1) λk=>wb .gtr 3 k (.Xm 6) λl=>wk l (f [a,c,d,e,(.Xm 2)] b) (f [a,c,d,e,h] b)
def yr(Q:R)(g:Kn)(a:SH)(b c d:AV):Prop:=lD 11 b c a λh=>qv [(.Xm 0),(.Xm 0),(.str []),(.str []),.nils,(.Xm 0),(.Xm 0),(.str []),.nils,.nils,.nils] 11 h a λe f=>bZ 11 e f λi=>wc (.fn 91 []) [d,i] f (yq Q g d b c e)
def kI(Q:R)(d:Vs)(a:SH)(e:Kn):Prop:=vY 0 1 6 d λf b c=>W.len b λg=>wb .lss 3 c g λh=>wk h ((yr Q e a b c f)) (Q (.tup [(.Xm 0),(.Xm 0)]) a)
def mi(a b:AV)(L:SH)(Q:R):Prop:=W.loop (kI Q) [a,b,(.Xm 0)] L
theorem yu(t0 t1:AV)(L:SH)(Q:R)(h:mi t0 t1 L Q):af Tryz.prog 58 [t0,t1] L Q:=
 fs [(7,[0,1,6,7,8]),(13,[0,1,6,8,9])] [(2,[0,1,6])] [(4,[7])] [(9,[0,0,2,1,15]),(10,[0,1,3,7,0,15,0,127,255,511,255,1279,3327]),(14,[0,0,2,6,14,0,32,96,224,480,992,2046,4095,8191,16383])] Tryz.func58 h
end
end Go.Proofs.YtdnpdghlggbklaaGreatDoor.Am
