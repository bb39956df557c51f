/- A part of the proof; the statement is proved in the last part. -/
import Derived.Test.YtdnpdghlggbklaaGreatDoorQss
set_option linter.unusedSimpArgs false
set_option linter.unusedVariables false
namespace Go.Proofs.YtdnpdghlggbklaaGreatDoor.Am
section
set_option maxRecDepth 100000
set_option maxHeartbeats 2000000
theorem ao.pureR(x:ao):aX (.agg x.row):=by rw[←x.enc_row];exact .aggs x.pure
theorem ab.pureR(x:ab):aX (.agg x.row):=by rw[←x.enc_row];exact .aggs x.pure
theorem Et:∀a∈([]:List AV),aX a:=nofun
theorem eg{x:AV}{l:List AV}(h:aX x)(t:∀a∈l,aX a):∀a∈x::l,aX a:=by simp only[Wp];exact⟨h,t⟩
theorem pv{l:List AV}(h:∀a∈l,aX a:=by repeat first|exact Et|refine eg ?_ ?_|exact .int _ _|exact .bool _|exact .str _|exact bQ.pure _|exact ao.pureR _|exact ab.pureR _|exact .lmap λx _=>x.pure|exact .lmap λx _=>lZ x|exact .aggs (aG.pure _)|fail):∀a∈l,aX a:=h
@[irreducible] noncomputable def vI (f:FuncId) (args:List AV):Int:=Classical.epsilon λn=>ax Tryz.prog f args (.Xw n)
@[irreducible] noncomputable def vB (f:FuncId) (args:List AV):Bool:=Classical.epsilon λn=>ax Tryz.prog f args (.bool n)
@[irreducible] noncomputable def vE (f:FuncId) (args:List AV):Int×Int:=Classical.epsilon λn=>ax Tryz.prog f args (.tup [.Xw n.1,.Xw n.2])
abbrev TI(f:FuncId)(args:List AV):Prop:=ax Tryz.prog f args (.Xw (vI f args))
abbrev TB(f:FuncId)(args:List AV):Prop:=ax Tryz.prog f args (.bool (vB f args))
abbrev TE(f:FuncId)(args:List AV):Prop:=ax Tryz.prog f args (.tup [.Xw (vE f args).1,.Xw (vE f args).2])
theorem VD{G:Int→Prop}{f:FuncId}{args:List AV}(h:∀Q:R,(∀(n:Int) K,G n→Q (.Xw n) K)→af Tryz.prog f args [] Q)(ha:∀a∈args,aX a:=by exact pv):∃n:Int,G n∧ax Tryz.prog f args (.Xw n):=by obtain⟨v,K,⟨n,rfl,hg⟩,hp⟩:=(h (λu K=>∃n,u=.Xw n∧G n) λn K hg=>⟨n,rfl,hg⟩).pure ha (by rintro _ _ ⟨n,rfl,_⟩;exact .int _ _);exact⟨n,hg,hp⟩
theorem ti{f:FuncId}{args:List AV}(h:∀Q:R,(∀(n:Int) K,Q (.Xw n) K)→af Tryz.prog f args [] Q)(ha:∀a∈args,aX a:=by exact pv):TI f args:=by obtain⟨n,_,hp⟩:=VD (G:=λ_=>True) (λQ hq=>h Q λn K=>hq n K trivial) ha;unfold TI vI;exact Classical.epsilon_spec (p:=λn=>ax Tryz.prog f args (.Xw n)) ⟨n,hp⟩
abbrev UM(op line:Int)(name arg:aZ)(index:List ao)(e:ao)(body els:List ab):AV:=(.pptr [[.Xw op,.Xw line,.str name,.str arg,.lst (index.map ao.enc),.Xw e.op,.Xw e.n,.str e.name,.lst (e.l.map ao.enc),.lst (body.map ab.enc),.lst (els.map ab.enc)]] 0 0)
theorem tb{f:FuncId}{args:List AV}(h:∀Q:R,(∀(n:Bool) K,Q (.bool n) K)→af Tryz.prog f args [] Q)(ha:∀a∈args,aX a:=by exact pv):TB f args:=by obtain⟨v,K,⟨n,rfl⟩,hp⟩:=(h (λu K=>∃n,u=.bool n) λn K=>⟨n,rfl⟩).pure ha (by rintro _ _ ⟨n,rfl⟩;exact .bool _);unfold TB vB;exact Classical.epsilon_spec (p:=λn=>ax Tryz.prog f args (.bool n)) ⟨n,hp⟩
theorem te{f:FuncId}{args:List AV}(h:∀Q:R,(∀(a b:Int) K,Q (.tup [.Xw a,.Xw b]) K)→af Tryz.prog f args [] Q)(ha:∀a∈args,aX a:=by exact pv):TE f args:=by obtain⟨v,K,⟨a,b,rfl⟩,hp⟩:=(h (λu K=>∃a b,u=.tup [.Xw a,.Xw b]) λa b K=>⟨a,b,rfl⟩).pure ha (by rintro _ _ ⟨a,b,rfl⟩;exact OP _ _);unfold TE vE;exact Classical.epsilon_spec (p:=λn:Int×Int=>ax Tryz.prog f args (.tup [.Xw n.1,.Xw n.2])) ⟨(a,b),hp⟩
theorem Gi{β:Type}(n:Nat)(S:Nat→β→List AV)(x0:β){B:List AV→SH→W.Kn→Prop}{vs:List AV}{L:SH}(hl:n<2^62)(hv:vs=S 0 x0)
  (h1:∀i x,i<n→decide ((i:Int)<(n:Int))=true→IntKind.i64.wrap ((i:Int)+1)=((i+1:Nat):Int)→∀nx:W.Kn,(∀y,nx (S (i+1) y) L)→B (S i x) L nx)
  (h2:∀i x,i=n→decide ((i:Int)<(n:Int))=false→∀nx:W.Kn,B (S i x) L nx):W.loop B vs L:=by
 refine cb n (λi x=>(S i x,L)) (λ_ _=>True) x0 trivial (by rw[hv];exact .refl _ _) λi x hi _=>?_
 rcases VO i n with h|h
 ·exact h1 i x h (bK h) (aD h hl) _ λy=>⟨i+1,y,Xr,Xr,trivial,.refl _ _⟩
 ·exact h2 i x Xr (bO h) _
theorem l5(n:Nat)(S:Nat→List AV){B:List AV→SH→W.Kn→Prop}{vs:List AV}{L:SH}(hl:n<2^62)(hv:vs=S 0)
  (h1:∀i,i<n→decide ((i:Int)<(n:Int))=true→IntKind.i64.wrap ((i:Int)+1)=((i+1:Nat):Int)→∀nx:W.Kn,nx (S (i+1)) L→B (S i) L nx)
  (h2:∀i,i=n→decide ((i:Int)<(n:Int))=false→∀nx:W.Kn,B (S i) L nx):W.loop B vs L:=
 Gi n (λi (_:Unit)=>S i) () hl hv (λi _ h hd hi nx hn=>h1 i h hd hi nx (hn ())) λi _ e hd nx=>h2 i e hd nx
theorem Jp(c:Int):TB 118 [.int .u8 c]:=by
 refine tb λQ hq=>nw _ _ _ ?_
 unfold jq
 repeat' (first|refine st ?_|refine sb λnb_ hnb_=>?_|refine s2 (λh=>?_) λh=>?_|fail)
 all_goals exact hq _ _
theorem Qi(c:Int):TB 142 [.int .u8 c]:=by
 refine tb λQ hq=>pE _ _ _ ?_
 unfold lf
 repeat' (first|refine st ?_|refine sb λnb_ hnb_=>?_|refine s2 (λh=>?_) λh=>?_|fail)
 all_goals exact hq _ _
theorem Qj(c:Int):TB 120 [.int .u8 c]:=by
 refine tb λQ hq=>pF _ _ _ ?_
 unfold lg
 repeat' (first|refine st ?_|(refine pf 118 ?_;refine pm (Jp _) ?_)|(refine pf 142 ?_;refine pm (Qi _) ?_)|refine sb λnb_ hnb_=>?_|refine s2 (λh=>?_) λh=>?_|fail)
 all_goals exact hq _ _
theorem LG:∀rows:List (List AV),(rows.all λr=>match r with|[.str _]=>true|_=>false)=true→∃l:List aZ,rows=l.map aq∧l.length=rows.length
 |[],_=>⟨[],rfl,rfl⟩
 | [.str s]::l,h=>by obtain⟨m,h1,h2⟩:=LG l (by simpa using h);exact⟨s::m,by rw[h1];rfl,by simp[h2]⟩
theorem SO:∃l:List aZ,ax Tryz.prog 141 [] (.lst (l.map aq))∧l.length<2^62:=by
 obtain⟨v,K,⟨l,rfl,hl⟩,hp⟩:=af.pure (P:=Tryz.prog) (f:=141) (args:=[]) (Q:=λv K=>∃l:List aZ,v=.lst (l.map aq)∧l.length<2^62) (by
  refine af.fz (km _ _ ?_);unfold gO
  repeat' (first|refine st ?_|refine sb λnb_ hnb_=>?_|refine s2 (λh=>?_) λh=>?_|fail)
  refine(λ{rows:List (List AV)} {n:Nat} (hr:(rows.all λr=>match r with|[.str _]=>true|_=>false)=true) (hn:rows.length=n) (h9:n<2^62) (hmm:(nb_,(⟨1,rows⟩:Blk))∈[(nb_,⟨1,rows⟩)])=>?_:∀{rows:List (List AV)} {n:Nat},(rows.all λr=>match r with|[.str _]=>true|_=>false)=true→rows.length=n→n<2^62→(nb_,(⟨1,rows⟩:Blk))∈[(nb_,⟨1,rows⟩)]→∃v2 L2,aF [.sl nb_ 0 n] [(nb_,⟨1,rows⟩)] [v2] L2∧∃l:List aZ,v2=.lst (l.map aq)∧l.length<2^62) rfl rfl Xv (.head _);obtain⟨l,h1,h2⟩:=LG _ hr;exact⟨_,[],aF.all (Fz.sls (l:=l) (f:=aq) hmm h1 Xv Xr),l,rfl,Xr⟩) nofun (by rintro _ _ ⟨l,rfl,_⟩;exact .lmap λx _=>lZ x)
 exact⟨l,hp,hl⟩
theorem UN(s:aZ):TB 119 [.str s]:=by
 obtain⟨l,hk,hl⟩:=SO;refine tb λQ hq=>jr _ _ _ ?_
 unfold fY
 repeat' (first|refine st ?_|(refine pf 141 ?_;refine pm (hk) ?_)|refine sb λnb_ hnb_=>?_|refine s2 (λh=>?_) λh=>?_|fail)
 refine l5 l.length (λi=>[.str s,.lst (l.map aq),.Xw i]) hl rfl (λi h1 hd hi nx hn=>?_) (λi h1 hd nx=>?_)
 all_goals unfold fB
 ·have hx:=ay (f:=aq) h1
  repeat' (first|refine st ?_|refine sb λnb_ hnb_=>?_|refine s2 (λh=>?_) λh=>?_|fail)
  all_goals first|exact hq _ _|exact hn
 ·repeat' (first|refine st ?_|refine sb λnb_ hnb_=>?_|refine s2 (λh=>?_) λh=>?_|fail)
  exact hq _ _
theorem jB(s:aZ)(hs:s.length<2^62):TB 86 [.str s]:=by
 refine tb λQ hq=>iv _ _ _ ?_
 unfold fZ;by_cases h0:0<s.length
 ·have d1:decide ((s.length:Int)<1)=false:=by simpa using(by omega:(1:Int)≤s.length)
  repeat' (first|refine st ?_|refine Lm (i:=0) ?_ h0|(refine pf 118 ?_;refine pm (Jp _) ?_)|(refine pf 119 ?_;refine pm (UN _) ?_)|refine sb λnb_ hnb_=>?_|refine s2 (λh=>?_) λh=>?_|fail)
  all_goals first|exact hq _ _|skip
  all_goals
   refine l5 s.length (λi=>[.str s,.Xw i]) hs rfl (λi h1 hd hi nx hn=>?_) (λi h1 hd nx=>?_)
   all_goals unfold iu
   ·repeat' (first|refine st ?_|refine Lm ?_|(refine pf 120 ?_;refine pm (Qj _) ?_)|refine sb λnb_ hnb_=>?_|refine s2 (λh=>?_) λh=>?_|fail)
    all_goals first|exact hq _ _|exact hn
   ·repeat' (first|refine st ?_|refine sb λnb_ hnb_=>?_|refine s2 (λh=>?_) λh=>?_|fail)
    exact hq _ _
 ·have d1:decide ((s.length:Int)<1)=true:=by simpa using(by omega:(s.length:Int)<1)
  repeat' (first|refine st ?_|refine sb λnb_ hnb_=>?_|refine s2 (λh=>?_) λh=>?_|fail)
  exact hq _ _
theorem Kx(op:Int):TI 154 [.Xw op]:=by
 refine ti λQ hq=>xA _ _ _ ?_
 unfold lQ
 repeat' (first|refine st ?_|refine sb λnb_ hnb_=>?_|refine s2 (λh=>?_) λh=>?_|fail)
 all_goals exact hq _ _
theorem OR:∀(k:Nat) (x:ao),x.wt≤k→k<2^40→TB 143 [.agg x.row]:=by
 intro k
 induction k with
 |zero=>intro x h;have:=x.wt_eq;omega
 |succ k ih=>
  intro x hk hb;have hnm:=jB x.name (by have:=x.wt_eq;omega);refine tb λQ hq=>qE _ _ _ ?_
  unfold jt
  repeat' (first|refine st ?_|(refine pf 154 ?_;refine pm (Kx _) ?_)|(refine pf 86 ?_;refine pm (hnm) ?_)|refine sb λnb_ hnb_=>?_|refine s2 (λh=>?_) λh=>?_|fail)
  all_goals first|exact hq _ _|skip
  all_goals
   refine l5 x.l.length (λi=>[.pptr [x.row] 0 0,.Xw i]) (by have:=x.len;omega) rfl (λi h1 hd hi nx hn=>?_) (λi h1 hd nx=>?_)
   all_goals unfold iF
   ·have hx:=Ds h1;have hc:=ih x.l[i] (by have:=x.kid h1;omega) Xr
    repeat' (first|refine st ?_|(refine pf 143 ?_;refine pm (hc) ?_)|refine sb λnb_ hnb_=>?_|refine s2 (λh=>?_) λh=>?_|fail)
    all_goals first|exact hq _ _|exact hn
   ·repeat' (first|refine st ?_|refine sb λnb_ hnb_=>?_|refine s2 (λh=>?_) λh=>?_|fail)
    all_goals exact hq _ _
theorem Qk(x:ao):TB 144 [.agg x.row]:=by
 refine tb λQ hq=>DM _ _ _ ?_
 unfold r8
 repeat' (first|refine st ?_|refine sb λnb_ hnb_=>?_|refine s2 (λh=>?_) λh=>?_|fail)
 all_goals exact hq _ _
theorem Ky(l:List ab)(hl:l.length<2^40)(h:∀i (hi:i<l.length),TB 121 [.agg l[i].row]):TB 87 [.lst (l.map ab.enc)]:=by
 refine tb λQ hq=>pH _ _ _ ?_
 unfold iG;refine l5 l.length (λi=>[.lst (l.map ab.enc),.Xw i]) Xr rfl (λi h1 hd hi nx hn=>?_) (λi h1 hd nx=>?_)
 all_goals unfold hZ
 ·have hx:=F1 h1;have hc:=h i h1
  repeat' (first|refine st ?_|(refine pf 121 ?_;refine pm (hc) ?_)|refine sb λnb_ hnb_=>?_|refine s2 (λh=>?_) λh=>?_|fail)
  all_goals first|exact hq _ _|exact hn
 ·repeat' (first|refine st ?_|refine sb λnb_ hnb_=>?_|refine s2 (λh=>?_) λh=>?_|fail)
  exact hq _ _
section
variable {op line:Int} {name arg:aZ} {index:List ao} {e:ao} {body els:List ab} {Q:R} (hq:∀(n:Bool) K,Q (.bool n) K)
 (c1:TB 87 [.lst (body.map ab.enc)]) (c2:TB 87 [.lst (els.map ab.enc)]) (c3:TB 143 [.agg [.Xw e.op,.Xw e.n,.str e.name,.lst (e.l.map ao.enc)]]) (c4:TB 144 [.agg [.Xw e.op,.Xw e.n,.str e.name,.lst (e.l.map ao.enc)]])
 (c7:∀i∈index,TB 143 [.agg i.row]) (c5:TB 86 [.str arg]) (c6:TB 86 [.str name])
include hq c1 c2
theorem UO:eY Q [] (UM op line name arg index e body els):=by
 unfold eY
 repeat' (first|refine st ?_|(refine pf 87 ?_;refine pm (c1) ?_)|(refine pf 87 ?_;refine pm (c2) ?_)|refine sb λnb_ hnb_=>?_|refine s2 (λh=>?_) λh=>?_|fail)
 all_goals exact hq _ _
include c3 c4
theorem UP:eZ Q [] (UM op line name arg index e body els):=by
 unfold eZ
 repeat' (first|with_reducible exact UO hq c1 c2|refine st ?_|(refine pf 143 ?_;refine pm (c3) ?_)|(refine pf 144 ?_;refine pm (c4) ?_)|refine sb λnb_ hnb_=>?_|refine s2 (λh=>?_) λh=>?_|fail)
 all_goals exact hq _ _
include c7
theorem UQ:fa Q [] (UM op line name arg index e body els):=by
 have z1:=λ(_:True)=>UP (op:=op) (line:=line) (name:=name) (arg:=arg) (index:=index) hq c1 c2 c3 c4;clear c1 c2 c3 c4;unfold fa;by_cases hn:index.length=1
 ·obtain⟨i,rfl⟩:=List.length_eq_one_iff.1 hn;have h1:=c7 i (.head _);unfold ao.row at h1;have hx0:=Ds (l:=[i]) (i:=0) Xu
  repeat' (first|with_reducible exact z1 trivial|refine st ?_|(refine pf 143 ?_;refine pm (h1) ?_)|refine sb λnb_ hnb_=>?_|refine s2 (λh=>?_) λh=>?_|fail)
  all_goals exact hq _ _
 ·have d1:decide ((index.length:Int)=1)=false:=by simpa using(by omega:¬(index.length:Int)=1)
  repeat' (first|with_reducible exact z1 trivial|refine st ?_|refine sb λnb_ hnb_=>?_|refine s2 (λh=>?_) λh=>?_|fail)
  all_goals exact hq _ _
include c5
theorem UR:fb Q [] (UM op line name arg index e body els):=by
 have z2:=λ(_:True)=>UQ (op:=op) (line:=line) (name:=name) (arg:=arg) hq c1 c2 c3 c4 c7;clear c1 c2 c3 c4 c7;unfold fb
 repeat' (first|with_reducible exact z2 trivial|refine st ?_|(refine pf 86 ?_;refine pm (c5) ?_)|refine sb λnb_ hnb_=>?_|refine s2 (λh=>?_) λh=>?_|fail)
 all_goals exact hq _ _
include c6
theorem US:fe Q [] (UM op line name arg index e body els):=by
 have z3:=λ(_:True)=>UR (op:=op) (line:=line) (name:=name) hq c1 c2 c3 c4 c7 c5;clear c1 c2 c3 c4 c7 c5;unfold fe
 repeat' (first|with_reducible exact z3 trivial|refine st ?_|(refine pf 86 ?_;refine pm (c6) ?_)|refine sb λnb_ hnb_=>?_|refine s2 (λh=>?_) λh=>?_|fail)
 all_goals exact hq _ _
end
theorem UT:∀(k:Nat) (x:ab),x.wt≤k→k<2^40→TB 121 [.agg x.row]:=by
 intro k
 induction k with
 |zero=>intro x h;have:=x.wt_eq;omega
 |succ k ih=>
  intro x hk hb;have hw:=x.wt_eq;have l1:=ab.wts_len x.body;have l2:=ab.wts_len x.els;have c1:=Ky x.body Xr λi hi=>ih _ (by have:=ab.wts_get _ i hi;omega) Xr
  have c2:=Ky x.els Xr λi hi=>ih _ (by have:=ab.wts_get _ i hi;omega) Xr
  have c7:∀i∈x.index,TB 143 [.agg i.row]:=λi hi=>by obtain⟨j,hj,rfl⟩:=WO hi;exact OR _ _ (VL _) (by have:=ao.wts_get x.index j hj;omega)
  refine tb λQ hq=>qG _ _ _ ?_
  have z4:=λ(_:True)=>US (op:=x.op) (line:=x.line) hq c1 c2 (OR _ x.expr (VL _) Xr) (Qk x.expr) c7 (jB x.arg Xr) (jB x.name Xr);clear c1 c2 c7 ih hk hw l1 l2 hb;unfold ju ab.row
  repeat' (first|with_reducible exact z4 trivial|refine st ?_|refine sb λnb_ hnb_=>?_|refine s2 (λh=>?_) λh=>?_|fail)
  all_goals exact hq _ _
theorem OS(d:aG)(hw:d.wt<2^40):TB 85 [.agg d.enc]:=by
 have h1:=jB d.name (by unfold aG.wt at hw;omega);have h2:=jB d.on (by unfold aG.wt at hw;omega);refine tb λQ hq=>qH _ _ _ ?_
 have z0:True→ff Q [] (.pptr [d.enc] 0 0):=by
  intro _;unfold ff
  repeat' (first|refine st ?_|refine sb λnb_ hnb_=>?_|refine s2 (λh=>?_) λh=>?_|fail)
  all_goals exact hq _ _
 have z1:True→fg Q [] (.pptr [d.enc] 0 0):=by
  intro _;unfold fg
  repeat' (first|with_reducible exact z0 trivial|refine st ?_|(refine pf 86 ?_;refine pm (h2) ?_)|refine sb λnb_ hnb_=>?_|refine s2 (λh=>?_) λh=>?_|fail)
  all_goals exact hq _ _
 unfold jv
 repeat' (first|with_reducible exact z1 trivial|refine st ?_|(refine pf 86 ?_;refine pm (h1) ?_)|refine sb λnb_ hnb_=>?_|refine s2 (λh=>?_) λh=>?_|fail)
 all_goals exact hq _ _
theorem OT(p:bQ)(hw:p.wt<2^40):TB 54 [.agg p.enc]:=by
 have hl1:=p.decls_len;have hl2:=p.threads_len;refine tb λQ hq=>Cb _ _ _ ?_
 unfold pI
 repeat' (first|refine st ?_|refine sb λnb_ hnb_=>?_|refine s2 (λh=>?_) λh=>?_|fail)
 refine l5 p.decls.length (λi=>[.pptr [p.enc] 0 0,.Xw i]) Xr rfl (λi h1 hd hi nx hn=>?_) (λi h1 hd nx=>?_)
 all_goals unfold nB
 ·have hx:=ay (f:=aG.enc) h1;have hc:=OS p.decls[i] (by have:=p.decl_wt h1;omega)
  repeat' (first|refine st ?_|(refine pf 85 ?_;refine pm (hc) ?_)|refine sb λnb_ hnb_=>?_|refine s2 (λh=>?_) λh=>?_|fail)
  all_goals first|exact hq _ _|exact hn
 ·repeat' (first|refine st ?_|refine sb λnb_ hnb_=>?_|refine s2 (λh=>?_) λh=>?_|fail)
  refine l5 p.threads.length (λi=>[.pptr [p.enc] 0 0,.Xw i]) Xr rfl (λi h1 hd hi nx hn=>?_) (λi h1 hd nx=>?_)
  all_goals unfold nA
  ·have hx:=ay (f:=ah.enc) h1;have hwt:=p.thread_wt h1;have hloc:=λj (hj:j<(p.threads[i]).locals.length)=>(p.threads[i]).local_len hj
   have hwe:(p.threads[i]).wt=1+(p.threads[i]).name.length+(p.threads[i]).locals.length+((p.threads[i]).locals.map List.length).sum+ab.wts (p.threads[i]).body:=rfl;have hnm:=jB (p.threads[i]).name Xr;have hbd:=Ky (p.threads[i]).body (by have:=ab.wts_len (p.threads[i]).body;omega) λj hj=>UT _ _ (VL _) (by have:=ab.wts_get _ j hj;omega)
   generalize p.threads[i]=t at *
   repeat' (first|refine st ?_|refine sb λnb_ hnb_=>?_|refine s2 (λh=>?_) λh=>?_|fail)
   refine l5 t.locals.length (λj=>[.pptr [p.enc] 0 0,.Xw i,.pptr [t.enc] 0 0,.Xw j]) Xr rfl (λj h1 hd hi2 nx2 hn2=>?_) (λj h1 hd nx2=>?_)
   all_goals unfold nz
   ·have hx2:=ay (f:=aq) h1;have hc:=jB t.locals[j] (by have:=hloc j h1;omega)
    repeat' (first|refine st ?_|(refine pf 86 ?_;refine pm (hc) ?_)|refine sb λnb_ hnb_=>?_|refine s2 (λh=>?_) λh=>?_|fail)
    all_goals first|exact hq _ _|exact hn2
   ·repeat' (first|refine st ?_|(refine pf 86 ?_;refine pm (hnm) ?_)|(refine pf 87 ?_;refine pm (hbd) ?_)|refine sb λnb_ hnb_=>?_|refine s2 (λh=>?_) λh=>?_|fail)
    all_goals first|exact hq _ _|exact hn
  ·repeat' (first|refine st ?_|refine sb λnb_ hnb_=>?_|refine s2 (λh=>?_) λh=>?_|fail)
   exact hq _ _
end
end Go.Proofs.YtdnpdghlggbklaaGreatDoor.Am
