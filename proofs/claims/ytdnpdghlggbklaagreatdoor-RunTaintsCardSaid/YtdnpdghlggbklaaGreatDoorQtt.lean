/- A part of the proof; the statement is proved in the last part. -/
import Derived.Test.YtdnpdghlggbklaaGreatDoorQts
set_option linter.unusedSimpArgs false
set_option linter.unusedVariables false
namespace Go.Proofs.YtdnpdghlggbklaaGreatDoor.Am
section
set_option maxRecDepth 100000
set_option maxHeartbeats 2000000
theorem aq.pureR(x:aq):bv (.agg x.row):=by rw[←x.enc_row];exact .aggs x.pure
theorem ab.pureR(x:ab):bv (.agg x.row):=by rw[←x.enc_row];exact .aggs x.pure
theorem FN:∀a∈([]:List AV),bv a:=nofun
theorem eG{x:AV}{l:List AV}(h:bv x)(t:∀a∈l,bv a):∀a∈x::l,bv a:=by simp only[YO];exact⟨h,t⟩
theorem pv{l:List AV}(h:∀a∈l,bv a:=by repeat first|exact FN|refine eG ?_ ?_|exact .int _ _|exact .bool _|exact .str _|exact bZ.pure _|exact aq.pureR _|exact ab.pureR _|exact .lmap λx _=>x.pure|exact .lmap λx _=>mN x|exact .aggs (aJ.pure _)|fail):∀a∈l,bv a:=h
@[irreducible] noncomputable def vI (f:FuncId) (args:List AV):Int:=Classical.epsilon λn=>az Tryz.prog f args (.ZO n)
@[irreducible] noncomputable def vB (f:FuncId) (args:List AV):Bool:=Classical.epsilon λn=>az Tryz.prog f args (.bool n)
@[irreducible] noncomputable def vE (f:FuncId) (args:List AV):Int×Int:=Classical.epsilon λn=>az Tryz.prog f args (.tup [.ZO n.1,.ZO n.2])
abbrev TI(f:FuncId)(args:List AV):Prop:=az Tryz.prog f args (.ZO (vI f args))
abbrev TB(f:FuncId)(args:List AV):Prop:=az Tryz.prog f args (.bool (vB f args))
abbrev TE(f:FuncId)(args:List AV):Prop:=az Tryz.prog f args (.tup [.ZO (vE f args).1,.ZO (vE f args).2])
theorem XZ{G:Int→Prop}{f:FuncId}{args:List AV}(h:∀Q:R,(∀(n:Int) K,G n→Q (.ZO n) K)→af Tryz.prog f args [] Q)(ha:∀a∈args,bv a:=by exact pv):∃n:Int,G n∧az Tryz.prog f args (.ZO n):=by obtain⟨v,K,⟨n,rfl,hg⟩,hp⟩:=(h (λu K=>∃n,u=.ZO n∧G n) λn K hg=>⟨n,rfl,hg⟩).pure ha (by rintro _ _ ⟨n,rfl,_⟩;exact .int _ _);exact⟨n,hg,hp⟩
theorem ti{f:FuncId}{args:List AV}(h:∀Q:R,(∀(n:Int) K,Q (.ZO n) K)→af Tryz.prog f args [] Q)(ha:∀a∈args,bv a:=by exact pv):TI f args:=by obtain⟨n,_,hp⟩:=XZ (G:=λ_=>True) (λQ hq=>h Q λn K=>hq n K trivial) ha;unfold TI vI;exact Classical.epsilon_spec (p:=λn=>az Tryz.prog f args (.ZO n)) ⟨n,hp⟩
abbrev W5(op line:Int)(name arg:bC)(index:List aq)(e:aq)(body els:List ab):AV:=(.pptr [[.ZO op,.ZO line,.str name,.str arg,.lst (index.map aq.enc),.ZO e.op,.ZO e.n,.str e.name,.lst (e.l.map aq.enc),.lst (body.map ab.enc),.lst (els.map ab.enc)]] 0 0)
theorem tb{f:FuncId}{args:List AV}(h:∀Q:R,(∀(n:Bool) K,Q (.bool n) K)→af Tryz.prog f args [] Q)(ha:∀a∈args,bv a:=by exact pv):TB f args:=by obtain⟨v,K,⟨n,rfl⟩,hp⟩:=(h (λu K=>∃n,u=.bool n) λn K=>⟨n,rfl⟩).pure ha (by rintro _ _ ⟨n,rfl⟩;exact .bool _);unfold TB vB;exact Classical.epsilon_spec (p:=λn=>az Tryz.prog f args (.bool n)) ⟨n,hp⟩
theorem te{f:FuncId}{args:List AV}(h:∀Q:R,(∀(a b:Int) K,Q (.tup [.ZO a,.ZO b]) K)→af Tryz.prog f args [] Q)(ha:∀a∈args,bv a:=by exact pv):TE f args:=by obtain⟨v,K,⟨a,b,rfl⟩,hp⟩:=(h (λu K=>∃a b,u=.tup [.ZO a,.ZO b]) λa b K=>⟨a,b,rfl⟩).pure ha (by rintro _ _ ⟨a,b,rfl⟩;exact QH _ _);unfold TE vE;exact Classical.epsilon_spec (p:=λn:Int×Int=>az Tryz.prog f args (.tup [.ZO n.1,.ZO n.2])) ⟨(a,b),hp⟩
theorem HH{β:Type}(n:Nat)(S:Nat→β→List AV)(x0:β){B:List AV→SH→W.Kn→Prop}{vs:List AV}{L:SH}(hl:n<2^62)(hv:vs=S 0 x0)
  (h1:∀i x,i<n→decide ((i:Int)<(n:Int))=true→IntKind.i64.wrap ((i:Int)+1)=((i+1:Nat):Int)→∀nx:W.Kn,(∀y,nx (S (i+1) y) L)→B (S i x) L nx)
  (h2:∀i x,i=n→decide ((i:Int)<(n:Int))=false→∀nx:W.Kn,B (S i x) L nx):W.loop B vs L:=by
 refine bW n (λi x=>(S i x,L)) (λ_ _=>True) x0 trivial (by rw[hv];exact .refl _ _) λi x hi _=>?_
 rcases X9 i n with h|h
 ·exact h1 i x h (bE h) (aA h hl) _ λy=>⟨i+1,y,ZJ,ZJ,trivial,.refl _ _⟩
 ·exact h2 i x ZJ (bI h) _
theorem mO(n:Nat)(S:Nat→List AV){B:List AV→SH→W.Kn→Prop}{vs:List AV}{L:SH}(hl:n<2^62)(hv:vs=S 0)
  (h1:∀i,i<n→decide ((i:Int)<(n:Int))=true→IntKind.i64.wrap ((i:Int)+1)=((i+1:Nat):Int)→∀nx:W.Kn,nx (S (i+1)) L→B (S i) L nx)
  (h2:∀i,i=n→decide ((i:Int)<(n:Int))=false→∀nx:W.Kn,B (S i) L nx):W.loop B vs L:=
 HH n (λi (_:Unit)=>S i) () hl hv (λi _ h hd hi nx hn=>h1 i h hd hi nx (hn ())) λi _ e hd nx=>h2 i e hd nx
theorem KV(c:Int):TB 118 [.int .u8 c]:=by
 refine tb λQ hq=>oN _ _ _ ?_
 unfold jM
 repeat' (first|refine st ?_|refine sb λnb_ hnb_=>?_|refine s2 (λh=>?_) λh=>?_|fail)
 all_goals exact hq _ _
theorem Sr(c:Int):TB 142 [.int .u8 c]:=by
 refine tb λQ hq=>qH _ _ _ ?_
 unfold lV
 repeat' (first|refine st ?_|refine sb λnb_ hnb_=>?_|refine s2 (λh=>?_) λh=>?_|fail)
 all_goals exact hq _ _
theorem Ss(c:Int):TB 120 [.int .u8 c]:=by
 refine tb λQ hq=>qI _ _ _ ?_
 unfold lW
 repeat' (first|refine st ?_|(refine pf 118 ?_;refine pm (KV _) ?_)|(refine pf 142 ?_;refine pm (Sr _) ?_)|refine sb λnb_ hnb_=>?_|refine s2 (λh=>?_) λh=>?_|fail)
 all_goals exact hq _ _
theorem Nk:∀rows:List (List AV),(rows.all λr=>match r with|[.str _]=>true|_=>false)=true→∃l:List bC,rows=l.map av∧l.length=rows.length
 |[],_=>⟨[],rfl,rfl⟩
 | [.str s]::l,h=>by obtain⟨m,h1,h2⟩:=Nk l (by simpa using h);exact⟨s::m,by rw[h1];rfl,by simp[h2]⟩
theorem U0:∃l:List bC,az Tryz.prog 141 [] (.lst (l.map av))∧l.length<2^62:=by
 obtain⟨v,K,⟨l,rfl,hl⟩,hp⟩:=af.pure (P:=Tryz.prog) (f:=141) (args:=[]) (Q:=λv K=>∃l:List bC,v=.lst (l.map av)∧l.length<2^62) (by
  refine af.fz (kX _ _ ?_);unfold ig
  repeat' (first|refine st ?_|refine sb λnb_ hnb_=>?_|refine s2 (λh=>?_) λh=>?_|fail)
  refine(λ{rows:List (List AV)} {n:Nat} (hr:(rows.all λr=>match r with|[.str _]=>true|_=>false)=true) (hn:rows.length=n) (h9:n<2^62) (hmm:(nb_,(⟨1,rows⟩:Blk))∈[(nb_,⟨1,rows⟩)])=>?_:∀{rows:List (List AV)} {n:Nat},(rows.all λr=>match r with|[.str _]=>true|_=>false)=true→rows.length=n→n<2^62→(nb_,(⟨1,rows⟩:Blk))∈[(nb_,⟨1,rows⟩)]→∃v2 L2,aG [.sl nb_ 0 n] [(nb_,⟨1,rows⟩)] [v2] L2∧∃l:List bC,v2=.lst (l.map av)∧l.length<2^62) rfl rfl ZN (.head _);obtain⟨l,h1,h2⟩:=Nk _ hr;exact⟨_,[],aG.all (Fz.sls (l:=l) (f:=av) hmm h1 ZN ZJ),l,rfl,ZJ⟩) nofun (by rintro _ _ ⟨l,rfl,_⟩;exact .lmap λx _=>mN x)
 exact⟨l,hp,hl⟩
theorem W6(s:bC):TB 119 [.str s]:=by
 obtain⟨l,hk,hl⟩:=U0;refine tb λQ hq=>jN _ _ _ ?_
 unfold gy
 repeat' (first|refine st ?_|(refine pf 141 ?_;refine pm (hk) ?_)|refine sb λnb_ hnb_=>?_|refine s2 (λh=>?_) λh=>?_|fail)
 refine mO l.length (λi=>[.str s,.lst (l.map av),.ZO i]) hl rfl (λi h1 hd hi nx hn=>?_) (λi h1 hd nx=>?_)
 all_goals unfold fP
 ·have hx:=ay (f:=av) h1
  repeat' (first|refine st ?_|refine sb λnb_ hnb_=>?_|refine s2 (λh=>?_) λh=>?_|fail)
  all_goals first|exact hq _ _|exact hn
 ·repeat' (first|refine st ?_|refine sb λnb_ hnb_=>?_|refine s2 (λh=>?_) λh=>?_|fail)
  exact hq _ _
theorem jV(s:bC)(hs:s.length<2^62):TB 86 [.str s]:=by
 refine tb λQ hq=>iP _ _ _ ?_
 unfold gz;by_cases h0:0<s.length
 ·have d1:decide ((s.length:Int)<1)=false:=by simpa using(by omega:(1:Int)≤s.length)
  repeat' (first|refine st ?_|refine MZ (i:=0) ?_ h0|(refine pf 118 ?_;refine pm (KV _) ?_)|(refine pf 119 ?_;refine pm (W6 _) ?_)|refine sb λnb_ hnb_=>?_|refine s2 (λh=>?_) λh=>?_|fail)
  all_goals first|exact hq _ _|skip
  all_goals
   refine mO s.length (λi=>[.str s,.ZO i]) hs rfl (λi h1 hd hi nx hn=>?_) (λi h1 hd nx=>?_)
   all_goals unfold iO
   ·repeat' (first|refine st ?_|refine MZ ?_|(refine pf 120 ?_;refine pm (Ss _) ?_)|refine sb λnb_ hnb_=>?_|refine s2 (λh=>?_) λh=>?_|fail)
    all_goals first|exact hq _ _|exact hn
   ·repeat' (first|refine st ?_|refine sb λnb_ hnb_=>?_|refine s2 (λh=>?_) λh=>?_|fail)
    exact hq _ _
 ·have d1:decide ((s.length:Int)<1)=true:=by simpa using(by omega:(s.length:Int)<1)
  repeat' (first|refine st ?_|refine sb λnb_ hnb_=>?_|refine s2 (λh=>?_) λh=>?_|fail)
  exact hq _ _
theorem Mg(op:Int):TI 154 [.ZO op]:=by
 refine ti λQ hq=>yX _ _ _ ?_
 unfold mE
 repeat' (first|refine st ?_|refine sb λnb_ hnb_=>?_|refine s2 (λh=>?_) λh=>?_|fail)
 all_goals exact hq _ _
theorem QJ:∀(k:Nat) (x:aq),x.wt≤k→k<2^40→TB 143 [.agg x.row]:=by
 intro k
 induction k with
 |zero=>intro x h;have:=x.wt_eq;omega
 |succ k ih=>
  intro x hk hb;have hnm:=jV x.name (by have:=x.wt_eq;omega);refine tb λQ hq=>rU _ _ _ ?_
  unfold jO
  repeat' (first|refine st ?_|(refine pf 154 ?_;refine pm (Mg _) ?_)|(refine pf 86 ?_;refine pm (hnm) ?_)|refine sb λnb_ hnb_=>?_|refine s2 (λh=>?_) λh=>?_|fail)
  all_goals first|exact hq _ _|skip
  all_goals
   refine mO x.l.length (λi=>[.pptr [x.row] 0 0,.ZO i]) (by have:=x.len;omega) rfl (λi h1 hd hi nx hn=>?_) (λi h1 hd nx=>?_)
   all_goals unfold ja
   ·have hx:=EI h1;have hc:=ih x.l[i] (by have:=x.kid h1;omega) ZJ
    repeat' (first|refine st ?_|(refine pf 143 ?_;refine pm (hc) ?_)|refine sb λnb_ hnb_=>?_|refine s2 (λh=>?_) λh=>?_|fail)
    all_goals first|exact hq _ _|exact hn
   ·repeat' (first|refine st ?_|refine sb λnb_ hnb_=>?_|refine s2 (λh=>?_) λh=>?_|fail)
    all_goals exact hq _ _
theorem St(x:aq):TB 144 [.agg x.row]:=by
 refine tb λQ hq=>E4 _ _ _ ?_
 unfold tL
 repeat' (first|refine st ?_|refine sb λnb_ hnb_=>?_|refine s2 (λh=>?_) λh=>?_|fail)
 all_goals exact hq _ _
theorem Mh(l:List ab)(hl:l.length<2^40)(h:∀i (hi:i<l.length),TB 121 [.agg l[i].row]):TB 87 [.lst (l.map ab.enc)]:=by
 refine tb λQ hq=>qK _ _ _ ?_
 unfold jb;refine mO l.length (λi=>[.lst (l.map ab.enc),.ZO i]) ZJ rfl (λi h1 hd hi nx hn=>?_) (λi h1 hd nx=>?_)
 all_goals unfold iC
 ·have hx:=Hp h1;have hc:=h i h1
  repeat' (first|refine st ?_|(refine pf 121 ?_;refine pm (hc) ?_)|refine sb λnb_ hnb_=>?_|refine s2 (λh=>?_) λh=>?_|fail)
  all_goals first|exact hq _ _|exact hn
 ·repeat' (first|refine st ?_|refine sb λnb_ hnb_=>?_|refine s2 (λh=>?_) λh=>?_|fail)
  exact hq _ _
section
variable {op line:Int} {name arg:bC} {index:List aq} {e:aq} {body els:List ab} {Q:R} (hq:∀(n:Bool) K,Q (.bool n) K)
 (c1:TB 87 [.lst (body.map ab.enc)]) (c2:TB 87 [.lst (els.map ab.enc)]) (c3:TB 143 [.agg [.ZO e.op,.ZO e.n,.str e.name,.lst (e.l.map aq.enc)]]) (c4:TB 144 [.agg [.ZO e.op,.ZO e.n,.str e.name,.lst (e.l.map aq.enc)]])
 (c7:∀i∈index,TB 143 [.agg i.row]) (c5:TB 86 [.str arg]) (c6:TB 86 [.str name])
include hq c1 c2
theorem W7:fx Q [] (W5 op line name arg index e body els):=by
 unfold fx
 repeat' (first|refine st ?_|(refine pf 87 ?_;refine pm (c1) ?_)|(refine pf 87 ?_;refine pm (c2) ?_)|refine sb λnb_ hnb_=>?_|refine s2 (λh=>?_) λh=>?_|fail)
 all_goals exact hq _ _
include c3 c4
theorem W8:fy Q [] (W5 op line name arg index e body els):=by
 unfold fy
 repeat' (first|with_reducible exact W7 hq c1 c2|refine st ?_|(refine pf 143 ?_;refine pm (c3) ?_)|(refine pf 144 ?_;refine pm (c4) ?_)|refine sb λnb_ hnb_=>?_|refine s2 (λh=>?_) λh=>?_|fail)
 all_goals exact hq _ _
include c7
theorem W9:fB Q [] (W5 op line name arg index e body els):=by
 have z1:=λ(_:True)=>W8 (op:=op) (line:=line) (name:=name) (arg:=arg) (index:=index) hq c1 c2 c3 c4;clear c1 c2 c3 c4;unfold fB;by_cases hn:index.length=1
 ·obtain⟨i,rfl⟩:=List.length_eq_one_iff.1 hn;have h1:=c7 i (.head _);unfold aq.row at h1;have hx0:=EI (l:=[i]) (i:=0) ZM
  repeat' (first|with_reducible exact z1 trivial|refine st ?_|(refine pf 143 ?_;refine pm (h1) ?_)|refine sb λnb_ hnb_=>?_|refine s2 (λh=>?_) λh=>?_|fail)
  all_goals exact hq _ _
 ·have d1:decide ((index.length:Int)=1)=false:=by simpa using(by omega:¬(index.length:Int)=1)
  repeat' (first|with_reducible exact z1 trivial|refine st ?_|refine sb λnb_ hnb_=>?_|refine s2 (λh=>?_) λh=>?_|fail)
  all_goals exact hq _ _
include c5
theorem Xa:fC Q [] (W5 op line name arg index e body els):=by
 have z2:=λ(_:True)=>W9 (op:=op) (line:=line) (name:=name) (arg:=arg) hq c1 c2 c3 c4 c7;clear c1 c2 c3 c4 c7;unfold fC
 repeat' (first|with_reducible exact z2 trivial|refine st ?_|(refine pf 86 ?_;refine pm (c5) ?_)|refine sb λnb_ hnb_=>?_|refine s2 (λh=>?_) λh=>?_|fail)
 all_goals exact hq _ _
include c6
theorem Xb:fD Q [] (W5 op line name arg index e body els):=by
 have z3:=λ(_:True)=>Xa (op:=op) (line:=line) (name:=name) hq c1 c2 c3 c4 c7 c5;clear c1 c2 c3 c4 c7 c5;unfold fD
 repeat' (first|with_reducible exact z3 trivial|refine st ?_|(refine pf 86 ?_;refine pm (c6) ?_)|refine sb λnb_ hnb_=>?_|refine s2 (λh=>?_) λh=>?_|fail)
 all_goals exact hq _ _
end
theorem Xc:∀(k:Nat) (x:ab),x.wt≤k→k<2^40→TB 121 [.agg x.row]:=by
 intro k
 induction k with
 |zero=>intro x h;have:=x.wt_eq;omega
 |succ k ih=>
  intro x hk hb;have hw:=x.wt_eq;have l1:=ab.wts_len x.body;have l2:=ab.wts_len x.els;have c1:=Mh x.body ZJ λi hi=>ih _ (by have:=ab.wts_get _ i hi;omega) ZJ
  have c2:=Mh x.els ZJ λi hi=>ih _ (by have:=ab.wts_get _ i hi;omega) ZJ
  have c7:∀i∈x.index,TB 143 [.agg i.row]:=λi hi=>by obtain⟨j,hj,rfl⟩:=Zc hi;exact QJ _ _ (X7 _) (by have:=aq.wts_get x.index j hj;omega)
  refine tb λQ hq=>rW _ _ _ ?_
  have z4:=λ(_:True)=>Xb (op:=x.op) (line:=x.line) hq c1 c2 (QJ _ x.expr (X7 _) ZJ) (St x.expr) c7 (jV x.arg ZJ) (jV x.name ZJ);clear c1 c2 c7 ih hk hw l1 l2 hb;unfold jP ab.row
  repeat' (first|with_reducible exact z4 trivial|refine st ?_|refine sb λnb_ hnb_=>?_|refine s2 (λh=>?_) λh=>?_|fail)
  all_goals exact hq _ _
theorem QK(d:aJ)(hw:d.wt<2^40):TB 85 [.agg d.enc]:=by
 have h1:=jV d.name (by unfold aJ.wt at hw;omega);have h2:=jV d.on (by unfold aJ.wt at hw;omega);refine tb λQ hq=>rX _ _ _ ?_
 have z0:True→fE Q [] (.pptr [d.enc] 0 0):=by
  intro _;unfold fE
  repeat' (first|refine st ?_|refine sb λnb_ hnb_=>?_|refine s2 (λh=>?_) λh=>?_|fail)
  all_goals exact hq _ _
 have z1:True→fF Q [] (.pptr [d.enc] 0 0):=by
  intro _;unfold fF
  repeat' (first|with_reducible exact z0 trivial|refine st ?_|(refine pf 86 ?_;refine pm (h2) ?_)|refine sb λnb_ hnb_=>?_|refine s2 (λh=>?_) λh=>?_|fail)
  all_goals exact hq _ _
 unfold jQ
 repeat' (first|with_reducible exact z1 trivial|refine st ?_|(refine pf 86 ?_;refine pm (h1) ?_)|refine sb λnb_ hnb_=>?_|refine s2 (λh=>?_) λh=>?_|fail)
 all_goals exact hq _ _
theorem QL(p:bZ)(hw:p.wt<2^40):TB 54 [.agg p.enc]:=by
 have hl1:=p.decls_len;have hl2:=p.threads_len;refine tb λQ hq=>Dp _ _ _ ?_
 unfold qL
 repeat' (first|refine st ?_|refine sb λnb_ hnb_=>?_|refine s2 (λh=>?_) λh=>?_|fail)
 refine mO p.decls.length (λi=>[.pptr [p.enc] 0 0,.ZO i]) ZJ rfl (λi h1 hd hi nx hn=>?_) (λi h1 hd nx=>?_)
 all_goals unfold oQ
 ·have hx:=ay (f:=aJ.enc) h1;have hc:=QK p.decls[i] (by have:=p.decl_wt h1;omega)
  repeat' (first|refine st ?_|(refine pf 85 ?_;refine pm (hc) ?_)|refine sb λnb_ hnb_=>?_|refine s2 (λh=>?_) λh=>?_|fail)
  all_goals first|exact hq _ _|exact hn
 ·repeat' (first|refine st ?_|refine sb λnb_ hnb_=>?_|refine s2 (λh=>?_) λh=>?_|fail)
  refine mO p.threads.length (λi=>[.pptr [p.enc] 0 0,.ZO i]) ZJ rfl (λi h1 hd hi nx hn=>?_) (λi h1 hd nx=>?_)
  all_goals unfold oP
  ·have hx:=ay (f:=ah.enc) h1;have hwt:=p.thread_wt h1;have hloc:=λj (hj:j<(p.threads[i]).locals.length)=>(p.threads[i]).local_len hj
   have hwe:(p.threads[i]).wt=1+(p.threads[i]).name.length+(p.threads[i]).locals.length+((p.threads[i]).locals.map List.length).sum+ab.wts (p.threads[i]).body:=rfl;have hnm:=jV (p.threads[i]).name ZJ;have hbd:=Mh (p.threads[i]).body (by have:=ab.wts_len (p.threads[i]).body;omega) λj hj=>Xc _ _ (X7 _) (by have:=ab.wts_get _ j hj;omega)
   generalize p.threads[i]=t at *
   repeat' (first|refine st ?_|refine sb λnb_ hnb_=>?_|refine s2 (λh=>?_) λh=>?_|fail)
   refine mO t.locals.length (λj=>[.pptr [p.enc] 0 0,.ZO i,.pptr [t.enc] 0 0,.ZO j]) ZJ rfl (λj h1 hd hi2 nx2 hn2=>?_) (λj h1 hd nx2=>?_)
   all_goals unfold oO
   ·have hx2:=ay (f:=av) h1;have hc:=jV t.locals[j] (by have:=hloc j h1;omega)
    repeat' (first|refine st ?_|(refine pf 86 ?_;refine pm (hc) ?_)|refine sb λnb_ hnb_=>?_|refine s2 (λh=>?_) λh=>?_|fail)
    all_goals first|exact hq _ _|exact hn2
   ·repeat' (first|refine st ?_|(refine pf 86 ?_;refine pm (hnm) ?_)|(refine pf 87 ?_;refine pm (hbd) ?_)|refine sb λnb_ hnb_=>?_|refine s2 (λh=>?_) λh=>?_|fail)
    all_goals first|exact hq _ _|exact hn
  ·repeat' (first|refine st ?_|refine sb λnb_ hnb_=>?_|refine s2 (λh=>?_) λh=>?_|fail)
   exact hq _ _
end
end Go.Proofs.YtdnpdghlggbklaaGreatDoor.Am
