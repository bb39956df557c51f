/- part -/
import Derived.Test.YtfckbjehkbhkgaaGreatQwi
set_option linter.all false
set_option maxRecDepth 100000
set_option maxHeartbeats 0
namespace Go.Proofs.YtfckbjehkbhkgaaGreat.Am
section
theorem aB.pureR(x:aB):bv (.agg x.row):=by rw[<-x.enc_row];exact .aggs x.pure
theorem ae.pureR(x:ae):bv (.agg x.row):=by rw[<-x.enc_row];exact .aggs x.pure
theorem dS:∀a∈([]:List AV),bv a:=nofun
theorem aA{x:AV}{l:List AV}(h:bv x)(t:∀a∈l,bv a):∀a∈x::l,bv a:=by simp only[abz];exact⟨h,t⟩
theorem pv{l:List AV}(h:∀a∈l,bv a:=by repeat first|exact dS|refine aA ?_ ?_|exact .int _ _|exact .bool _|exact .str _|exact cJ.pure _|exact aB.pureR _|exact ae.pureR _|exact .lmap λx _=>x.pure|exact .lmap λx _=>gD x|exact .aggs (aZ.pure _)|fail):∀a∈l,bv a:=h
@[irreducible] noncomputable def vI (f:FuncId) (args:List AV):Int:=Classical.epsilon λn=>aq Tryz.prog f args (.acU n)
@[irreducible] noncomputable def vB (f:FuncId) (args:List AV):Bool:=Classical.epsilon λn=>aq Tryz.prog f args (.bool n)
@[irreducible] noncomputable def vE (f:FuncId) (args:List AV):Int×Int:=Classical.epsilon λn=>aq Tryz.prog f args (.tup [.acU n.1,.acU n.2])
abbrev TI(f:FuncId)(args:List AV):Prop:=aq Tryz.prog f args (.acU (vI f args))
abbrev TB(f:FuncId)(args:List AV):Prop:=aq Tryz.prog f args (.bool (vB f args))
abbrev TE(f:FuncId)(args:List AV):Prop:=aq Tryz.prog f args (.tup [.acU (vE f args).1,.acU (vE f args).2])
theorem tig{G:Int->Prop}{f:FuncId}{args:List AV}(h:∀Q:R,(∀(n:Int) K,G n->Q (.acU n) K)->ac Tryz.prog f args [] Q)(B:∀a∈args,bv a:=by exact pv):∃n:Int,G n/\aq Tryz.prog f args (.acU n):=by obtain⟨v,K,⟨n,rfl,j⟩,hp⟩:=(h (λu K=>∃n,u=.acU n/\G n) λn K j=>⟨n,rfl,j⟩).pure B (by rintro _ _ ⟨n,rfl,_⟩;exact .int _ _);exact⟨n,j,hp⟩
theorem ti{f:FuncId}{args:List AV}(h:∀Q:R,(∀(n:Int) K,Q (.acU n) K)->ac Tryz.prog f args [] Q)(j:∀a∈args,bv a:=by exact pv):TI f args:=by obtain⟨n,_,hp⟩:=tig (G:=λ_=>True) (λQ hq=>h Q λn K=>hq n K trivial) j;unfold TI vI;exact Classical.epsilon_spec (p:=λn=>aq Tryz.prog f args (.acU n)) ⟨n,hp⟩
abbrev ZH(op line:Int)(name arg:bU)(index:List aB)(e:aB)(body els:List ae):AV:=(.pptr [[.acU op,.acU line,.str name,.str arg,.lst (index.map aB.enc),.acU e.op,.acU e.n,.str e.name,.lst (e.l.map aB.enc),.lst (body.map ae.enc),.lst (els.map ae.enc)]] 0 0)
theorem tb{f:FuncId}{args:List AV}(h:∀Q:R,(∀(n:Bool) K,Q (.bool n) K)->ac Tryz.prog f args [] Q)(j:∀a∈args,bv a:=by exact pv):TB f args:=by obtain⟨v,K,⟨n,rfl⟩,hp⟩:=(h (λu K=>∃n,u=.bool n) λn K=>⟨n,rfl⟩).pure j (by rintro _ _ ⟨n,rfl⟩;exact .bool _);unfold TB vB;exact Classical.epsilon_spec (p:=λn=>aq Tryz.prog f args (.bool n)) ⟨n,hp⟩
theorem te{f:FuncId}{args:List AV}(h:∀Q:R,(∀(a b:Int) K,Q (.tup [.acU a,.acU b]) K)->ac Tryz.prog f args [] Q)(j:∀a∈args,bv a:=by exact pv):TE f args:=by obtain⟨v,K,⟨a,b,rfl⟩,hp⟩:=(h (λu K=>∃a b,u=.tup [.acU a,.acU b]) λa b K=>⟨a,b,rfl⟩).pure j (by rintro _ _ ⟨a,b,rfl⟩;exact KG _ _);unfold TE vE;exact Classical.epsilon_spec (p:=λn:Int×Int=>aq Tryz.prog f args (.tup [.acU n.1,.acU n.2])) ⟨(a,b),hp⟩
theorem Gy{β:Type}(n:Nat)(S:Nat->β->List AV)(u:β){B:List AV->SH->W.Kn->Prop}{vs:List AV}{L:SH}(E:n<2^62)(D:vs=S 0 u)
  (G:∀i x,i<n->decide ((i:Int)<(n:Int))=true->IntKind.i64.wrap ((i:Int)+1)=((i+1:Nat):Int)->∀j:W.Kn,(∀y,j (S (i+1) y) L)->B (S i x) L j)
  (h2:∀i x,i=n->decide ((i:Int)<(n:Int))=false->∀j:W.Kn,B (S i x) L j):W.loop B vs L:=by
 refine aL n (λi x=>(S i x,L)) (λ_ _=>True) u trivial (by rw[D];exact .refl _ _) λi x M _=>?_
 rcases LE i n with h|h
 .exact G i x h (aS h) (av h E) _ λy=>⟨i+1,y,acN,acN,trivial,.refl _ _⟩
 .exact h2 i x acN (aW h) _
theorem nI(n:Nat)(S:Nat->List AV){B:List AV->SH->W.Kn->Prop}{vs:List AV}{L:SH}(G:n<2^62)(D:vs=S 0)
  (N:∀i,i<n->decide ((i:Int)<(n:Int))=true->IntKind.i64.wrap ((i:Int)+1)=((i+1:Nat):Int)->∀j:W.Kn,j (S (i+1)) L->B (S i) L j)
  (h2:∀i,i=n->decide ((i:Int)<(n:Int))=false->∀j:W.Kn,B (S i) L j):W.loop B vs L:=
 Gy n (λi (_:Unit)=>S i) () G D (λi _ h u M j E=>N i h u M j (E ())) λi _ e u j=>h2 i e u j
theorem KJ(c:Int):TB 144 [.int .u8 c]:=by
 refine tb λQ hq=>pi _ _ _ ?_
 refine vw ?_
 repeat' (first|refine sy ?_|refine s2 ?_ ?_|intro)
 all_goals exact hq _ _
theorem UB(c:Int):TB 169 [.int .u8 c]:=by
 refine tb λQ hq=>ql _ _ _ ?_
 refine vw ?_
 repeat' (first|refine sy ?_|refine s2 ?_ ?_|intro)
 all_goals exact hq _ _
theorem UC(c:Int):TB 146 [.int .u8 c]:=by
 refine tb λQ hq=>qm _ _ _ ?_
 refine vw ?_
 repeat' (first|refine sy ?_|(refine pf 144 ?_;refine pm (KJ _) ?_)|(refine pf 169 ?_;refine pm (UB _) ?_)|refine s2 ?_ ?_|intro)
 all_goals exact hq _ _
theorem Oa:∀rows:List (List AV),(rows.all λr=>match r with|[.str _]=>true|_=>false)=true->∃l:List bU,rows=l.map ay/\l.length=rows.length
 |[],_=>⟨[],rfl,rfl⟩
 | [.str s]::l,h=>by obtain⟨m,j,h2⟩:=Oa l (by simpa using h);exact⟨s::m,by rw[j];rfl,by simp[h2]⟩
theorem Xl:∃l:List bU,aq Tryz.prog 168 [] (.lst (l.map ay))/\l.length<2^62:=by
 obtain⟨v,K,⟨l,rfl,M⟩,hp⟩:=ac.pure (P:=Tryz.prog) (f:=168) (args:=[]) (Q:=λv K=>∃l:List bU,v=.lst (l.map ay)/\l.length<2^62) (by
  refine ac.fz (lK _ _ ?_);refine vw ?_
  repeat' (first|refine sx ?_|refine sb λu E=>?_|refine s2 ?_ ?_|intro)
  refine(λ{j:List (List AV)} {n:Nat} (G:(j.all λr=>match r with|[.str _]=>true|_=>false)=true) (S:j.length=n) (Y:n<2^62) (B:(u,(⟨1,j⟩:Blk))∈[(u,⟨1,j⟩)])=>?_:∀{j:List (List AV)} {n:Nat},(j.all λr=>match r with|[.str _]=>true|_=>false)=true->j.length=n->n<2^62->(u,(⟨1,j⟩:Blk))∈[(u,⟨1,j⟩)]->∃D O,ax [.sl u 0 n] [(u,⟨1,j⟩)] [D] O/\∃l:List bU,D=.lst (l.map ay)/\l.length<2^62) rfl rfl acR (.head _);obtain⟨l,N,Z⟩:=Oa _ G;exact⟨_,[],ax.all (Fz.sls (l:=l) (f:=ay) B N acR acN),l,rfl,acN⟩) nofun (by rintro _ _ ⟨l,rfl,_⟩;exact .lmap λx _=>gD x)
 exact⟨l,hp,M⟩
theorem ZI(s:bU):TB 145 [.str s]:=by
 obtain⟨l,M,D⟩:=Xl;refine tb λQ hq=>kJ _ _ _ ?_
 refine vw ?_
 repeat' (first|refine sy ?_|refine s2 ?_ ?_|intro)
 refine nI l.length (λi=>[.str s,.lst (l.map ay),.acU i]) D rfl (λi j E N u B=>?_) (λi j E u=>?_)
 all_goals refine vw ?_
 .have G:=aj (f:=ay) j
  repeat' (first|refine sy ?_|refine s2 ?_ ?_|intro)
  all_goals first|exact hq _ _|exact B
 .repeat' (first|refine sy ?_|refine s2 ?_ ?_|intro)
  exact hq _ _
theorem kT(s:bU)(u:s.length<2^62):TB 117 [.str s]:=by
 refine tb λQ hq=>jD _ _ _ ?_
 refine vw ?_;by_cases G:0<s.length
 .have M:decide ((s.length:Int)<1)=false:=by simpa using(by omega:(1:Int)<=s.length)
  repeat' (first|refine sy ?_|refine NR (i:=0) ?_ G|(refine pf 144 ?_;refine pm (KJ _) ?_)|(refine pf 145 ?_;refine pm (ZI _) ?_)|refine s2 ?_ ?_|intro)
  all_goals first|exact hq _ _|skip
  all_goals
   refine nI s.length (λi=>[.str s,.acU i]) u rfl (λi E D N j B=>?_) (λi E D j=>?_)
   all_goals refine vw ?_
   .repeat' (first|refine sy ?_|refine NR ?_|(refine pf 146 ?_;refine pm (UC _) ?_)|refine s2 ?_ ?_|intro)
    all_goals first|exact hq _ _|exact B
   .repeat' (first|refine sy ?_|refine s2 ?_ ?_|intro)
    exact hq _ _
 .have M:decide ((s.length:Int)<1)=true:=by simpa using(by omega:(s.length:Int)<1)
  repeat' (first|refine sy ?_|refine s2 ?_ ?_|intro)
  exact hq _ _
theorem MA(op:Int):TI 210 [.acU op]:=by
 refine ti λQ hq=>vL _ _ _ ?_
 refine vw ?_
 repeat' (first|refine sy ?_|refine s2 ?_ ?_|intro)
 all_goals exact hq _ _
theorem R6:∀(k:Nat) (x:aB),x.wt<=k->k<2^40->TB 205 [.agg x.row]:=by
 intro k
 induction k with
 |zero=>intro x h;have:=x.wt_eq;omega
 |succ k B=>
  intro x N Y;have D:=kT x.name (by have:=x.wt_eq;omega);refine tb λQ hq=>r8 _ _ _ ?_
  refine vw ?_
  repeat' (first|refine sy ?_|(refine pf 210 ?_;refine pm (MA _) ?_)|refine s2 ?_ ?_|intro)
  all_goals first|exact hq _ _|skip
  all_goals
   refine nI x.l.length (λi=>[.pptr [x.row] 0 0,.acU i]) (by have:=x.len;omega) rfl (λi j G O u E=>?_) (λi j G u=>?_)
   all_goals refine vw ?_
   .have M:=BO j;have S:=B x.l[i] (by have:=x.kid j;omega) acN
    repeat' (first|refine sy ?_|refine s2 ?_ ?_|intro)
    all_goals first|exact hq _ _|exact E
   .repeat' (first|refine sy ?_|refine s2 ?_ ?_|intro)
    all_goals exact hq _ _
theorem UD(x:aB):TB 206 [.agg x.row]:=by
 refine tb λQ hq=>BS _ _ _ ?_
 refine vw ?_
 repeat' (first|refine sy ?_|refine s2 ?_ ?_|intro)
 all_goals exact hq _ _
theorem MB(l:List ae)(M:l.length<2^40)(h:∀i (D:i<l.length),TB 197 [.agg l[i].row]):TB 178 [.lst (l.map ae.enc)]:=by
 refine tb λQ hq=>qo _ _ _ ?_
 refine vw ?_;refine nI l.length (λi=>[.lst (l.map ae.enc),.acU i]) acN rfl (λi j E D u B=>?_) (λi j E u=>?_)
 all_goals refine vw ?_
 .have G:=Gb j;have N:=h i j
  repeat' (first|refine sy ?_|refine s2 ?_ ?_|intro)
  all_goals first|exact hq _ _|exact B
 .repeat' (first|refine sy ?_|refine s2 ?_ ?_|intro)
  exact hq _ _
section
variable {op line:Int} {name arg:bU} {index:List aB} {e:aB} {body els:List ae} {Q:R} (hq:∀(n:Bool) K,Q (.bool n) K)
 (c1:TB 178 [.lst (body.map ae.enc)]) (c2:TB 178 [.lst (els.map ae.enc)]) (c3:TB 205 [.agg [.acU e.op,.acU e.n,.str e.name,.lst (e.l.map aB.enc)]]) (c4:TB 206 [.agg [.acU e.op,.acU e.n,.str e.name,.lst (e.l.map aB.enc)]])
 (c7:∀i∈index,TB 205 [.agg i.row]) (c5:TB 117 [.str arg]) (c6:TB 117 [.str name])
include hq c1 c2
theorem ZJ:r9 Q [] (ZH op line name arg index e body els):=by
 refine vw ?_
 repeat' (first|refine sy ?_|refine s2 ?_ ?_|intro)
 all_goals exact hq _ _
include c3 c4
theorem ZK:sd Q [] (ZH op line name arg index e body els):=by
 refine vw ?_
 repeat' (first|with_reducible exact ZJ hq c1 c2|refine sy ?_|refine s2 ?_ ?_|intro)
 all_goals exact hq _ _
include c7
theorem ZL:sf Q [] (ZH op line name arg index e body els):=by
 have j:=λ(_:True)=>ZK (op:=op) (line:=line) (name:=name) (arg:=arg) (index:=index) hq c1 c2 c3 c4;clear c1 c2 c3 c4;refine vw ?_;by_cases B:index.length=1
 .obtain⟨i,rfl⟩:=List.length_eq_one_iff.1 B;have D:=c7 i (.head _);unfold aB.row at D;have u:=BO (l:=[i]) (i:=0) acQ
  repeat' (first|with_reducible exact j trivial|refine sy ?_|refine s2 ?_ ?_|intro)
  all_goals exact hq _ _
 .have E:decide ((index.length:Int)=1)=false:=by simpa using(by omega:¬(index.length:Int)=1)
  repeat' (first|with_reducible exact j trivial|refine sy ?_|refine s2 ?_ ?_|intro)
  all_goals exact hq _ _
include c5
theorem ZM:sg Q [] (ZH op line name arg index e body els):=by
 have j:=λ(_:True)=>ZL (op:=op) (line:=line) (name:=name) (arg:=arg) hq c1 c2 c3 c4 c7;clear c1 c2 c3 c4 c7;refine vw ?_
 repeat' (first|with_reducible exact j trivial|refine sy ?_|refine s2 ?_ ?_|intro)
 all_goals exact hq _ _
include c6
theorem ZN:si Q [] (ZH op line name arg index e body els):=by
 have z3:=λ(_:True)=>ZM (op:=op) (line:=line) (name:=name) hq c1 c2 c3 c4 c7 c5;clear c1 c2 c3 c4 c7 c5;refine vw ?_
 repeat' (first|with_reducible exact z3 trivial|refine sy ?_|refine s2 ?_ ?_|intro)
 all_goals exact hq _ _
end
theorem ZO:∀(k:Nat) (x:ae),x.wt<=k->k<2^40->TB 197 [.agg x.row]:=by
 intro k
 induction k with
 |zero=>intro x h;have:=x.wt_eq;omega
 |succ k B=>
  intro x N O;have M:=x.wt_eq;have G:=ae.wts_len x.body;have E:=ae.wts_len x.els;have c1:=MB x.body acN λi u=>B _ (by have:=ae.wts_get _ i u;omega) acN
  have c2:=MB x.els acN λi u=>B _ (by have:=ae.wts_get _ i u;omega) acN
  have c7:∀i∈x.index,TB 205 [.agg i.row]:=λi u=>by obtain⟨j,hj,rfl⟩:=abC u;exact R6 _ _ (Fd _) (by have:=aB.wts_get x.index j hj;omega)
  refine tb λQ hq=>sj _ _ _ ?_
  have D:=λ(_:True)=>ZN (op:=x.op) (line:=x.line) hq c1 c2 (R6 _ x.expr (Fd _) acN) (UD x.expr) c7 (kT x.arg acN) (kT x.name acN);clear c1 c2 c7 B N M G E O;unfold ae.row;refine vw ?_
  repeat' (first|with_reducible exact D trivial|refine sy ?_|refine s2 ?_ ?_|intro)
  all_goals exact hq _ _
theorem R7(d:aZ)(j:d.wt<2^40):TB 177 [.agg d.enc]:=by
 have D:=kT d.name (by unfold aZ.wt at j;omega);have B:=kT d.on (by unfold aZ.wt at j;omega);refine tb λQ hq=>sw _ _ _ ?_
 have z0:True->ss Q [] (.pptr [d.enc] 0 0):=by
  intro _;refine vw ?_
  repeat' (first|refine sy ?_|refine s2 ?_ ?_|intro)
  all_goals exact hq _ _
 have u:True->su Q [] (.pptr [d.enc] 0 0):=by
  intro _;refine vw ?_
  repeat' (first|with_reducible exact z0 trivial|refine sy ?_|refine s2 ?_ ?_|intro)
  all_goals exact hq _ _
 refine vw ?_
 repeat' (first|with_reducible exact u trivial|refine sy ?_|refine s2 ?_ ?_|intro)
 all_goals exact hq _ _
theorem R8(p:cJ)(hw:p.wt<2^40):TB 153 [.agg p.enc]:=by
 have hl1:=p.decls_len;have hl2:=p.threads_len;refine tb λQ hq=>zW _ _ _ ?_
 refine vw ?_
 repeat' (first|refine sy ?_|refine s2 ?_ ?_|intro)
 refine nI p.decls.length (λi=>[.pptr [p.enc] 0 0,.acU i]) acN rfl (λi u D hi G N=>?_) (λi u D G=>?_)
 all_goals refine vw ?_
 .have Y:=aj (f:=aZ.enc) u;have hc:=R7 p.decls[i] (by have:=p.decl_wt u;omega)
  repeat' (first|refine sy ?_|refine s2 ?_ ?_|intro)
  all_goals first|exact hq _ _|exact N
 .repeat' (first|refine sy ?_|refine s2 ?_ ?_|intro)
  refine nI p.threads.length (λi=>[.pptr [p.enc] 0 0,.acU i]) acN rfl (λi u D hi G N=>?_) (λi u D G=>?_)
  all_goals refine vw ?_
  .have Y:=aj (f:=am.enc) u;have Z:=p.thread_wt u;have B:=λj (O:j<(p.threads[i]).locals.length)=>(p.threads[i]).local_len O
   have hwe:(p.threads[i]).wt=1+(p.threads[i]).name.length+(p.threads[i]).locals.length+((p.threads[i]).locals.map List.length).sum+ae.wts (p.threads[i]).body:=rfl;have hnm:=kT (p.threads[i]).name acN;have hbd:=MB (p.threads[i]).body (by have:=ae.wts_len (p.threads[i]).body;omega) λj O=>ZO _ _ (Fd _) (by have:=ae.wts_get _ j O;omega)
   generalize p.threads[i]=t at *
   repeat' (first|refine sy ?_|refine s2 ?_ ?_|intro)
   refine nI t.locals.length (λj=>[.pptr [p.enc] 0 0,.acU i,.pptr [t.enc] 0 0,.acU j]) acN rfl (λj u D hi2 E M=>?_) (λj u D E=>?_)
   all_goals refine vw ?_
   .have S:=aj (f:=ay) u;have hc:=kT t.locals[j] (by have:=B j u;omega)
    repeat' (first|refine sy ?_|refine s2 ?_ ?_|intro)
    all_goals first|exact hq _ _|exact M
   .repeat' (first|refine sy ?_|refine s2 ?_ ?_|intro)
    all_goals first|exact hq _ _|exact N
  .repeat' (first|refine sy ?_|refine s2 ?_ ?_|intro)
   exact hq _ _
end
