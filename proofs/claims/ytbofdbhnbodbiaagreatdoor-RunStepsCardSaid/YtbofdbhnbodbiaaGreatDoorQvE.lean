/- A part of the proof; the statement is proved in the last part. -/
import Derived.Test.YtbofdbhnbodbiaaGreatDoorQvD
set_option linter.all false
set_option maxRecDepth 100000
set_option maxHeartbeats 20000000
namespace Go.Proofs.YtbofdbhnbodbiaaGreatDoor.Am
section
theorem aw.pureR(x:aw):bA (.agg x.row):=by rw[<-x.enc_row];exact .aggs x.pure
theorem aa.pureR(x:aa):bA (.agg x.row):=by rw[<-x.enc_row];exact .aggs x.pure
theorem zt:∀a∈([]:List AV),bA a:=nofun
theorem eF{x:AV}{l:List AV}(h:bA x)(t:∀a∈l,bA a):∀a∈x::l,bA a:=by simp only[Tb];exact⟨h,t⟩
theorem pv{l:List AV}(h:∀a∈l,bA a:=by repeat first|exact zt|refine eF ?_ ?_|exact .int _ _|exact .bool _|exact .str _|exact bT.pure _|exact aw.pureR _|exact aa.pureR _|exact .lmap λx _=>x.pure|exact .lmap λx _=>lu x|exact .aggs (aM.pure _)|fail):∀a∈l,bA a:=h
@[irreducible] noncomputable def vI (f:FuncId) (args:List AV):Int:=Classical.epsilon λn=>aq Tryz.prog f args (.Uf n)
@[irreducible] noncomputable def vB (f:FuncId) (args:List AV):Bool:=Classical.epsilon λn=>aq Tryz.prog f args (.bool n)
@[irreducible] noncomputable def vE (f:FuncId) (args:List AV):Int×Int:=Classical.epsilon λn=>aq Tryz.prog f args (.tup [.Uf n.1,.Uf n.2])
abbrev TI(f:FuncId)(args:List AV):Prop:=aq Tryz.prog f args (.Uf (vI f args))
abbrev TB(f:FuncId)(args:List AV):Prop:=aq Tryz.prog f args (.bool (vB f args))
abbrev TE(f:FuncId)(args:List AV):Prop:=aq Tryz.prog f args (.tup [.Uf (vE f args).1,.Uf (vE f args).2])
theorem Sk{G:Int->Prop}{f:FuncId}{args:List AV}(h:∀Q:R,(∀(n:Int) K,G n->Q (.Uf n) K)->ac Tryz.prog f args [] Q)(B:∀a∈args,bA a:=by exact pv):∃n:Int,G n/\aq Tryz.prog f args (.Uf n):=by obtain⟨v,K,⟨n,rfl,j⟩,hp⟩:=(h (λu K=>∃n,u=.Uf n/\G n) λn K j=>⟨n,rfl,j⟩).pure B (by rintro _ _ ⟨n,rfl,_⟩;exact .int _ _);exact⟨n,j,hp⟩
theorem ti{f:FuncId}{args:List AV}(h:∀Q:R,(∀(n:Int) K,Q (.Uf n) K)->ac Tryz.prog f args [] Q)(j:∀a∈args,bA a:=by exact pv):TI f args:=by obtain⟨n,_,hp⟩:=Sk (G:=λ_=>True) (λQ hq=>h Q λn K=>hq n K trivial) j;unfold TI vI;exact Classical.epsilon_spec (p:=λn=>aq Tryz.prog f args (.Uf n)) ⟨n,hp⟩
abbrev Rd(op line:Int)(name arg:bu)(index:List aw)(e:aw)(body els:List aa):AV:=(.pptr [[.Uf op,.Uf line,.str name,.str arg,.lst (index.map aw.enc),.Uf e.op,.Uf e.n,.str e.name,.lst (e.l.map aw.enc),.lst (body.map aa.enc),.lst (els.map aa.enc)]] 0 0)
theorem tb{f:FuncId}{args:List AV}(h:∀Q:R,(∀(n:Bool) K,Q (.bool n) K)->ac Tryz.prog f args [] Q)(j:∀a∈args,bA a:=by exact pv):TB f args:=by obtain⟨v,K,⟨n,rfl⟩,hp⟩:=(h (λu K=>∃n,u=.bool n) λn K=>⟨n,rfl⟩).pure j (by rintro _ _ ⟨n,rfl⟩;exact .bool _);unfold TB vB;exact Classical.epsilon_spec (p:=λn=>aq Tryz.prog f args (.bool n)) ⟨n,hp⟩
theorem te{f:FuncId}{args:List AV}(h:∀Q:R,(∀(a b:Int) K,Q (.tup [.Uf a,.Uf b]) K)->ac Tryz.prog f args [] Q)(j:∀a∈args,bA a:=by exact pv):TE f args:=by obtain⟨v,K,⟨a,b,rfl⟩,hp⟩:=(h (λu K=>∃a b,u=.tup [.Uf a,.Uf b]) λa b K=>⟨a,b,rfl⟩).pure j (by rintro _ _ ⟨a,b,rfl⟩;exact KQ _ _);unfold TE vE;exact Classical.epsilon_spec (p:=λn:Int×Int=>aq Tryz.prog f args (.tup [.Uf n.1,.Uf n.2])) ⟨(a,b),hp⟩
theorem BI{β:Type}(n:Nat)(S:Nat->β->List AV)(u:β){B:List AV->SH->W.Kn->Prop}{vs:List AV}{L:SH}(E:n<2^62)(D:vs=S 0 u)
  (G:∀i x,i<n->decide ((i:Int)<(n:Int))=true->IntKind.i64.wrap ((i:Int)+1)=((i+1:Nat):Int)->∀j:W.Kn,(∀y,j (S (i+1) y) L)->B (S i x) L j)
  (h2:∀i x,i=n->decide ((i:Int)<(n:Int))=false->∀j:W.Kn,B (S i x) L j):W.loop B vs L:=by
 refine bD n (λi x=>(S i x,L)) (λ_ _=>True) u trivial (by rw[D];exact .refl _ _) λi x M _=>?_
 rcases Fn i n with h|h
 .exact G i x h (aW h) (ax h E) _ λy=>⟨i+1,y,Ua,Ua,trivial,.refl _ _⟩
 .exact h2 i x Ua (aX h) _
theorem lw(n:Nat)(S:Nat->List AV){B:List AV->SH->W.Kn->Prop}{vs:List AV}{L:SH}(G:n<2^62)(D:vs=S 0)
  (N:∀i,i<n->decide ((i:Int)<(n:Int))=true->IntKind.i64.wrap ((i:Int)+1)=((i+1:Nat):Int)->∀j:W.Kn,j (S (i+1)) L->B (S i) L j)
  (h2:∀i,i=n->decide ((i:Int)<(n:Int))=false->∀j:W.Kn,B (S i) L j):W.loop B vs L:=
 BI n (λi (_:Unit)=>S i) () G D (λi _ h u M j E=>N i h u M j (E ())) λi _ e u j=>h2 i e u j
theorem EX(c:Int):TB 153 [.int .u8 c]:=by
 refine tb λQ hq=>mu _ _ _ ?_
 refine vw ?_
 repeat' (first|refine st ?_|refine sb λu j=>?_|refine s2 (λh=>?_) λh=>?_|fail)
 all_goals exact hq _ _
theorem Mr(c:Int):TB 177 [.int .u8 c]:=by
 refine tb λQ hq=>nT _ _ _ ?_
 refine vw ?_
 repeat' (first|refine st ?_|refine sb λu j=>?_|refine s2 (λh=>?_) λh=>?_|fail)
 all_goals exact hq _ _
theorem Ms(c:Int):TB 155 [.int .u8 c]:=by
 refine tb λQ hq=>nU _ _ _ ?_
 refine vw ?_
 repeat' (first|refine st ?_|(refine pf 153 ?_;refine pm (EX _) ?_)|(refine pf 177 ?_;refine pm (Mr _) ?_)|refine sb λu j=>?_|refine s2 (λh=>?_) λh=>?_|fail)
 all_goals exact hq _ _
theorem Hk:∀rows:List (List AV),(rows.all λr=>match r with|[.str _]=>true|_=>false)=true->∃l:List bu,rows=l.map au/\l.length=rows.length
 |[],_=>⟨[],rfl,rfl⟩
 | [.str s]::l,h=>by obtain⟨m,j,h2⟩:=Hk l (by simpa using h);exact⟨s::m,by rw[j];rfl,by simp[h2]⟩
theorem OX:∃l:List bu,aq Tryz.prog 176 [] (.lst (l.map au))/\l.length<2^62:=by
 obtain⟨v,K,⟨l,rfl,M⟩,hp⟩:=ac.pure (P:=Tryz.prog) (f:=176) (args:=[]) (Q:=λv K=>∃l:List bu,v=.lst (l.map au)/\l.length<2^62) (by
  refine ac.fz (jK _ _ ?_);refine vw ?_
  repeat' (first|refine st ?_|refine sb λu E=>?_|refine s2 (λh=>?_) λh=>?_|fail)
  refine(λ{j:List (List AV)} {n:Nat} (G:(j.all λr=>match r with|[.str _]=>true|_=>false)=true) (S:j.length=n) (Y:n<2^62) (B:(u,(⟨1,j⟩:Blk))∈[(u,⟨1,j⟩)])=>?_:∀{j:List (List AV)} {n:Nat},(j.all λr=>match r with|[.str _]=>true|_=>false)=true->j.length=n->n<2^62->(u,(⟨1,j⟩:Blk))∈[(u,⟨1,j⟩)]->∃D O,az [.sl u 0 n] [(u,⟨1,j⟩)] [D] O/\∃l:List bu,D=.lst (l.map au)/\l.length<2^62) rfl rfl Ue (.head _);obtain⟨l,N,Z⟩:=Hk _ G;exact⟨_,[],az.all (Fz.sls (l:=l) (f:=au) B N Ue Ua),l,rfl,Ua⟩) nofun (by rintro _ _ ⟨l,rfl,_⟩;exact .lmap λx _=>lu x)
 exact⟨l,hp,M⟩
theorem Re(s:bu):TB 154 [.str s]:=by
 obtain⟨l,M,G⟩:=OX;refine tb λQ hq=>i7 _ _ _ ?_
 refine vw ?_
 repeat' (first|refine st ?_|(refine pf 176 ?_;refine pm (M) ?_)|refine sb λu j=>?_|refine s2 (λh=>?_) λh=>?_|fail)
 refine lw l.length (λi=>[.str s,.lst (l.map au),.Uf i]) G rfl (λi B N S D E=>?_) (λi B N D=>?_)
 all_goals refine vw ?_
 .have O:=ao (f:=au) B
  repeat' (first|refine st ?_|refine sb λu j=>?_|refine s2 (λh=>?_) λh=>?_|fail)
  all_goals first|exact hq _ _|exact E
 .repeat' (first|refine st ?_|refine sb λu j=>?_|refine s2 (λh=>?_) λh=>?_|fail)
  exact hq _ _
theorem jh(s:bu)(D:s.length<2^62):TB 107 [.str s]:=by
 refine tb λQ hq=>ik _ _ _ ?_
 refine vw ?_;by_cases N:0<s.length
 .have O:decide ((s.length:Int)<1)=false:=by simpa using(by omega:(1:Int)<=s.length)
  repeat' (first|refine st ?_|refine GX (i:=0) ?_ N|(refine pf 153 ?_;refine pm (EX _) ?_)|(refine pf 154 ?_;refine pm (Re _) ?_)|refine sb λu j=>?_|refine s2 (λh=>?_) λh=>?_|fail)
  all_goals first|exact hq _ _|skip
  all_goals
   refine lw s.length (λi=>[.str s,.Uf i]) D rfl (λi M G S B E=>?_) (λi M G B=>?_)
   all_goals refine vw ?_
   .repeat' (first|refine st ?_|refine GX ?_|(refine pf 155 ?_;refine pm (Ms _) ?_)|refine sb λu j=>?_|refine s2 (λh=>?_) λh=>?_|fail)
    all_goals first|exact hq _ _|exact E
   .repeat' (first|refine st ?_|refine sb λu j=>?_|refine s2 (λh=>?_) λh=>?_|fail)
    exact hq _ _
 .have O:decide ((s.length:Int)<1)=true:=by simpa using(by omega:(s.length:Int)<1)
  repeat' (first|refine st ?_|refine sb λu j=>?_|refine s2 (λh=>?_) λh=>?_|fail)
  exact hq _ _
theorem Ge(op:Int):TI 200 [.Uf op]:=by
 refine ti λQ hq=>sE _ _ _ ?_
 refine vw ?_
 repeat' (first|refine st ?_|refine sb λu j=>?_|refine s2 (λh=>?_) λh=>?_|fail)
 all_goals exact hq _ _
theorem KT:∀(k:Nat) (x:aw),x.wt<=k->k<2^40->TB 189 [.agg x.row]:=by
 intro k
 induction k with
 |zero=>intro x h;have:=x.wt_eq;omega
 |succ k G=>
  intro x Y hb;have B:=jh x.name (by have:=x.wt_eq;omega);refine tb λQ hq=>pq _ _ _ ?_
  refine vw ?_
  repeat' (first|refine st ?_|(refine pf 200 ?_;refine pm (Ge _) ?_)|(refine pf 107 ?_;refine pm (B) ?_)|refine sb λu j=>?_|refine s2 (λh=>?_) λh=>?_|fail)
  all_goals first|exact hq _ _|skip
  all_goals
   refine lw x.l.length (λi=>[.pptr [x.row] 0 0,.Uf i]) (by have:=x.len;omega) rfl (λi D N Z E M=>?_) (λi D N E=>?_)
   all_goals refine vw ?_
   .have S:=yb D;have O:=G x.l[i] (by have:=x.kid D;omega) Ua
    repeat' (first|refine st ?_|(refine pf 189 ?_;refine pm (O) ?_)|refine sb λu j=>?_|refine s2 (λh=>?_) λh=>?_|fail)
    all_goals first|exact hq _ _|exact M
   .repeat' (first|refine st ?_|refine sb λu j=>?_|refine s2 (λh=>?_) λh=>?_|fail)
    all_goals exact hq _ _
theorem Mt(x:aw):TB 190 [.agg x.row]:=by
 refine tb λQ hq=>yq _ _ _ ?_
 refine vw ?_
 repeat' (first|refine st ?_|refine sb λu j=>?_|refine s2 (λh=>?_) λh=>?_|fail)
 all_goals exact hq _ _
theorem Gf(l:List aa)(S:l.length<2^40)(h:∀i (G:i<l.length),TB 167 [.agg l[i].row]):TB 132 [.lst (l.map aa.enc)]:=by
 refine tb λQ hq=>nW _ _ _ ?_
 refine vw ?_;refine lw l.length (λi=>[.lst (l.map aa.enc),.Uf i]) Ua rfl (λi B M G D E=>?_) (λi B M D=>?_)
 all_goals refine vw ?_
 .have O:=Bg B;have N:=h i B
  repeat' (first|refine st ?_|(refine pf 167 ?_;refine pm (N) ?_)|refine sb λu j=>?_|refine s2 (λh=>?_) λh=>?_|fail)
  all_goals first|exact hq _ _|exact E
 .repeat' (first|refine st ?_|refine sb λu j=>?_|refine s2 (λh=>?_) λh=>?_|fail)
  exact hq _ _
section
variable {op line:Int} {name arg:bu} {index:List aw} {e:aw} {body els:List aa} {Q:R} (hq:∀(n:Bool) K,Q (.bool n) K)
 (c1:TB 132 [.lst (body.map aa.enc)]) (c2:TB 132 [.lst (els.map aa.enc)]) (c3:TB 189 [.agg [.Uf e.op,.Uf e.n,.str e.name,.lst (e.l.map aw.enc)]]) (c4:TB 190 [.agg [.Uf e.op,.Uf e.n,.str e.name,.lst (e.l.map aw.enc)]])
 (c7:∀i∈index,TB 189 [.agg i.row]) (c5:TB 107 [.str arg]) (c6:TB 107 [.str name])
include hq c1 c2
theorem Rf:pr Q [] (Rd op line name arg index e body els):=by
 refine vw ?_
 repeat' (first|refine st ?_|(refine pf 132 ?_;refine pm (c1) ?_)|(refine pf 132 ?_;refine pm (c2) ?_)|refine sb λu j=>?_|refine s2 (λh=>?_) λh=>?_|fail)
 all_goals exact hq _ _
include c3 c4
theorem Rg:pt Q [] (Rd op line name arg index e body els):=by
 refine vw ?_
 repeat' (first|with_reducible exact Rf hq c1 c2|refine st ?_|(refine pf 189 ?_;refine pm (c3) ?_)|(refine pf 190 ?_;refine pm (c4) ?_)|refine sb λu j=>?_|refine s2 (λh=>?_) λh=>?_|fail)
 all_goals exact hq _ _
include c7
theorem Rh:pw Q [] (Rd op line name arg index e body els):=by
 have B:=λ(_:True)=>Rg (op:=op) (line:=line) (name:=name) (arg:=arg) (index:=index) hq c1 c2 c3 c4;clear c1 c2 c3 c4;refine vw ?_;by_cases G:index.length=1
 .obtain⟨i,rfl⟩:=List.length_eq_one_iff.1 G;have D:=c7 i (.head _);unfold aw.row at D;have E:=yb (l:=[i]) (i:=0) Ud
  repeat' (first|with_reducible exact B trivial|refine st ?_|(refine pf 189 ?_;refine pm (D) ?_)|refine sb λu j=>?_|refine s2 (λh=>?_) λh=>?_|fail)
  all_goals exact hq _ _
 .have M:decide ((index.length:Int)=1)=false:=by simpa using(by omega:¬(index.length:Int)=1)
  repeat' (first|with_reducible exact B trivial|refine st ?_|refine sb λu j=>?_|refine s2 (λh=>?_) λh=>?_|fail)
  all_goals exact hq _ _
include c5
theorem Ri:px Q [] (Rd op line name arg index e body els):=by
 have u:=λ(_:True)=>Rh (op:=op) (line:=line) (name:=name) (arg:=arg) hq c1 c2 c3 c4 c7;clear c1 c2 c3 c4 c7;refine vw ?_
 repeat' (first|with_reducible exact u trivial|refine st ?_|(refine pf 107 ?_;refine pm (c5) ?_)|refine sb λB j=>?_|refine s2 (λh=>?_) λh=>?_|fail)
 all_goals exact hq _ _
include c6
theorem Rj:py Q [] (Rd op line name arg index e body els):=by
 have z3:=λ(_:True)=>Ri (op:=op) (line:=line) (name:=name) hq c1 c2 c3 c4 c7 c5;clear c1 c2 c3 c4 c7 c5;refine vw ?_
 repeat' (first|with_reducible exact z3 trivial|refine st ?_|(refine pf 107 ?_;refine pm (c6) ?_)|refine sb λu j=>?_|refine s2 (λh=>?_) λh=>?_|fail)
 all_goals exact hq _ _
end
theorem Rk:∀(k:Nat) (x:aa),x.wt<=k->k<2^40->TB 167 [.agg x.row]:=by
 intro k
 induction k with
 |zero=>intro x h;have:=x.wt_eq;omega
 |succ k B=>
  intro x S Y;have O:=x.wt_eq;have N:=aa.wts_len x.body;have M:=aa.wts_len x.els;have c1:=Gf x.body Ua λi u=>B _ (by have:=aa.wts_get _ i u;omega) Ua
  have c2:=Gf x.els Ua λi u=>B _ (by have:=aa.wts_get _ i u;omega) Ua
  have c7:∀i∈x.index,TB 189 [.agg i.row]:=λi u=>by obtain⟨j,hj,rfl⟩:=TG u;exact KT _ _ (Fd _) (by have:=aw.wts_get x.index j hj;omega)
  refine tb λQ hq=>pz _ _ _ ?_
  have E:=λ(_:True)=>Rj (op:=x.op) (line:=x.line) hq c1 c2 (KT _ x.expr (Fd _) Ua) (Mt x.expr) c7 (jh x.arg Ua) (jh x.name Ua);clear c1 c2 c7 B S O N M Y;unfold aa.row;refine vw ?_
  repeat' (first|with_reducible exact E trivial|refine st ?_|refine sb λG D=>?_|refine s2 (λh=>?_) λh=>?_|fail)
  all_goals exact hq _ _
theorem KU(d:aM)(B:d.wt<2^40):TB 131 [.agg d.enc]:=by
 have G:=jh d.name (by unfold aM.wt at B;omega);have E:=jh d.on (by unfold aM.wt at B;omega);refine tb λQ hq=>pE _ _ _ ?_
 have z0:True->pC Q [] (.pptr [d.enc] 0 0):=by
  intro _;refine vw ?_
  repeat' (first|refine st ?_|refine sb λu j=>?_|refine s2 (λh=>?_) λh=>?_|fail)
  all_goals exact hq _ _
 have D:True->pD Q [] (.pptr [d.enc] 0 0):=by
  intro _;refine vw ?_
  repeat' (first|with_reducible exact z0 trivial|refine st ?_|(refine pf 107 ?_;refine pm (E) ?_)|refine sb λu j=>?_|refine s2 (λh=>?_) λh=>?_|fail)
  all_goals exact hq _ _
 refine vw ?_
 repeat' (first|with_reducible exact D trivial|refine st ?_|(refine pf 107 ?_;refine pm (G) ?_)|refine sb λu j=>?_|refine s2 (λh=>?_) λh=>?_|fail)
 all_goals exact hq _ _
theorem KV(p:bT)(hw:p.wt<2^40):TB 89 [.agg p.enc]:=by
 have hl1:=p.decls_len;have hl2:=p.threads_len;refine tb λQ hq=>wx _ _ _ ?_
 refine vw ?_
 repeat' (first|refine st ?_|refine sb λB u=>?_|refine s2 (λh=>?_) λh=>?_|fail)
 refine lw p.decls.length (λi=>[.pptr [p.enc] 0 0,.Uf i]) Ua rfl (λi D G hi N Y=>?_) (λi D G N=>?_)
 all_goals refine vw ?_
 .have hx:=ao (f:=aM.enc) D;have hc:=KU p.decls[i] (by have:=p.decl_wt D;omega)
  repeat' (first|refine st ?_|(refine pf 131 ?_;refine pm (hc) ?_)|refine sb λB u=>?_|refine s2 (λh=>?_) λh=>?_|fail)
  all_goals first|exact hq _ _|exact Y
 .repeat' (first|refine st ?_|refine sb λB u=>?_|refine s2 (λh=>?_) λh=>?_|fail)
  refine lw p.threads.length (λi=>[.pptr [p.enc] 0 0,.Uf i]) Ua rfl (λi D G hi N Y=>?_) (λi D G N=>?_)
  all_goals refine vw ?_
  .have hx:=ao (f:=ai.enc) D;have hwt:=p.thread_wt D;have E:=λj (Z:j<(p.threads[i]).locals.length)=>(p.threads[i]).local_len Z
   have hwe:(p.threads[i]).wt=1+(p.threads[i]).name.length+(p.threads[i]).locals.length+((p.threads[i]).locals.map List.length).sum+aa.wts (p.threads[i]).body:=rfl;have O:=jh (p.threads[i]).name Ua;have hbd:=Gf (p.threads[i]).body (by have:=aa.wts_len (p.threads[i]).body;omega) λj Z=>Rk _ _ (Fd _) (by have:=aa.wts_get _ j Z;omega)
   generalize p.threads[i]=t at *
   repeat' (first|refine st ?_|refine sb λB u=>?_|refine s2 (λh=>?_) λh=>?_|fail)
   refine lw t.locals.length (λj=>[.pptr [p.enc] 0 0,.Uf i,.pptr [t.enc] 0 0,.Uf j]) Ua rfl (λj D G hi2 M S=>?_) (λj D G M=>?_)
   all_goals refine vw ?_
   .have hx2:=ao (f:=au) D;have hc:=jh t.locals[j] (by have:=E j D;omega)
    repeat' (first|refine st ?_|(refine pf 107 ?_;refine pm (hc) ?_)|refine sb λB u=>?_|refine s2 (λh=>?_) λh=>?_|fail)
    all_goals first|exact hq _ _|exact S
   .repeat' (first|refine st ?_|(refine pf 107 ?_;refine pm (O) ?_)|(refine pf 132 ?_;refine pm (hbd) ?_)|refine sb λB u=>?_|refine s2 (λh=>?_) λh=>?_|fail)
    all_goals first|exact hq _ _|exact Y
  .repeat' (first|refine st ?_|refine sb λB u=>?_|refine s2 (λh=>?_) λh=>?_|fail)
   exact hq _ _
end
end Go.Proofs.YtbofdbhnbodbiaaGreatDoor.Am
