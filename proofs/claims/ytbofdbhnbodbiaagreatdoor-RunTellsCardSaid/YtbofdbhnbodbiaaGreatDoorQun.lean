/- A part of the proof; the statement is proved in the last part. -/
import Derived.Test.YtbofdbhnbodbiaaGreatDoorQum
set_option linter.all false
set_option maxRecDepth 100000
set_option maxHeartbeats 20000000
namespace Go.Proofs.YtbofdbhnbodbiaaGreatDoor.Am
section
theorem dU(i:Int)(n:Nat):aq Tryz.prog 102 [.U1 i,.U1 n] (.bool (inB i n)):=by
 refine sR _ _ _ _ ?_;refine vw ?_;generalize D:(λ(u:AV) (K:SH)=>u=AV.bool (inB i n)/\K=[])=Q
 repeat' (first|refine st ?_|refine sb λB j=>?_|refine s2 (λh=>?_) λh=>?_|fail)
 all_goals
  subst D;refine⟨?_,rfl⟩;simp_all[inB]<;>omega
def ng(op:Int):Bool:=decide (1<=op)&&decide (op<=5)
theorem vR(op:Int):aq Tryz.prog 151 [.U1 op] (.bool (ng op)):=by
 refine py _ _ _ ?_;refine vw ?_;generalize D:(λ(u:AV) (K:SH)=>u=AV.bool (ng op)/\K=[])=Q
 repeat' (first|refine st ?_|refine sb λB j=>?_|refine s2 (λh=>?_) λh=>?_|fail)
 all_goals
  subst D;refine⟨?_,rfl⟩;simp_all[ng]<;>omega
section
variable (w:aG)
theorem EM(i:Int):aq Tryz.prog 149 [.agg w.enc,.U1 i] (.bool (vP w i)):=by
 have u:=dU i w.cells.length;refine px _ _ _ _ ?_;unfold vP;refine vw ?_;cases B:inB i w.cells.length with
 |false=>
  rw[B]at u
  repeat' (first|refine st ?_|(refine pf 102 ?_;refine pm (u) ?_)|refine sb λD j=>?_|refine s2 (λh=>?_) λh=>?_|fail)
  exact⟨rfl,rfl⟩
 |true=>
  rw[B]at u;have E:=bS (f:=aF.enc) B;obtain⟨k,rfl⟩:=TM (cG B);unfold aF.enc at E;rw[T3]at E
  repeat' (first|refine st ?_|(refine pf 102 ?_;refine pm (u) ?_)|refine sb λD j=>?_|refine s2 (λh=>?_) λh=>?_|fail)
  exact⟨rfl,rfl⟩
theorem Gg(i n:Int):aq Tryz.prog 150 [.agg w.enc,.U1 i,.U1 n] (.bool (wJ w i n)):=by
 have D:=dU i w.cells.length;refine ri _ _ _ _ _ ?_;refine vw ?_;generalize N:(λ(u:AV) (K:SH)=>u=AV.bool (wJ w i n)/\K=[])=Q;have M:∀b,wJ w i n=b->Q (.bool b) []:=λb O=>by subst N;exact⟨by rw[O],rfl⟩
 clear N;cases B:inB i w.cells.length with
 |false=>
  rw[B]at D
  repeat' (first|refine st ?_|(refine pf 102 ?_;refine pm (D) ?_)|refine sb λE j=>?_|refine s2 (λh=>?_) λh=>?_|fail)
  exact M _ (by simp[wJ,B])
 |true=>
  rw[B]at D;have G:=bS (f:=aF.enc) B;obtain⟨k,rfl⟩:=TM (cG B);unfold aF.enc at G;rw[T3]at G
  repeat' (first|refine st ?_|(refine pf 102 ?_;refine pm (D) ?_)|refine sb λE j=>?_|refine s2 (λh=>?_) λh=>?_|fail)
  all_goals exact M _ (by simp_all[wJ])
theorem BQ(i:Int)(j:Bool):aq Tryz.prog 100 [.agg w.enc,.U1 i,.bool j] (.bool (jD w i j)):=by
 have B:=dU i w.locks.length;refine sQ _ _ _ _ _ ?_;unfold jD;refine vw ?_;cases D:inB i w.locks.length with
 |false=>
  rw[D]at B
  repeat' (first|refine st ?_|(refine pf 102 ?_;refine pm (B) ?_)|refine sb λE u=>?_|refine s2 (λh=>?_) λh=>?_|fail)
  exact⟨rfl,rfl⟩
 |true=>
  rw[D]at B;obtain⟨k,rfl⟩:=TM (cG D);have G:k<w.locks.length:=by have:=(av.1 D).2;omega
  have M:=am (f:=bn.enc) G;unfold bn.enc at M
  repeat' (first|refine st ?_|(refine pf 102 ?_;refine pm (B) ?_)|refine sb λE u=>?_|refine s2 (λh=>?_) λh=>?_|fail)
  refine⟨congrArg AV.bool ?_,rfl⟩;rw[T3,Un,Td G];simp only[Uo,Bool.true_and];generalize w.locks[k].rw=r;cases r<;>cases j<;>rfl
end
def Au(n:Nat)(i:aT):Bool:=if i.op=5 then inB i.a n else if i.op=10 then inB i.b n else true
theorem KA(n a:Int):(yw n a).2=decide (n=4\/n=5):=by
 unfold yw
 repeat' split
 all_goals simp_all
theorem It(n a b:Int):(iQ n a b).2=decide (6<=n/\n<=18):=by
 by_cases h:6<=n/\n<=18
 .rw[decide_eq_true h];have:n=6\/n=7\/n=8\/n=9\/n=10\/n=11\/n=12\/n=13\/n=14\/n=15\/n=16\/n=17\/n=18:=by omega
  unfold iQ;rcases this with rfl|rfl|rfl|rfl|rfl|rfl|rfl|rfl|rfl|rfl|rfl|rfl|rfl<;>rfl
 .rw[decide_eq_false h];unfold iQ;rw[if_neg UW,if_neg UW,if_neg UW,if_neg UW,if_neg UW,if_neg UW,if_neg UW,if_neg UW,if_neg UW,if_neg UW,if_neg UW,if_neg UW,if_neg UW]
theorem CQ(w:aG)(n:Nat)(i:aT):aq Tryz.prog 104 [.agg w.enc,.U1 n,.agg i.enc] (.bool (ku w i&&Au n i)):=by
 obtain⟨op,B,E,G,m,j⟩:=i;refine kv _ _ _ _ _ ?_;refine vw ?_;have h1:=dU B n;have h2:=dU E n;have hc:=dU B w.conds.length;have Y:=dU B w.threads.length;have hf:=dU B w.futures.length;have hg:=dU E w.futures.length;have M:=EF m 0;have D:=BP m 0 0;unfold re at M D;rw[KA]at M;rw[It]at D;have Z:=EM w;have ha:=Gg w;have hl:=BQ w;generalize O:(λ(u:AV) (K:SH)=>u=AV.bool (ku w ⟨op,B,E,G,m,j⟩&&Au n ⟨op,B,E,G,m,j⟩)/\K=[])=Q;have hq:∀b:Bool,(ku w ⟨op,B,E,G,m,j⟩&&Au n ⟨op,B,E,G,m,j⟩)=b->Q (.bool b) []:=λb hb=>by subst hb;subst O;exact⟨rfl,rfl⟩
 clear O
 repeat' (first|refine st ?_|(refine pf 102 ?_;refine pm (h1) ?_)|(refine pf 102 ?_;refine pm (h2) ?_)|(refine pf 102 ?_;refine pm (hc) ?_)|(refine pf 102 ?_;refine pm (Y) ?_)|(refine pf 102 ?_;refine pm (hf) ?_)|(refine pf 102 ?_;refine pm (hg) ?_)|(refine pf 147 ?_;refine pm (M) ?_)|(refine pf 148 ?_;refine pm (D) ?_)|(refine pf 149 ?_;refine pm (Z _) ?_)|(refine pf 150 ?_;refine pm (ha _ _) ?_)|(refine pf 100 ?_;refine pm (hl _ _) ?_)|refine sb λS N=>?_|refine s2 (λh=>?_) λh=>?_|fail)
 all_goals
  refine hq _ ?_;simp only[decide_eq_true_eq,decide_eq_false_iff_not]at *;unfold ku Au
  first
   |(subst_vars;rfl)
   |(subst_vars;simp;done)
   |(simp_all;done)
end
section
section
variable {L:SH} {K:AV->Prop} {KL:R} {KS:SH->Prop}
theorem MF(h:∀b,b∉L.names->KL (.mp b) ((b,⟨0,[]⟩)::L)):W.mkmap L KL:=⟨h⟩
theorem KB{z v:AV}{j:Bool}{b:Nat}{s:List UInt8}{x:Blk}(u:(b,x)∈L)(B:x.rows.all rZ=true)(h2:W0.found z j (gC s x.rows 0)=v)(k:K v):W.look z j (.mp b) (.str s) L K:=⟨x,u,B,by rw[h2];exact k⟩
theorem Rl{v:AV}{b:Nat}{s:List UInt8}{x:Blk}{rows:List (List AV)}{j:SH}(u:xq b x ⟨x.size,rows⟩ L j)(D:x.rows.all rZ=true)(h2:v.konst=true)(B:W0.putR s v x.rows=rows)(k:KS j):W.mup (.mp b) (.str s) v L KS:=⟨x,j,D,h2,by rw[B];exact u,k⟩
theorem OT{s:List UInt8}(h:∀b,b∉L.names->KL (.it b) ((b,⟨0,[[.str s,.U1 0]]⟩)::L)):W.rngS (.str s) L KL:=⟨s,rfl,h⟩
theorem Iu{b n:Nat}{s:List UInt8}{k:IntKind}{j:Int}(u:(b,(⟨n,[[.str s,.int k j]]⟩:Blk))∈L)(h:¬j<s.length)(B:KL (.tup [.bool false]) L):W.nxt (.it b) L KL:=⟨_,s,k,j,u,rfl,by rw[if_neg h];exact B⟩
theorem Rm{b n:Nat}{s:List UInt8}{k:IntKind}{j:Nat}{u:SH}(D:(b,(⟨n,[[.str s,.int k (j:Int)]]⟩:Blk))∈L)(h:j<s.length)(B:xq b ⟨n,[[.str s,.int k (j:Int)]]⟩ ⟨n,[[.str s,.U1 ((j+(Utf8.decode ⟨s.toArray⟩ j).2:Nat):Int)]]⟩ L u)
  (E:KL (.tup [.bool true,.U1 (j:Int),.int .i32 (Utf8.decode ⟨s.toArray⟩ j).1]) u):W.nxt (.it b) L KL:=⟨_,s,k,j,D,rfl,by
 rw[if_pos UW];simp only[T3];exact⟨u,B,E⟩⟩
end
theorem uH{α:Type}(S:α->List AV×SH)(m:α->Nat)(G:α->Prop){B:List AV->SH->W.Kn->Prop}{vs:List AV}{L:SH}(u:α)(Z:G u)(E:vs=(S u).1)(N:L=(S u).2)
  (h:∀a,G a->∀D:W.Kn,(∀j,G j->m j<m a->D (S j).1 (S j).2)->B (S a).1 (S a).2 D):W.loop B vs L:=
 Mb S m G u Z E N λa M=>h a M _ λj Y O=>⟨j,Y,O,.refl _ _⟩
end
section
noncomputable def gA (P:Prop):Bool:=@decide P (Classical.propDecidable P)
theorem eG{P:Prop}(h:P):gA P=true:=@decide_eq_true P (Classical.propDecidable P) h
theorem dy{P:Prop}(h:¬P):gA P=false:=@decide_eq_false P (Classical.propDecidable P) h
theorem eH{P:Prop}:gA P=true↔P:=⟨λh=>@of_decide_eq_true P (Classical.propDecidable P) h,eG⟩
theorem CR(i:aT):aq Tryz.prog 103 [.agg i.enc] (.lst ((aO i).map ah)):=by
 obtain⟨op,u,j,D,n,B⟩:=i;refine ac.fz (oa _ _ _ ?_);refine vw ?_;generalize N:(λ(v:AV) (L:SH)=>∃G O,az [v] L [G] O/\G=AV.lst ((aO ⟨op,u,j,D,n,B⟩).map ah)/\O=[])=Q;have E:∀(l:List Int),aO ⟨op,u,j,D,n,B⟩=l->∀v L,Fz L v (.lst (l.map ah))->Q v L:=λl Y v L h=>by subst N;exact⟨_,[],az.all h,by rw[Y],rfl⟩
 clear N
 repeat' (first|refine st ?_|refine sb λS M=>?_|refine s2 (λh=>?_) λh=>?_|fail)
 all_goals first
  |exact E [u] (by simp_all[aO];done) _ _ (Fz.sls (l:=[u]) (f:=ah) (.head _) rfl U0 rfl)
  |exact E [j] (by simp_all[aO];done) _ _ (Fz.sls (l:=[j]) (f:=ah) (.head _) rfl U0 rfl)
  |exact E [u,j] (by simp_all[aO];done) _ _ (Fz.sls (l:=[u,j]) (f:=ah) (.head _) rfl U0 rfl)
  |exact E [u,D] (by simp_all[aO];done) _ _ (Fz.sls (l:=[u,D]) (f:=ah) (.head _) rfl U0 rfl)
  |exact E [j,D] (by simp_all[aO];done) _ _ (Fz.sls (l:=[j,D]) (f:=ah) (.head _) rfl U0 rfl)
  |exact E [u,j,D] (by simp_all[aO];done) _ _ (Fz.sls (l:=[u,j,D]) (f:=ah) (.head _) rfl U0 rfl)
  |exact E [] (by simp_all[aO];done) _ _ .nils
theorem CS{ins:List aT}{k:Nat}{i:aT}(h:ins[k]? =some i):aq Tryz.prog 152 [.lst (ins.map aT.enc),.U1 k] (.U1 (if i.op=5 then i.a else IntKind.i64.wrap ((k:Int)+1))):=by
 have G:(ins.map aT.enc)[k]? =some i.enc:=Ml h;obtain⟨op,E,O,N,n,j⟩:=i;unfold aT.enc at G;refine nX _ _ _ _ ?_;refine vw ?_;generalize M:(λ(u:AV) (K:SH)=>u=AV.U1 (if op=5 then E else IntKind.i64.wrap ((k:Int)+1))/\K=[])=Q
 repeat' (first|refine st ?_|refine sb λD B=>?_|refine s2 (λh=>?_) λh=>?_|fail)
 all_goals
  subst M;refine⟨?_,rfl⟩;simp_all
structure KC(ins:List aT):Prop where
 len:ins.length<2^48
 jmp:∀i∈ins,i.op=5->0<=i.a/\i.a<ins.length
 last:∀(k:Nat) (i:aT),ins[k]? =some i->(i.op=28↔k+1=ins.length)
def nxt(ins:List aT)(k:Nat):Nat:=match ins[k]? with
 |some i=>if i.op=5 then i.a.toNat else k+1
 |none=>0
def mb(ins:List aT)(k:Nat):Nat->Nat
 |0=>k
 |t+1=>nxt ins (mb ins k t)
def mF(ins:List aT)(k:Nat):Prop:=∃i,ins[k]? =some i/\i.sil
section
variable {ins:List aT} (hf:KC ins)
include hf
theorem KD{k:Nat}(h:mF ins k):nxt ins k<ins.length:=by
 obtain⟨i,j,u⟩:=h;have E:=(List.getElem?_eq_some_iff.1 j).1;unfold nxt;rw[j];dsimp only;split
 .rename_i B;have:=hf.jmp i (T0 j) B;omega
 .have D:=hf.last k i j;have:=u.2;have:k+1≠ins.length:=λe=>by have:=D.2 e;omega
  omega
theorem HH{k:Nat}(h:mF ins k):aq Tryz.prog 152 [.lst (ins.map aT.enc),.U1 k] (.U1 (nxt ins k:Nat)):=by
 have G:=KD hf h;obtain⟨i,j,E⟩:=h;have u:=CS j;have B:=(T4.1 j).1;have:(if i.op=5 then i.a else IntKind.i64.wrap ((k:Int)+1))=(nxt ins k:Nat):=by
  unfold nxt;rw[j];dsimp only;split
  .rename_i D;have:=hf.jmp i (T0 j) D;omega
  .have:=hf.len;rw[aw B UW]
 rw[this]at u;exact u
theorem KE{k:Nat}(h:mF ins k)(h2:gt ins (nxt ins k)):gt ins k:=by
 obtain⟨i,u,D⟩:=h;obtain⟨m,j⟩:=h2;unfold nxt at j;rw[u]at j;dsimp only at j;split at j
 .rename_i B;have:=hf.jmp i (T0 u) B;exact⟨m+1,.jump k m i.a.toNat i u B UW j⟩
 .rename_i B;exact⟨m+1,.go k m i u D B j⟩
theorem OU{k m:Nat}(h:mF ins k)(h2:tX ins k m):∃B,m=B+1/\tX ins (nxt ins k) B:=by
 obtain⟨i,E,O⟩:=h;unfold nxt;rw[E];dsimp only;cases h2 with
 |ev _ N u D=>rw[E]at u;cases u;exact absurd O D
 |go _ B N u D M G=>rw[E]at u;cases u;rw[if_neg M];exact⟨B,rfl,G⟩
 |jump _ B j N u M S G=>rw[E]at u;cases u;rw[if_pos M,S];exact⟨B,rfl,by simpa using G⟩
theorem CU{k m:Nat}(h:tX ins k m):∀t,(∀u,u<t->mF ins (mb ins k u))->t<=m/\tX ins (mb ins k t) (m-t)
 |0,_=>⟨TG _,h⟩
 | t+1,hs=>by
  obtain⟨G,h2⟩:=CU h t λu D=>hs u UW
  obtain⟨j,E,B⟩:=OU hf (hs t UW) h2;refine⟨UW,?_⟩;rw[show m-(t+1)=j by omega];exact B
theorem KG{k t u:Nat}(j:∀u,u<t->mF ins (mb ins k u))(M:u<t)(e:mb ins k u=mb ins k t):¬gt ins k:=λ⟨m,B⟩=>by
 obtain⟨O,E⟩:=CU hf B t j;obtain⟨N,D⟩:=CU hf B u λv G=>j v UW
 rw[e]at D;have:=D.uniq E;omega
theorem EN{k:Nat}:∀t,(∀u,u<t->mF ins (mb ins k u))->gt ins (mb ins k t)->∀u,u<=t->gt ins (mb ins k u)
 |0,_,h,u,hu=>by rw[show u=0 by omega];exact h
 | t+1,hs,h,u,hu=>by
  rcases Tf t u with j|j
  .rw[show u=t+1 by omega];exact h
  .exact EN t (λv B=>hs v UW) (KE hf (hs t UW) h) u j
end
def mc(s:List Bool)(ins:List aT)(k:Nat):Nat->List Bool
 |0=>s
 |t+1=>(mc s ins k t).set (mb ins k t) true
theorem jf(s:List Bool)(ins:List aT)(k:Nat):∀t,(mc s ins k t).length=s.length
 |0=>rfl
 |t+1=>by rw[mc,UE,jf s ins k t]
theorem oe{s:List Bool}{ins:List aT}{k j:Nat}:∀t,(mc s ins k t)[j]? =some true->s[j]? =some true\/∃u,u<t/\mb ins k u=j
 |0,h=>.inl h
 | t+1,h=>by
  rw[mc,TF]at h;split at h
  .rename_i e;exact .inr ⟨t,UW,e⟩
  .rcases oe t h with B|⟨u,D,e⟩
   .exact .inl B
   .exact .inr ⟨u,UW,e⟩
theorem og{s:List Bool}{ins:List aT}{k j:Nat}(E:j<s.length):∀t,(s[j]? =some true\/∃u,u<t/\mb ins k u=j)->(mc s ins k t)[j]? =some true
 | 0,h=>by
  rcases h with h|⟨u,D,_⟩
  .exact h
  .omega
 | t+1,h=>by
  rw[mc,TF];split
  .rename_i e;rw[if_pos (by rw[jf];omega)]
  .rename_i e;refine og E t ?_;rcases h with h|⟨u,D,e2⟩
   .exact .inl h
   .refine .inr ⟨u,?_,e2⟩;rcases Tf u t with B|B
    .exact B
    .rw[show u=t by omega]at e2;exact absurd e2 e
theorem Gh{l:List Bool}{k:Nat}(h:k<l.length):∃b,l[k]? =some b:=⟨l[k],Td h⟩
theorem CV{l:List Bool}{k:Nat}{b:Bool}(h:l[k]? =some b):(l.map aB)[k]? =some [.bool b]:=by rw[Tw,h];rfl
theorem EO(s:List Bool)(ins:List aT)(k t:Nat):((mc s ins k t).map aB).set (mb ins k t) [.bool true]=(mc s ins k (t+1)).map aB:=by rw[mc,Ue];rfl
end
end Go.Proofs.YtbofdbhnbodbiaaGreatDoor.Am
