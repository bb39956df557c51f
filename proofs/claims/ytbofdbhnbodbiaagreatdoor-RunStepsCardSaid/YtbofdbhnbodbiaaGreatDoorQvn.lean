/- A part of the proof; the statement is proved in the last part. -/
import Derived.Test.YtbofdbhnbodbiaaGreatDoorQvm
set_option linter.all false
set_option maxRecDepth 100000
set_option maxHeartbeats 20000000
namespace Go.Proofs.YtbofdbhnbodbiaaGreatDoor.Am
section
theorem dR(i:Int)(n:Nat):aq Tryz.prog 102 [.Uf i,.Uf n] (.bool (inB i n)):=by
 refine sC _ _ _ _ ?_;refine vw ?_;generalize D:(λ(u:AV) (K:SH)=>u=AV.bool (inB i n)/\K=[])=Q
 repeat' (first|refine st ?_|refine sb λB j=>?_|refine s2 (λh=>?_) λh=>?_|fail)
 all_goals
  subst D;refine⟨?_,rfl⟩;simp_all[inB]<;>omega
def mP(op:Int):Bool:=decide (1<=op)&&decide (op<=5)
theorem vq(op:Int):aq Tryz.prog 151 [.Uf op] (.bool (mP op)):=by
 refine ph _ _ _ ?_;refine vw ?_;generalize D:(λ(u:AV) (K:SH)=>u=AV.bool (mP op)/\K=[])=Q
 repeat' (first|refine st ?_|refine sb λB j=>?_|refine s2 (λh=>?_) λh=>?_|fail)
 all_goals
  subst D;refine⟨?_,rfl⟩;simp_all[mP]<;>omega
section
variable (w:aI)
theorem Ed(i:Int):aq Tryz.prog 149 [.agg w.enc,.Uf i] (.bool (vn w i)):=by
 have u:=dR i w.cells.length;refine pg _ _ _ _ ?_;unfold vn;refine vw ?_;cases B:inB i w.cells.length with
 |false=>
  rw[B]at u
  repeat' (first|refine st ?_|(refine pf 102 ?_;refine pm (u) ?_)|refine sb λD j=>?_|refine s2 (λh=>?_) λh=>?_|fail)
  exact⟨rfl,rfl⟩
 |true=>
  rw[B]at u;have E:=bQ (f:=aH.enc) B;obtain⟨k,rfl⟩:=SZ (cG B);unfold aH.enc at E;rw[Td]at E
  repeat' (first|refine st ?_|(refine pf 102 ?_;refine pm (u) ?_)|refine sb λD j=>?_|refine s2 (λh=>?_) λh=>?_|fail)
  exact⟨rfl,rfl⟩
theorem FP(i n:Int):aq Tryz.prog 150 [.agg w.enc,.Uf i,.Uf n] (.bool (wh w i n)):=by
 have D:=dR i w.cells.length;refine qS _ _ _ _ _ ?_;refine vw ?_;generalize N:(λ(u:AV) (K:SH)=>u=AV.bool (wh w i n)/\K=[])=Q;have M:∀b,wh w i n=b->Q (.bool b) []:=λb O=>by subst N;exact⟨by rw[O],rfl⟩
 clear N;cases B:inB i w.cells.length with
 |false=>
  rw[B]at D
  repeat' (first|refine st ?_|(refine pf 102 ?_;refine pm (D) ?_)|refine sb λE j=>?_|refine s2 (λh=>?_) λh=>?_|fail)
  exact M _ (by simp[wh,B])
 |true=>
  rw[B]at D;have G:=bQ (f:=aH.enc) B;obtain⟨k,rfl⟩:=SZ (cG B);unfold aH.enc at G;rw[Td]at G
  repeat' (first|refine st ?_|(refine pf 102 ?_;refine pm (D) ?_)|refine sb λE j=>?_|refine s2 (λh=>?_) λh=>?_|fail)
  all_goals exact M _ (by simp_all[wh])
theorem Bt(i:Int)(j:Bool):aq Tryz.prog 100 [.agg w.enc,.Uf i,.bool j] (.bool (jw w i j)):=by
 have B:=dR i w.locks.length;refine sB _ _ _ _ _ ?_;unfold jw;refine vw ?_;cases D:inB i w.locks.length with
 |false=>
  rw[D]at B
  repeat' (first|refine st ?_|(refine pf 102 ?_;refine pm (B) ?_)|refine sb λE u=>?_|refine s2 (λh=>?_) λh=>?_|fail)
  exact⟨rfl,rfl⟩
 |true=>
  rw[D]at B;obtain⟨k,rfl⟩:=SZ (cG D);have G:k<w.locks.length:=by have:=(av.1 D).2;omega
  have M:=ao (f:=bC.enc) G;unfold bC.enc at M
  repeat' (first|refine st ?_|(refine pf 102 ?_;refine pm (B) ?_)|refine sb λE u=>?_|refine s2 (λh=>?_) λh=>?_|fail)
  refine⟨congrArg AV.bool ?_,rfl⟩;rw[Td,Tz,mt G];simp only[TC,Bool.true_and];generalize w.locks[k].rw=r;cases r<;>cases j<;>rfl
end
def Ac(n:Nat)(i:aS):Bool:=if i.op=5 then inB i.a n else if i.op=10 then inB i.b n else true
theorem J1(n a:Int):(x9 n a).2=decide (n=4\/n=5):=by
 unfold x9
 repeat' split
 all_goals simp_all
theorem HZ(n a b:Int):(iI n a b).2=decide (6<=n/\n<=18):=by
 by_cases h:6<=n/\n<=18
 .rw[decide_eq_true h];have:n=6\/n=7\/n=8\/n=9\/n=10\/n=11\/n=12\/n=13\/n=14\/n=15\/n=16\/n=17\/n=18:=by omega
  unfold iI;rcases this with rfl|rfl|rfl|rfl|rfl|rfl|rfl|rfl|rfl|rfl|rfl|rfl|rfl<;>rfl
 .rw[decide_eq_false h];unfold iI;rw[if_neg Ua,if_neg Ua,if_neg Ua,if_neg Ua,if_neg Ua,if_neg Ua,if_neg Ua,if_neg Ua,if_neg Ua,if_neg Ua,if_neg Ua,if_neg Ua,if_neg Ua]
theorem Cp(w:aI)(n:Nat)(i:aS):aq Tryz.prog 104 [.agg w.enc,.Uf n,.agg i.enc] (.bool (j9 w i&&Ac n i)):=by
 obtain⟨op,B,E,G,m,j⟩:=i;refine kf _ _ _ _ _ ?_;refine vw ?_;have h1:=dR B n;have h2:=dR E n;have hc:=dR B w.conds.length;have Y:=dR B w.threads.length;have hf:=dR B w.futures.length;have hg:=dR E w.futures.length;have M:=D6 m 0;have D:=Bs m 0 0;unfold qQ at M D;rw[J1]at M;rw[HZ]at D;have Z:=Ed w;have ha:=FP w;have hl:=Bt w;generalize O:(λ(u:AV) (K:SH)=>u=AV.bool (j9 w ⟨op,B,E,G,m,j⟩&&Ac n ⟨op,B,E,G,m,j⟩)/\K=[])=Q;have hq:∀b:Bool,(j9 w ⟨op,B,E,G,m,j⟩&&Ac n ⟨op,B,E,G,m,j⟩)=b->Q (.bool b) []:=λb hb=>by subst hb;subst O;exact⟨rfl,rfl⟩
 clear O
 repeat' (first|refine st ?_|(refine pf 102 ?_;refine pm (h1) ?_)|(refine pf 102 ?_;refine pm (h2) ?_)|(refine pf 102 ?_;refine pm (hc) ?_)|(refine pf 102 ?_;refine pm (Y) ?_)|(refine pf 102 ?_;refine pm (hf) ?_)|(refine pf 102 ?_;refine pm (hg) ?_)|(refine pf 147 ?_;refine pm (M) ?_)|(refine pf 148 ?_;refine pm (D) ?_)|(refine pf 149 ?_;refine pm (Z _) ?_)|(refine pf 150 ?_;refine pm (ha _ _) ?_)|(refine pf 100 ?_;refine pm (hl _ _) ?_)|refine sb λS N=>?_|refine s2 (λh=>?_) λh=>?_|fail)
 all_goals
  refine hq _ ?_;simp only[decide_eq_true_eq,decide_eq_false_iff_not]at *;unfold j9 Ac
  first
   |(subst_vars;rfl)
   |(subst_vars;simp;done)
   |(simp_all;done)
end
section
section
variable {L:SH} {K:AV->Prop} {KL:R} {KS:SH->Prop}
theorem L7(h:∀b,b∉L.names->KL (.mp b) ((b,⟨0,[]⟩)::L)):W.mkmap L KL:=⟨h⟩
theorem J2{z v:AV}{j:Bool}{b:Nat}{s:List UInt8}{x:Blk}(u:(b,x)∈L)(B:x.rows.all rL=true)(h2:W0.found z j (gv s x.rows 0)=v)(k:K v):W.look z j (.mp b) (.str s) L K:=⟨x,u,B,by rw[h2];exact k⟩
theorem QC{v:AV}{b:Nat}{s:List UInt8}{x:Blk}{rows:List (List AV)}{j:SH}(u:wZ b x ⟨x.size,rows⟩ L j)(D:x.rows.all rL=true)(h2:v.konst=true)(B:W0.putR s v x.rows=rows)(k:KS j):W.mup (.mp b) (.str s) v L KS:=⟨x,j,D,h2,by rw[B];exact u,k⟩
theorem Of{s:List UInt8}(h:∀b,b∉L.names->KL (.it b) ((b,⟨0,[[.str s,.Uf 0]]⟩)::L)):W.rngS (.str s) L KL:=⟨s,rfl,h⟩
theorem H3{b n:Nat}{s:List UInt8}{k:IntKind}{j:Int}(u:(b,(⟨n,[[.str s,.int k j]]⟩:Blk))∈L)(h:¬j<s.length)(B:KL (.tup [.bool false]) L):W.nxt (.it b) L KL:=⟨_,s,k,j,u,rfl,by rw[if_neg h];exact B⟩
theorem QD{b n:Nat}{s:List UInt8}{k:IntKind}{j:Nat}{u:SH}(D:(b,(⟨n,[[.str s,.int k (j:Int)]]⟩:Blk))∈L)(h:j<s.length)(B:wZ b ⟨n,[[.str s,.int k (j:Int)]]⟩ ⟨n,[[.str s,.Uf ((j+(Utf8.decode ⟨s.toArray⟩ j).2:Nat):Int)]]⟩ L u)
  (E:KL (.tup [.bool true,.Uf (j:Int),.int .i32 (Utf8.decode ⟨s.toArray⟩ j).1]) u):W.nxt (.it b) L KL:=⟨_,s,k,j,D,rfl,by
 rw[if_pos Ua];simp only[Td];exact⟨u,B,E⟩⟩
end
theorem uq{α:Type}(S:α->List AV×SH)(m:α->Nat)(G:α->Prop){B:List AV->SH->W.Kn->Prop}{vs:List AV}{L:SH}(u:α)(Z:G u)(E:vs=(S u).1)(N:L=(S u).2)
  (h:∀a,G a->∀D:W.Kn,(∀j,G j->m j<m a->D (S j).1 (S j).2)->B (S a).1 (S a).2 D):W.loop B vs L:=
 Lw S m G u Z E N λa M=>h a M _ λj Y O=>⟨j,Y,O,.refl _ _⟩
end
section
noncomputable def gx (P:Prop):Bool:=@decide P (Classical.propDecidable P)
theorem eC{P:Prop}(h:P):gx P=true:=@decide_eq_true P (Classical.propDecidable P) h
theorem dq{P:Prop}(h:¬P):gx P=false:=@decide_eq_false P (Classical.propDecidable P) h
theorem fH{P:Prop}:gx P=true↔P:=⟨λh=>@of_decide_eq_true P (Classical.propDecidable P) h,eC⟩
theorem Cq(i:aS):aq Tryz.prog 103 [.agg i.enc] (.lst ((aN i).map ah)):=by
 obtain⟨op,u,j,D,n,B⟩:=i;refine ac.fz (nP _ _ _ ?_);refine vw ?_;generalize N:(λ(v:AV) (L:SH)=>∃G O,az [v] L [G] O/\G=AV.lst ((aN ⟨op,u,j,D,n,B⟩).map ah)/\O=[])=Q;have E:∀(l:List Int),aN ⟨op,u,j,D,n,B⟩=l->∀v L,Fz L v (.lst (l.map ah))->Q v L:=λl Y v L h=>by subst N;exact⟨_,[],az.all h,by rw[Y],rfl⟩
 clear N
 repeat' (first|refine st ?_|refine sb λS M=>?_|refine s2 (λh=>?_) λh=>?_|fail)
 all_goals first
  |exact E [u] (by simp_all[aN];done) _ _ (Fz.sls (l:=[u]) (f:=ah) (.head _) rfl Ue rfl)
  |exact E [j] (by simp_all[aN];done) _ _ (Fz.sls (l:=[j]) (f:=ah) (.head _) rfl Ue rfl)
  |exact E [u,j] (by simp_all[aN];done) _ _ (Fz.sls (l:=[u,j]) (f:=ah) (.head _) rfl Ue rfl)
  |exact E [u,D] (by simp_all[aN];done) _ _ (Fz.sls (l:=[u,D]) (f:=ah) (.head _) rfl Ue rfl)
  |exact E [j,D] (by simp_all[aN];done) _ _ (Fz.sls (l:=[j,D]) (f:=ah) (.head _) rfl Ue rfl)
  |exact E [u,j,D] (by simp_all[aN];done) _ _ (Fz.sls (l:=[u,j,D]) (f:=ah) (.head _) rfl Ue rfl)
  |exact E [] (by simp_all[aN];done) _ _ .nils
theorem Cr{ins:List aS}{k:Nat}{i:aS}(h:ins[k]? =some i):aq Tryz.prog 152 [.lst (ins.map aS.enc),.Uf k] (.Uf (if i.op=5 then i.a else IntKind.i64.wrap ((k:Int)+1))):=by
 have G:(ins.map aS.enc)[k]? =some i.enc:=LH h;obtain⟨op,E,O,N,n,j⟩:=i;unfold aS.enc at G;refine nM _ _ _ _ ?_;refine vw ?_;generalize M:(λ(u:AV) (K:SH)=>u=AV.Uf (if op=5 then E else IntKind.i64.wrap ((k:Int)+1))/\K=[])=Q
 repeat' (first|refine st ?_|refine sb λD B=>?_|refine s2 (λh=>?_) λh=>?_|fail)
 all_goals
  subst M;refine⟨?_,rfl⟩;simp_all
structure J3(ins:List aS):Prop where
 len:ins.length<2^48
 jmp:∀i∈ins,i.op=5->0<=i.a/\i.a<ins.length
 last:∀(k:Nat) (i:aS),ins[k]? =some i->(i.op=28↔k+1=ins.length)
def nxt(ins:List aS)(k:Nat):Nat:=match ins[k]? with
 |some i=>if i.op=5 then i.a.toNat else k+1
 |none=>0
def lW(ins:List aS)(k:Nat):Nat->Nat
 |0=>k
 |t+1=>nxt ins (lW ins k t)
def mq(ins:List aS)(k:Nat):Prop:=∃i,ins[k]? =some i/\i.sil
section
variable {ins:List aS} (hf:J3 ins)
include hf
theorem J4{k:Nat}(h:mq ins k):nxt ins k<ins.length:=by
 obtain⟨i,j,u⟩:=h;have E:=(List.getElem?_eq_some_iff.1 j).1;unfold nxt;rw[j];dsimp only;split
 .rename_i B;have:=hf.jmp i (S8 j) B;omega
 .have D:=hf.last k i j;have:=u.2;have:k+1≠ins.length:=λe=>by have:=D.2 e;omega
  omega
theorem G7{k:Nat}(h:mq ins k):aq Tryz.prog 152 [.lst (ins.map aS.enc),.Uf k] (.Uf (nxt ins k:Nat)):=by
 have G:=J4 hf h;obtain⟨i,j,E⟩:=h;have u:=Cr j;have B:=(Tf.1 j).1;have:(if i.op=5 then i.a else IntKind.i64.wrap ((k:Int)+1))=(nxt ins k:Nat):=by
  unfold nxt;rw[j];dsimp only;split
  .rename_i D;have:=hf.jmp i (S8 j) D;omega
  .have:=hf.len;rw[ax B Ua]
 rw[this]at u;exact u
theorem J5{k:Nat}(h:mq ins k)(h2:gg ins (nxt ins k)):gg ins k:=by
 obtain⟨i,u,D⟩:=h;obtain⟨m,j⟩:=h2;unfold nxt at j;rw[u]at j;dsimp only at j;split at j
 .rename_i B;have:=hf.jmp i (S8 u) B;exact⟨m+1,.jump k m i.a.toNat i u B Ua j⟩
 .rename_i B;exact⟨m+1,.go k m i u D B j⟩
theorem Og{k m:Nat}(h:mq ins k)(h2:tG ins k m):∃B,m=B+1/\tG ins (nxt ins k) B:=by
 obtain⟨i,E,O⟩:=h;unfold nxt;rw[E];dsimp only;cases h2 with
 |ev _ N u D=>rw[E]at u;cases u;exact absurd O D
 |go _ B N u D M G=>rw[E]at u;cases u;rw[if_neg M];exact⟨B,rfl,G⟩
 |jump _ B j N u M S G=>rw[E]at u;cases u;rw[if_pos M,S];exact⟨B,rfl,by simpa using G⟩
theorem Cs{k m:Nat}(h:tG ins k m):∀t,(∀u,u<t->mq ins (lW ins k u))->t<=m/\tG ins (lW ins k t) (m-t)
 |0,_=>⟨SL _,h⟩
 | t+1,hs=>by
  obtain⟨G,h2⟩:=Cs h t λu D=>hs u Ua
  obtain⟨j,E,B⟩:=Og hf (hs t Ua) h2;refine⟨Ua,?_⟩;rw[show m-(t+1)=j by omega];exact B
theorem J6{k t u:Nat}(j:∀u,u<t->mq ins (lW ins k u))(M:u<t)(e:lW ins k u=lW ins k t):¬gg ins k:=λ⟨m,B⟩=>by
 obtain⟨O,E⟩:=Cs hf B t j;obtain⟨N,D⟩:=Cs hf B u λv G=>j v Ua
 rw[e]at D;have:=D.uniq E;omega
theorem Ee{k:Nat}:∀t,(∀u,u<t->mq ins (lW ins k u))->gg ins (lW ins k t)->∀u,u<=t->gg ins (lW ins k u)
 |0,_,h,u,hu=>by rw[show u=0 by omega];exact h
 | t+1,hs,h,u,hu=>by
  rcases Fn t u with j|j
  .rw[show u=t+1 by omega];exact h
  .exact Ee t (λv B=>hs v Ua) (J5 hf (hs t Ua) h) u j
end
def lX(s:List Bool)(ins:List aS)(k:Nat):Nat->List Bool
 |0=>s
 |t+1=>(lX s ins k t).set (lW ins k t) true
theorem i6(s:List Bool)(ins:List aS)(k:Nat):∀t,(lX s ins k t).length=s.length
 |0=>rfl
 |t+1=>by rw[lX,TS,i6 s ins k t]
theorem nQ{s:List Bool}{ins:List aS}{k j:Nat}:∀t,(lX s ins k t)[j]? =some true->s[j]? =some true\/∃u,u<t/\lW ins k u=j
 |0,h=>.inl h
 | t+1,h=>by
  rw[lX,SS]at h;split at h
  .rename_i e;exact .inr ⟨t,Ua,e⟩
  .rcases nQ t h with B|⟨u,D,e⟩
   .exact .inl B
   .exact .inr ⟨u,Ua,e⟩
theorem nR{s:List Bool}{ins:List aS}{k j:Nat}(E:j<s.length):∀t,(s[j]? =some true\/∃u,u<t/\lW ins k u=j)->(lX s ins k t)[j]? =some true
 | 0,h=>by
  rcases h with h|⟨u,D,_⟩
  .exact h
  .omega
 | t+1,h=>by
  rw[lX,SS];split
  .rename_i e;rw[if_pos (by rw[i6];omega)]
  .rename_i e;refine nR E t ?_;rcases h with h|⟨u,D,e2⟩
   .exact .inl h
   .refine .inr ⟨u,?_,e2⟩;rcases Fn u t with B|B
    .exact B
    .rw[show u=t by omega]at e2;exact absurd e2 e
theorem FQ{l:List Bool}{k:Nat}(h:k<l.length):∃b,l[k]? =some b:=⟨l[k],mt h⟩
theorem Ct{l:List Bool}{k:Nat}{b:Bool}(h:l[k]? =some b):(l.map aB)[k]? =some [.bool b]:=by rw[SJ,h];rfl
theorem Ef(s:List Bool)(ins:List aS)(k t:Nat):((lX s ins k t).map aB).set (lW ins k t) [.bool true]=(lX s ins k (t+1)).map aB:=by rw[lX,To];rfl
end
end Go.Proofs.YtbofdbhnbodbiaaGreatDoor.Am
