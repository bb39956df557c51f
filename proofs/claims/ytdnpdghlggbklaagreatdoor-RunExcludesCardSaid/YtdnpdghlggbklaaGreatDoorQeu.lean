/- A part of the proof; the statement is proved in the last part. -/
import Derived.Test.YtdnpdghlggbklaaGreatDoorQet
set_option linter.unusedSimpArgs false
set_option linter.unusedVariables false
namespace Go.Proofs.YtdnpdghlggbklaaGreatDoor.Am
section
set_option maxRecDepth 100000
set_option maxHeartbeats 2000000
def Mo(b:UInt8):dF:=⟨(b.toNat:Int).tmod 4,((b.toNat:Int).tdiv 4).tmod 5-1⟩
theorem SF(b:UInt8):IntKind.i64.wrap (((b.toNat:Int).tdiv 4).tmod 5-1)=((b.toNat:Int).tdiv 4).tmod 5-1:=by
 have h:(b.toNat:Int)<256:=by have:=b.toNat_lt;omega
 have h1:((b.toNat:Int).tdiv 4).tmod 5=((b.toNat:Int) / 4) % 5:=by rw[Int.tdiv_eq_ediv_of_nonneg Xh,Int.tmod_eq_emod_of_nonneg Xh]
 rw[Wr _ (by rw[h1];omega)]
theorem I8(t:List UInt8)(ht:t.length<2^20):az Tryz.prog 9 [.lst (t.map fx)] (.lst ((t.map Mo).map dF.enc)):=by
 refine af.fz (Ch _ _ _ ?_);unfold qh;generalize hQ:(λ(v:AV) (L:SH)=>∃v2 L2,aJ [v] L [v2] L2∧v2=AV.lst ((t.map Mo).map dF.enc)∧L2=[])=Q;have hq:∀v L,Fz L v (.lst ((t.map Mo).map dF.enc))→Q v L:=λv L h=>by subst hQ;exact⟨_,[],aJ.all h,rfl,rfl⟩
 clear hQ;refine cg t.length (λk (o:Option Nat)=>([.lst (t.map fx),am o k,.Xm k],ae o 2 (((t.take k).map Mo).map dF.enc))) (λk o=>o=none→k=0) none (λ_=>rfl) (aJ.drop (K:=[]) (.refl _) rfl (ji.at_ (.cons (.refl _) (.cons .nile (.cons (.refl _) .nil)))).2) ?_;intro k o hk ho;dsimp only;unfold nP;rcases Nat.lt_or_ge k t.length with g1|g1
 ·have hd:=bF g1;have hx:=aw (f:=fx) g1;have htk:t.take (k+1)=t.take k++[t[k]]:=VJ g1;have ho2:o=none→((t.take k).map Mo).map dF.enc=[]:=λe=>by rw[ho e];rfl
  have hl:((t.take k).map Mo).length=k:=by simp;omega
  generalize t[k]=b at *;have hb:(b.toNat:Int)<256:=by have:=b.toNat_lt;omega
  have w1:IntKind.i64.wrap (b.toNat:Int)=(b.toNat:Int):=Wr _ Xh;have w2:=SF b;have fin:∀(nb:Nat) (L:SH),gN L (ae (some nb) 2 (((t.take k).map Mo).map dF.enc++[(Mo b).enc]))→∃(j:Nat) (o':Option Nat),k<j∧j≤t.length∧(o'=none→j=0)∧aJ [.lst (t.map fx),.sl nb 0 (k+1),.Xm (IntKind.i64.wrap ((k:Int)+1))] L [.lst (t.map fx),am o' j,.Xm j] (ae o' 2 (((t.take j).map Mo).map dF.enc)):=by intro nb L hL;refine⟨k+1,some nb,Xh,Xh,nofun,?_⟩;rw[aE g1 Xh];exact aJ.pickE hL rfl (by rw[htk];simp)
  rw[show(Mo b).enc=[.Xm ((b.toNat:Int).tmod 4),.Xm (((b.toNat:Int).tdiv 4).tmod 5-1)]from rfl]at fin;rw[show fx b=[.int .u8 (b.toNat:Int)]from rfl]at hx;clear hq;generalize hX:((t.take k).map Mo).map dF.enc=X at *;have hXl:X.length=k:=by rw[←hX];simp;omega
  repeat' (first|refine st ?_|refine cz rp rp Xh ho2 Xj Xk (by simp;omega) (by simp;omega) Xj (λnb_ hnb_=>?_)|refine sb λnb_ hnb_=>?_|refine s2 (λh=>?_) λh=>?_|fail)
  have w3:IntKind.i64.wrap ((b.toNat:Int).tdiv 4)=(b.toNat:Int).tdiv 4:=by rw[Int.tdiv_eq_ediv_of_nonneg Xh];exact Wr _ Xh
  simp only[w1,w3,w2];exact fin nb_ _ rp
 ·have hd:=bI g1;have hk0:k=t.length:=by omega
  subst hk0;rw[Wo (VC _)];have fin:∀L,(∀q∈ae o 2 ((t.map Mo).map dF.enc),q∈L)→Q (am o t.length) L:=λL hm=>by
   refine hq _ _ ?_;cases o with
   |none=>have:t=[]:=WF.1 (ho rfl);subst this;exact .emp
   |some b=>exact Fz.sls (hm _ (.head _)) rfl Xl Xk
  repeat' (first|refine st ?_|refine sb λnb_ hnb_=>?_|refine s2 (λh=>?_) λh=>?_|fail)
  exact fin _ λq h=>h
end
section
set_option linter.unusedSectionVars false
def F5(T:FuncId→List AV→Option AV)(call:FuncId→List AV→ac→Option (AV×ac))(g:FuncId)(args:List AV)(H:ac):Option (AV×ac):=match T g args with
 |some v=>some (v,H)
 |none=>call g args H
def dH(P:Program)(F:TypeId→Option (List TypeId))(T:FuncId→List AV→Option AV):Nat→Code→List AV→ac→Option (Ex×List AV×ac)
 |0,_,_,_=>none
 |f+1,c,τ,H=>
  match c with
  |.skip|.label _=>some (.normal,τ,H)
  | .region _ ops draw=>match dx P F (F5 T (oU P (dH P F T f))) ops draw τ H with
   |some (τ,H)=>some (.normal,τ,H)
   |none=>none
  | .seq a b=>match dH P F T f a τ H with
   |some (.normal,τ,H)=>dH P F T f b τ H
   |r=>r
  | .cond c a b=>match j0 τ c with
   |.bool true=>dH P F T f a τ H
   |.bool false=>dH P F T f b τ H
   |_=>none
  | .block id b=>match dH P F T f b τ H with
   |some (.exit id',τ,H)=>if id'=id then some (.normal,τ,H)else some (.exit id',τ,H)
   |r=>r
  | .loop b=>match dH P F T f b τ H with
   |some (.normal,τ,H)=>dH P F T f (.loop b) τ H
   |r=>r
  |.exit id=>some (.exit id,τ,H)
  |.ret=>some (.ret,τ,H)
  |_=>none
def sO(P:Program)(T:FuncId→List AV→Option AV):Prop:=∀f args v,T f args=some v→gK P f args v
section
variable {P:Program} {F:TypeId→Option (List TypeId)} {T:FuncId→List AV→Option AV} {call:FuncId→List AV→ac→Option (AV×ac)}
theorem I9(hT:sO P T)(hs:ee P call):ee P (F5 T call):=by
 refine⟨λf args H v H' hc=>?_,λf args H v H' hc=>?_,λf args H v H' hc=>?_⟩
 all_goals
  unfold F5 at hc;split at hc
 ·rename_i u hu;cases hc;exact(hT _ _ _ hu).1 _
 ·exact hs.ok _ _ _ _ _ hc
 ·cases hc;exact VC _
 ·exact hs.next _ _ _ _ _ hc
 ·rename_i u hu;cases hc;exact(hT _ _ _ hu).2
 ·exact hs.body _ _ _ _ _ hc
theorem F6(h:∀f args H v H',Bd H→call f args H=some (v,H')→AW H H'):∀f args H v H',Bd H→F5 T call f args H=some (v,H')→AW H H':=λf args H v H' hb hc=>by
 unfold F5 at hc;split at hc
 ·cases hc;exact .refl _
 ·exact h _ _ _ _ _ hb hc
theorem Mp(f:Nat):∀(c:Code) (τ:List AV) (H:ac) (e:Ex) (τ':List AV) (H':ac),Bd H→dH P F T f c τ H=some (e,τ',H')→AW H H':=by
 induction f with
 |zero=>intro c τ H e τ' H' _ h;cases h
 |succ f ih=>
  intro c τ H e τ' H' hbd h;cases c with
  |skip=>cases h;exact .refl _
  |label l=>cases h;exact .refl _
  |exit id=>cases h;exact .refl _
  |ret=>cases h;exact .refl _
  |region id ops draw=>
   simp only[dH]at h;split at h
   ·rename_i hr;cases h;exact Jt (λf args H v H' hb hcall=>F6 (λ_ _ _ _ _ hb hc=>CP ih hb hc) _ _ _ _ _ hb hcall) hbd hr
   ·cases h
  |seq x y=>
   simp only[dH]at h;split at h
   ·rename_i h1;have k1:=ih _ _ _ _ _ _ hbd h1;exact k1.trans (ih _ _ _ _ _ _ (k1.bd hbd) h)
   ·exact ih _ _ _ _ _ _ hbd h
  |cond x c1 c2=>
   simp only[dH]at h;split at h
   ·exact ih _ _ _ _ _ _ hbd h
   ·exact ih _ _ _ _ _ _ hbd h
   ·cases h
  |block id c1=>
   simp only[dH]at h;split at h
   ·rename_i h1;split at h
    ·cases h;exact ih _ _ _ _ _ _ hbd h1
    ·cases h;exact ih _ _ _ _ _ _ hbd h1
   ·exact ih _ _ _ _ _ _ hbd h
  |loop c1=>
   simp only[dH]at h;split at h
   ·rename_i h1;have k1:=ih _ _ _ _ _ _ hbd h1;exact k1.trans (ih _ _ _ _ _ _ (k1.bd hbd) h)
   ·exact ih _ _ _ _ _ _ hbd h
  |_=>simp[dH]at h
theorem Hg(fit:Fit P F)(hT:sO P T)(hgood:∀(g:Nat) (fn:Func) (c:Code),P.funcs[g]? =some fn→fn.body=some c→kj c)(f:Nat):(∀(c:Code) (τ:List AV) (H:ac) (e:Ex) (τ':List AV) (H':ac),kj c→dH P F T f c τ H=some (e,τ',H')→cH P c τ H e τ' H')∧
  (∀(c:Code) (τ:List AV) (H:ac) (e:Ex) (τ':List AV) (H':ac),kj c→dH P F T f (.loop c) τ H=some (e,τ',H')→kS P f c τ H e τ' H'):=by
 induction f with
 |zero=>exact⟨λc τ H e τ' H' _ h=>(by cases h),λc τ H e τ' H' _ h=>(by cases h)⟩
 |succ f ih0=>
  obtain⟨ih,ihl⟩:=ih0;have hs:=I9 hT (wo (P:=P) hgood ih);have hch:∀g args H v H',Bd H→F5 T (oU P (dH P F T f)) g args H=some (v,H')→AW H H':=F6 (λ_ _ _ _ _ hb hc=>CP (Mp f) hb hc);have hloop:∀(c:Code) (τ:List AV) (H:ac) (e:Ex) (τ':List AV) (H':ac),kj c→dH P F T (f+1) (.loop c) τ H=some (e,τ',H')→kS P (f+1) c τ H e τ' H':=by
   intro c1 τ H e τ' H' dr h;simp only[dH]at h;split at h
   ·rename_i τ1 H1 h1;obtain⟨n1,k1⟩:=ih c1 τ H .normal τ1 H1 dr h1;obtain⟨n2,k2⟩:=ihl c1 τ1 H1 e τ' H' dr h;refine⟨VT n1 n2,λw σ a hW hτ Q hQ=>?_⟩;rw[rounds_succ];refine k1 w σ a hW hτ _ λa' w' haf=>?_
    obtain⟨σ1,t1,r1,e1,m1⟩:=haf;exact k2 w' σ1 a' r1 t1 Q λa2 w2 haf2=>hQ a2 w2 (haf2.trans e1 m1 n1)
   ·rename_i hne;obtain⟨n1,k1⟩:=ih c1 τ H e τ' H' dr h;refine⟨n1,λw σ a hW hτ Q hQ=>?_⟩;rw[rounds_succ];refine k1 w σ a hW hτ _ λa' w' haf=>?_
    cases e with
    |normal=>exact absurd h (hne _ _)
    |exit id=>exact hQ _ _ haf
    |ret=>exact hQ _ _ haf
  refine⟨?_,hloop⟩;intro c τ H e τ' H' dr h;cases c with
  |skip=>cases h;exact⟨VC _,λw σ a hW hτ Q hQ=>wp_skip (hQ _ _ (.refl hW hτ))⟩
  |label l=>cases h;exact⟨VC _,λw σ a hW hτ Q hQ=>wp_label (hQ _ _ (.refl hW hτ))⟩
  |exit id=>cases h;exact⟨VC _,λw σ a hW hτ Q hQ=>wp_exit (hQ _ _ (.refl hW hτ))⟩
  |ret=>cases h;exact⟨VC _,λw σ a hW hτ Q hQ=>wp_ret (hQ _ _ (.refl hW hτ))⟩
  |region id ops draw=>
   simp only[dH]at h;split at h
   ·rename_i τ1 H1 hr;cases h;cases draw with
    |false=>exact fU fit hs hr
    |true=>obtain⟨h1,h2⟩:=CU fit hs hch (dr rfl).1 (dr rfl).2 hr;exact⟨h1,λw σ a hW hτ Q hQ=>h2 id w σ a hW hτ Q hQ⟩
   ·cases h
  |seq x y=>
   simp only[dH]at h;split at h
   ·rename_i τ1 H1 h1;obtain⟨n1,k1⟩:=ih x τ H .normal τ1 H1 dr.1 h1;obtain⟨n2,k2⟩:=ih y τ1 H1 e τ' H' dr.2 h;refine⟨VT n1 n2,λw σ a hW hτ Q hQ=>wp_seq (k1 w σ a hW hτ _ λa' w' haf=>?_)⟩;obtain⟨σ1,t1,r1,e1,m1⟩:=haf;exact k2 w' σ1 a' r1 t1 Q λa2 w2 haf2=>hQ a2 w2 (haf2.trans e1 m1 n1)
   ·rename_i hne;obtain⟨n1,k1⟩:=ih x τ H e τ' H' dr.1 h;refine⟨n1,λw σ a hW hτ Q hQ=>wp_seq (k1 w σ a hW hτ _ λa' w' haf=>?_)⟩;cases e with
    |normal=>exact absurd h (hne _ _)
    |exit id=>exact hQ _ _ haf
    |ret=>exact hQ _ _ haf
  |cond x c1 c2=>
   simp only[dH]at h;split at h
   ·rename_i hb;obtain⟨n1,k1⟩:=ih c1 τ H e τ' H' dr.1 h;refine⟨n1,λw σ a hW hτ Q hQ=>wp_cond_true ?_ (k1 w σ a hW hτ Q hQ)⟩;have:=hτ.eval hW.glob x;rw[hb]at this;generalize a.eval x=u at this;cases this;rfl
   ·rename_i hb;obtain⟨n1,k1⟩:=ih c2 τ H e τ' H' dr.2 h;refine⟨n1,λw σ a hW hτ Q hQ=>wp_cond_false ?_ (k1 w σ a hW hτ Q hQ)⟩;have:=hτ.eval hW.glob x;rw[hb]at this;generalize a.eval x=u at this;cases this;rfl
   ·cases h
  |block id c1=>
   simp only[dH]at h;split at h
   ·rename_i id' τ1 H1 h1;obtain⟨n1,k1⟩:=ih c1 τ H _ τ1 H1 dr h1;split at h
    ·rename_i hid;cases h;exact⟨n1,λw σ a hW hτ Q hQ=>wp_block (k1 w σ a hW hτ _ λa' w' haf=>by simp only[HJ,Exit.inBlock,hid,if_true];exact hQ _ _ haf)⟩
    ·rename_i hid;cases h;exact⟨n1,λw σ a hW hτ Q hQ=>wp_block (k1 w σ a hW hτ _ λa' w' haf=>by simp only[HJ,Exit.inBlock,hid,if_false];exact hQ _ _ haf)⟩
   ·rename_i hne;obtain⟨n1,k1⟩:=ih c1 τ H e τ' H' dr h;refine⟨n1,λw σ a hW hτ Q hQ=>wp_block (k1 w σ a hW hτ _ λa' w' haf=>?_)⟩;cases e with
    |normal=>exact hQ _ _ haf
    |exit id=>exact absurd h (hne _ _ _)
    |ret=>exact hQ _ _ haf
  |loop c1=>obtain⟨n1,k1⟩:=hloop c1 τ H e τ' H' dr h;exact⟨n1,λw σ a hW hτ Q hQ=>wp_loop_rounds (f+1) (k1 w σ a hW hτ Q hQ)⟩
  |_=>simp[dH]at h
theorem Ja(fit:Fit P F)(hT:sO P T)(hgood:∀(g:Nat) (fn:Func) (c:Code),P.funcs[g]? =some fn→fn.body=some c→kj c)(f:Nat)(c:Code)(τ:List AV)(H:ac)(e:Ex)(τ':List AV)(H':ac)(dr:kj c)(h:dH P F T f c τ H=some (e,τ',H')):cH P c τ H e τ' H':=
 (Hg fit hT hgood f).1 c τ H e τ' H' dr h
end
theorem gK.of_pure{f:FuncId}{args:List AV}{v:AV}(h:az Tryz.prog f args v)(hv:aW v)(ha:∀(i:Nat) (a:AV),args[i]? =some a→aW a):gK Tryz.prog f args v:=by
 obtain⟨fn,c,hf,hb⟩:=h.1;refine .of_v hf hb hv ha λw σ vs hW hvs=>?_
 obtain⟨u,H',L',h1,_,h3,_⟩:=h.2 ac.empty (λb _=>cS b) ⟨.nil,λp h=>by simp at h⟩;subst h3;refine(h1 w σ vs hW hvs).mono λe w' ⟨v',σ',k1,k2,k3,k4,k5⟩=>⟨v',σ',H',k1,k2,k4⟩
end
def Hj{α:Type}(f:α→α→Bool):List α→List α→Bool
 |[],[]=>true
 |a::l,b::m=>f a b&&Hj f l m
 |_,_=>false
theorem na{α:Type}{f:α→α→Bool}(h:∀a b,f a b=true→a=b):∀{l m:List α},Hj f l m=true→l=m
 |[],[],_=>rfl
 | a::l,b::m,e=>by rw[Hj,VW]at e;rw[h _ _ e.1,na h e.2]
 |[],_::_,e=>by cases e
 |_::_,[],e=>by cases e
def Kg:Nat→AV→AV→Bool
 |0,_,_=>false
 | n+1,a,b=>match a,b with
  |.int k x,.int k' y=>decide (k=k')&&decide (x=y)
  |.bool x,.bool y=>x==y
  |.str x,.str y=>Hj (λ(p q:UInt8)=>decide (p=q)) x y
  |.nils,.nils=>true
  |.emp,.emp=>true
  |.nilp,.nilp=>true
  |.lst r,.lst s=>Hj (Hj (Kg n)) r s
  |.agg r,.agg s=>Hj (Kg n) r s
  |.tup r,.tup s=>Hj (Kg n) r s
  |_,_=>false
theorem Lo:∀{n:Nat} {a b:AV},Kg n a b=true→a=b:=by
 intro n
 induction n with
 |zero=>intro a b h;cases h
 |succ n ih=>
  intro a b h;unfold Kg at h;split at h
  ·simp only[VW,decide_eq_true_eq]at h;rw[h.1,h.2]
  ·rw[beq_iff_eq]at h;rw[h]
  ·rw[na (λp q h=>of_decide_eq_true h) h]
  ·rfl
  ·rfl
  ·rfl
  ·rw[na (λp q h=>na (λa b h=>ih h) h) h]
  ·rw[na (λa b h=>ih h) h]
  ·rw[na (λa b h=>ih h) h]
  ·cases h
def Ew:Nat→AV→Bool
 |0,_=>false
 | n+1,a=>match a with
  |.int ..|.bool _|.str _|.nils|.emp|.nilp=>true
  |.lst r=>r.all λl=>l.all (Ew n)
  |.agg r=>r.all (Ew n)
  |.tup r=>r.all (Ew n)
  |_=>false
theorem Jb:∀{n:Nat} {a:AV},Ew n a=true→aW a:=by
 intro n
 induction n with
 |zero=>intro a h;cases h
 |succ n ih=>
  intro a h;unfold Ew at h;split at h
  ·exact .int _ _
  ·exact .bool _
  ·exact .str _
  ·exact .nils
  ·exact .emp
  ·exact .nilp
  ·refine .lst _ λi r j a h1 h2=>?_
   rw[VR]at h;have:=h _ (Wf h1);rw[VR]at this;exact ih (this _ (Wf h2))
  ·refine .agg _ λi a h1=>?_
   rw[VR]at h;exact ih (h _ (Wf h1))
  ·refine .tup _ λi a h1=>?_
   rw[VR]at h;exact ih (h _ (Wf h1))
  ·cases h
def Mq(n:Nat):List (FuncId×List AV×AV)→(FuncId→List AV→Option AV)→FuncId→List AV→Option AV
 |[],T,f,args=>T f args
 |e::L,T,f,args=>if(Nat.beq f e.1&&Hj (Kg n) args e.2.1)=true then some e.2.2 else Mq n L T f args
theorem CC{n:Nat}{T:FuncId→List AV→Option AV}(hT:sO Tryz.prog T):∀{L:List (FuncId×List AV×AV)},(∀e∈L,gK Tryz.prog e.1 e.2.1 e.2.2)→sO Tryz.prog (Mq n L T)
 |[],_=>hT
 | e::L,h=>λf args v hv=>by
  unfold Mq at hv;split at hv
  ·rename_i hc;rw[VW]at hc;cases hv;have h1:f=e.1:=Nat.eq_of_beq_eq_true hc.1;have h2:=na (λa b h=>Lo h) hc.2;rw[h1,h2];exact h e Xk
  ·exact CC hT (λe he=>h e (by simp[he])) f args v hv
noncomputable def QY (T:FuncId→List AV→Option AV) (n d:Nat) (f:FuncId) (args:List AV):Option AV:=match oU Tryz.prog (dH Tryz.prog Fl T n) f args ac.empty with
 |some (v,H)=>frz H d v
 |none=>none
def VA(d:Nat)(v:AV):Option AV→Bool
 |some u=>Kg d u v
 |none=>false
theorem fP{f:FuncId}{n d:Nat}{args:List AV}{v:AV}{T:FuncId→List AV→Option AV}(hT:sO Tryz.prog T)(hp:(Ew d v&&args.all (Ew d))=true)(hrun:VA d v (QY T n d f args)=true):gK Tryz.prog f args v:=by
 rw[VW,VR]at hp;have hd:=(Qy C4).2;have hs:=wo (P:=Tryz.prog) hd (λc τ H e τ' H' dr hx=>Ja fit hT hd n c τ H e τ' H' dr hx);unfold QY at hrun;split at hrun
 ·rename_i u H' hc;have hz:frz H' d u=some v:=by
   cases hf:frz H' d u with
   |none=>rw[hf]at hrun;cases hrun
   |some x=>rw[hf]at hrun;rw[Lo hrun]
  have hV:KD Tryz.prog f args v:=λw σ vs hW hvs=>(hs.ok _ _ _ _ _ hc w σ vs hW hvs).mono λe w' ⟨v',σ',he,k1,k2,k3,k4⟩=>
   ⟨v',σ',ac.empty,he,wD k2 d u v v' hz k1,k3.trans (ew.sub λb x hb=>by rw[cS]at hb;cases hb)⟩
  obtain⟨fn,c,hf,hb⟩:=hs.body _ _ _ _ _ hc;exact .of_v hf hb (Jb hp.1) (λi a h=>Jb (hp.2 a (Wf h))) hV
 ·cases hrun
theorem az.of_ok{f:FuncId}{args:List AV}{v:AV}(h:gK Tryz.prog f args v):az Tryz.prog f args v:=
 ⟨h.2,λH hb hS=>⟨v,H,[],h.1 H,.refl hb hS,rfl,rfl⟩⟩
section
set_option maxRecDepth 100000
theorem Kh(s:aZ):az Tryz.prog 86 [.str s] (.bool (eh s)):=by
 rcases VG 12 s.length with h|h
 ·have hl:(s.length:Int)<1→False:=by omega
  refine iB _ _ _ ?_;unfold gf;have d1:decide ((s.length:Int)<1)=false:=decide_eq_false Xh;have d2:decide ((s.length:Int) > 12)=true:=decide_eq_true Xh;have e:eh s=false:=by unfold eh;rw[show decide ((s.length:Int)≤12)=false from decide_eq_false Xh];simp
  rw[e]
  repeat' (first|refine st ?_|refine sb λnb_ hnb_=>?_|refine s2 (λh=>?_) λh=>?_|fail)
  all_goals exact⟨rfl,rfl⟩
 ·exact LZ s Xh
end
end Go.Proofs.YtdnpdghlggbklaaGreatDoor.Am
