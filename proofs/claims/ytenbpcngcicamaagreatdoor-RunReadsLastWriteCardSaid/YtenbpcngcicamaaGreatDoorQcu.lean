/- A part of the proof; the statement is proved in the last part. -/
import Derived.Test.YtenbpcngcicamaaGreatDoorQct
set_option linter.unusedSimpArgs false
set_option linter.unusedVariables false
namespace Go.Proofs.YtenbpcngcicamaaGreatDoor.Am
section
set_option maxRecDepth 100000
set_option maxHeartbeats 2000000
def Mh(b:UInt8):dH:=⟨(b.toNat:Int).tmod 4,((b.toNat:Int).tdiv 4).tmod 5-1⟩
theorem Sw(b:UInt8):IntKind.i64.wrap (((b.toNat:Int).tdiv 4).tmod 5-1)=((b.toNat:Int).tdiv 4).tmod 5-1:=by
 have h:(b.toNat:Int)<256:=by have:=b.toNat_lt;omega
 have h1:((b.toNat:Int).tdiv 4).tmod 5=((b.toNat:Int) / 4) % 5:=by rw[Int.tdiv_eq_ediv_of_nonneg W4,Int.tmod_eq_emod_of_nonneg W4]
 rw[We _ (by rw[h1];omega)]
theorem I0(t:List UInt8)(ht:t.length<2^20):aB Tryz.prog 7 [.lst (t.map fq)] (.lst ((t.map Mh).map dH.enc)):=by
 refine ai.fz (Cb _ _ _ ?_);unfold qa;generalize hQ:(λ(v:AV) (L:SH)=>∃v2 L2,aI [v] L [v2] L2∧v2=AV.lst ((t.map Mh).map dH.enc)∧L2=[])=Q;have hq:∀v L,Fz L v (.lst ((t.map Mh).map dH.enc))→Q v L:=λv L h=>by subst hQ;exact⟨_,[],aI.all h,rfl,rfl⟩
 clear hQ;refine cg t.length (λk (o:Option Nat)=>([.lst (t.map fq),aq o k,.W9 k],ah o 2 (((t.take k).map Mh).map dH.enc))) (λk o=>o=none→k=0) none (λ_=>rfl) (aI.drop (K:=[]) (.refl _) rfl (jd.at_ (.cons (.refl _) (.cons .nile (.cons (.refl _) .nil)))).2) ?_;intro k o hk ho;dsimp only;unfold nS;rcases Nat.lt_or_ge k t.length with g1|g1
 ·have hd:=bF g1;have hx:=az (f:=fq) g1;have htk:t.take (k+1)=t.take k++[t[k]]:=Vw g1;have ho2:o=none→((t.take k).map Mh).map dH.enc=[]:=λe=>by rw[ho e];rfl
  have hl:((t.take k).map Mh).length=k:=by simp;omega
  generalize t[k]=b at *;have hb:(b.toNat:Int)<256:=by have:=b.toNat_lt;omega
  have w1:IntKind.i64.wrap (b.toNat:Int)=(b.toNat:Int):=We _ W4;have w2:=Sw b;have fin:∀(nb:Nat) (L:SH),gI L (ah (some nb) 2 (((t.take k).map Mh).map dH.enc++[(Mh b).enc]))→∃(j:Nat) (o':Option Nat),k<j∧j≤t.length∧(o'=none→j=0)∧aI [.lst (t.map fq),.sl nb 0 (k+1),.W9 (IntKind.i64.wrap ((k:Int)+1))] L [.lst (t.map fq),aq o' j,.W9 j] (ah o' 2 (((t.take j).map Mh).map dH.enc)):=by intro nb L hL;refine⟨k+1,some nb,W4,W4,nofun,?_⟩;rw[aE g1 W4];exact aI.pickE hL rfl (by rw[htk];simp)
  rw[show(Mh b).enc=[.W9 ((b.toNat:Int).tmod 4),.W9 (((b.toNat:Int).tdiv 4).tmod 5-1)]from rfl]at fin;rw[show fq b=[.int .u8 (b.toNat:Int)]from rfl]at hx;clear hq;generalize hX:((t.take k).map Mh).map dH.enc=X at *;have hXl:X.length=k:=by rw[←hX];simp;omega
  repeat' (first|refine st ?_|refine cy rp rp W4 ho2 W6 W7 (by simp;omega) (by simp;omega) W6 (λnb_ hnb_=>?_)|refine sb λnb_ hnb_=>?_|refine s2 (λh=>?_) λh=>?_|fail)
  have w3:IntKind.i64.wrap ((b.toNat:Int).tdiv 4)=(b.toNat:Int).tdiv 4:=by rw[Int.tdiv_eq_ediv_of_nonneg W4];exact We _ W4
  simp only[w1,w3,w2];exact fin nb_ _ rp
 ·have hd:=bM g1;have hk0:k=t.length:=by omega
  subst hk0;rw[Wb (Vo _)];have fin:∀L,(∀q∈ah o 2 ((t.map Mh).map dH.enc),q∈L)→Q (aq o t.length) L:=λL hm=>by
   refine hq _ _ ?_;cases o with
   |none=>have:t=[]:=Wr.1 (ho rfl);subst this;exact .emp
   |some b=>exact Fz.sls (hm _ (.head _)) rfl W8 W7
  repeat' (first|refine st ?_|refine sb λnb_ hnb_=>?_|refine s2 (λh=>?_) λh=>?_|fail)
  exact fin _ λq h=>h
end
section
set_option linter.unusedSectionVars false
def FX(T:FuncId→List AV→Option AV)(call:FuncId→List AV→ae→Option (AV×ae))(g:FuncId)(args:List AV)(H:ae):Option (AV×ae):=match T g args with
 |some v=>some (v,H)
 |none=>call g args H
def dJ(P:Program)(F:TypeId→Option (List TypeId))(T:FuncId→List AV→Option AV):Nat→Code→List AV→ae→Option (Ex×List AV×ae)
 |0,_,_,_=>none
 |f+1,c,τ,H=>
  match c with
  |.skip|.label _=>some (.normal,τ,H)
  | .region _ ops draw=>match dB P F (FX T (oY P (dJ P F T f))) ops draw τ H with
   |some (τ,H)=>some (.normal,τ,H)
   |none=>none
  | .seq a b=>match dJ P F T f a τ H with
   |some (.normal,τ,H)=>dJ P F T f b τ H
   |r=>r
  | .cond c a b=>match j7 τ c with
   |.bool true=>dJ P F T f a τ H
   |.bool false=>dJ P F T f b τ H
   |_=>none
  | .block id b=>match dJ P F T f b τ H with
   |some (.exit id',τ,H)=>if id'=id then some (.normal,τ,H)else some (.exit id',τ,H)
   |r=>r
  | .loop b=>match dJ P F T f b τ H with
   |some (.normal,τ,H)=>dJ P F T f (.loop b) τ H
   |r=>r
  |.exit id=>some (.exit id,τ,H)
  |.ret=>some (.ret,τ,H)
  |_=>none
def sF(P:Program)(T:FuncId→List AV→Option AV):Prop:=∀f args v,T f args=some v→gG P f args v
section
variable {P:Program} {F:TypeId→Option (List TypeId)} {T:FuncId→List AV→Option AV} {call:FuncId→List AV→ae→Option (AV×ae)}
theorem I1(hT:sF P T)(hs:ee P call):ee P (FX T call):=by
 refine⟨λf args H v H' hc=>?_,λf args H v H' hc=>?_,λf args H v H' hc=>?_⟩
 all_goals
  unfold FX at hc;split at hc
 ·rename_i u hu;cases hc;exact(hT _ _ _ hu).1 _
 ·exact hs.ok _ _ _ _ _ hc
 ·cases hc;exact Vo _
 ·exact hs.next _ _ _ _ _ hc
 ·rename_i u hu;cases hc;exact(hT _ _ _ hu).2
 ·exact hs.body _ _ _ _ _ hc
theorem FY(h:∀f args H v H',Bd H→call f args H=some (v,H')→AO H H'):∀f args H v H',Bd H→FX T call f args H=some (v,H')→AO H H':=λf args H v H' hb hc=>by
 unfold FX at hc;split at hc
 ·cases hc;exact .refl _
 ·exact h _ _ _ _ _ hb hc
theorem Mi(f:Nat):∀(c:Code) (τ:List AV) (H:ae) (e:Ex) (τ':List AV) (H':ae),Bd H→dJ P F T f c τ H=some (e,τ',H')→AO H H':=by
 induction f with
 |zero=>intro c τ H e τ' H' _ h;cases h
 |succ f ih=>
  intro c τ H e τ' H' hbd h;cases c with
  |skip=>cases h;exact .refl _
  |label l=>cases h;exact .refl _
  |exit id=>cases h;exact .refl _
  |ret=>cases h;exact .refl _
  |region id ops draw=>
   simp only[dJ]at h;split at h
   ·rename_i hr;cases h;exact Jl (λf args H v H' hb hcall=>FY (λ_ _ _ _ _ hb hc=>CJ ih hb hc) _ _ _ _ _ hb hcall) hbd hr
   ·cases h
  |seq x y=>
   simp only[dJ]at h;split at h
   ·rename_i h1;have k1:=ih _ _ _ _ _ _ hbd h1;exact k1.trans (ih _ _ _ _ _ _ (k1.bd hbd) h)
   ·exact ih _ _ _ _ _ _ hbd h
  |cond x c1 c2=>
   simp only[dJ]at h;split at h
   ·exact ih _ _ _ _ _ _ hbd h
   ·exact ih _ _ _ _ _ _ hbd h
   ·cases h
  |block id c1=>
   simp only[dJ]at h;split at h
   ·rename_i h1;split at h
    ·cases h;exact ih _ _ _ _ _ _ hbd h1
    ·cases h;exact ih _ _ _ _ _ _ hbd h1
   ·exact ih _ _ _ _ _ _ hbd h
  |loop c1=>
   simp only[dJ]at h;split at h
   ·rename_i h1;have k1:=ih _ _ _ _ _ _ hbd h1;exact k1.trans (ih _ _ _ _ _ _ (k1.bd hbd) h)
   ·exact ih _ _ _ _ _ _ hbd h
  |_=>simp[dJ]at h
theorem G7(fit:Fit P F)(hT:sF P T)(hgood:∀(g:Nat) (fn:Func) (c:Code),P.funcs[g]? =some fn→fn.body=some c→kp c)(f:Nat):(∀(c:Code) (τ:List AV) (H:ae) (e:Ex) (τ':List AV) (H':ae),kp c→dJ P F T f c τ H=some (e,τ',H')→cG P c τ H e τ' H')∧
  (∀(c:Code) (τ:List AV) (H:ae) (e:Ex) (τ':List AV) (H':ae),kp c→dJ P F T f (.loop c) τ H=some (e,τ',H')→kT P f c τ H e τ' H'):=by
 induction f with
 |zero=>exact⟨λc τ H e τ' H' _ h=>(by cases h),λc τ H e τ' H' _ h=>(by cases h)⟩
 |succ f ih0=>
  obtain⟨ih,ihl⟩:=ih0;have hs:=I1 hT (vW (P:=P) hgood ih);have hch:∀g args H v H',Bd H→FX T (oY P (dJ P F T f)) g args H=some (v,H')→AO H H':=FY (λ_ _ _ _ _ hb hc=>CJ (Mi f) hb hc);have hloop:∀(c:Code) (τ:List AV) (H:ae) (e:Ex) (τ':List AV) (H':ae),kp c→dJ P F T (f+1) (.loop c) τ H=some (e,τ',H')→kT P (f+1) c τ H e τ' H':=by
   intro c1 τ H e τ' H' dr h;simp only[dJ]at h;split at h
   ·rename_i τ1 H1 h1;obtain⟨n1,k1⟩:=ih c1 τ H .normal τ1 H1 dr h1;obtain⟨n2,k2⟩:=ihl c1 τ1 H1 e τ' H' dr h;refine⟨VG n1 n2,λw σ a hW hτ Q hQ=>?_⟩;rw[rounds_succ];refine k1 w σ a hW hτ _ λa' w' haf=>?_
    obtain⟨σ1,t1,r1,e1,m1⟩:=haf;exact k2 w' σ1 a' r1 t1 Q λa2 w2 haf2=>hQ a2 w2 (haf2.trans e1 m1 n1)
   ·rename_i hne;obtain⟨n1,k1⟩:=ih c1 τ H e τ' H' dr h;refine⟨n1,λw σ a hW hτ Q hQ=>?_⟩;rw[rounds_succ];refine k1 w σ a hW hτ _ λa' w' haf=>?_
    cases e with
    |normal=>exact absurd h (hne _ _)
    |exit id=>exact hQ _ _ haf
    |ret=>exact hQ _ _ haf
  refine⟨?_,hloop⟩;intro c τ H e τ' H' dr h;cases c with
  |skip=>cases h;exact⟨Vo _,λw σ a hW hτ Q hQ=>wp_skip (hQ _ _ (.refl hW hτ))⟩
  |label l=>cases h;exact⟨Vo _,λw σ a hW hτ Q hQ=>wp_label (hQ _ _ (.refl hW hτ))⟩
  |exit id=>cases h;exact⟨Vo _,λw σ a hW hτ Q hQ=>wp_exit (hQ _ _ (.refl hW hτ))⟩
  |ret=>cases h;exact⟨Vo _,λw σ a hW hτ Q hQ=>wp_ret (hQ _ _ (.refl hW hτ))⟩
  |region id ops draw=>
   simp only[dJ]at h;split at h
   ·rename_i τ1 H1 hr;cases h;cases draw with
    |false=>exact fR fit hs hr
    |true=>obtain⟨h1,h2⟩:=CO fit hs hch (dr rfl).1 (dr rfl).2 hr;exact⟨h1,λw σ a hW hτ Q hQ=>h2 id w σ a hW hτ Q hQ⟩
   ·cases h
  |seq x y=>
   simp only[dJ]at h;split at h
   ·rename_i τ1 H1 h1;obtain⟨n1,k1⟩:=ih x τ H .normal τ1 H1 dr.1 h1;obtain⟨n2,k2⟩:=ih y τ1 H1 e τ' H' dr.2 h;refine⟨VG n1 n2,λw σ a hW hτ Q hQ=>wp_seq (k1 w σ a hW hτ _ λa' w' haf=>?_)⟩;obtain⟨σ1,t1,r1,e1,m1⟩:=haf;exact k2 w' σ1 a' r1 t1 Q λa2 w2 haf2=>hQ a2 w2 (haf2.trans e1 m1 n1)
   ·rename_i hne;obtain⟨n1,k1⟩:=ih x τ H e τ' H' dr.1 h;refine⟨n1,λw σ a hW hτ Q hQ=>wp_seq (k1 w σ a hW hτ _ λa' w' haf=>?_)⟩;cases e with
    |normal=>exact absurd h (hne _ _)
    |exit id=>exact hQ _ _ haf
    |ret=>exact hQ _ _ haf
  |cond x c1 c2=>
   simp only[dJ]at h;split at h
   ·rename_i hb;obtain⟨n1,k1⟩:=ih c1 τ H e τ' H' dr.1 h;refine⟨n1,λw σ a hW hτ Q hQ=>wp_cond_true ?_ (k1 w σ a hW hτ Q hQ)⟩;have:=hτ.eval hW.glob x;rw[hb]at this;generalize a.eval x=u at this;cases this;rfl
   ·rename_i hb;obtain⟨n1,k1⟩:=ih c2 τ H e τ' H' dr.2 h;refine⟨n1,λw σ a hW hτ Q hQ=>wp_cond_false ?_ (k1 w σ a hW hτ Q hQ)⟩;have:=hτ.eval hW.glob x;rw[hb]at this;generalize a.eval x=u at this;cases this;rfl
   ·cases h
  |block id c1=>
   simp only[dJ]at h;split at h
   ·rename_i id' τ1 H1 h1;obtain⟨n1,k1⟩:=ih c1 τ H _ τ1 H1 dr h1;split at h
    ·rename_i hid;cases h;exact⟨n1,λw σ a hW hτ Q hQ=>wp_block (k1 w σ a hW hτ _ λa' w' haf=>by simp only[HC,Exit.inBlock,hid,if_true];exact hQ _ _ haf)⟩
    ·rename_i hid;cases h;exact⟨n1,λw σ a hW hτ Q hQ=>wp_block (k1 w σ a hW hτ _ λa' w' haf=>by simp only[HC,Exit.inBlock,hid,if_false];exact hQ _ _ haf)⟩
   ·rename_i hne;obtain⟨n1,k1⟩:=ih c1 τ H e τ' H' dr h;refine⟨n1,λw σ a hW hτ Q hQ=>wp_block (k1 w σ a hW hτ _ λa' w' haf=>?_)⟩;cases e with
    |normal=>exact hQ _ _ haf
    |exit id=>exact absurd h (hne _ _ _)
    |ret=>exact hQ _ _ haf
  |loop c1=>obtain⟨n1,k1⟩:=hloop c1 τ H e τ' H' dr h;exact⟨n1,λw σ a hW hτ Q hQ=>wp_loop_rounds (f+1) (k1 w σ a hW hτ Q hQ)⟩
  |_=>simp[dJ]at h
theorem I2(fit:Fit P F)(hT:sF P T)(hgood:∀(g:Nat) (fn:Func) (c:Code),P.funcs[g]? =some fn→fn.body=some c→kp c)(f:Nat)(c:Code)(τ:List AV)(H:ae)(e:Ex)(τ':List AV)(H':ae)(dr:kp c)(h:dJ P F T f c τ H=some (e,τ',H')):cG P c τ H e τ' H':=
 (G7 fit hT hgood f).1 c τ H e τ' H' dr h
end
theorem gG.of_pure{f:FuncId}{args:List AV}{v:AV}(h:aB Tryz.prog f args v)(hv:aY v)(ha:∀(i:Nat) (a:AV),args[i]? =some a→aY a):gG Tryz.prog f args v:=by
 obtain⟨fn,c,hf,hb⟩:=h.1;refine .of_v hf hb hv ha λw σ vs hW hvs=>?_
 obtain⟨u,H',L',h1,_,h3,_⟩:=h.2 ae.empty (λb _=>cT b) ⟨.nil,λp h=>by simp at h⟩;subst h3;refine(h1 w σ vs hW hvs).mono λe w' ⟨v',σ',k1,k2,k3,k4,k5⟩=>⟨v',σ',H',k1,k2,k4⟩
end
def G8{α:Type}(f:α→α→Bool):List α→List α→Bool
 |[],[]=>true
 |a::l,b::m=>f a b&&G8 f l m
 |_,_=>false
theorem nq{α:Type}{f:α→α→Bool}(h:∀a b,f a b=true→a=b):∀{l m:List α},G8 f l m=true→l=m
 |[],[],_=>rfl
 | a::l,b::m,e=>by rw[G8,VS]at e;rw[h _ _ e.1,nq h e.2]
 |[],_::_,e=>by cases e
 |_::_,[],e=>by cases e
def J9:Nat→AV→AV→Bool
 |0,_,_=>false
 | n+1,a,b=>match a,b with
  |.int k x,.int k' y=>decide (k=k')&&decide (x=y)
  |.bool x,.bool y=>x==y
  |.str x,.str y=>G8 (λ(p q:UInt8)=>decide (p=q)) x y
  |.nils,.nils=>true
  |.emp,.emp=>true
  |.nilp,.nilp=>true
  |.lst r,.lst s=>G8 (G8 (J9 n)) r s
  |.agg r,.agg s=>G8 (J9 n) r s
  |.tup r,.tup s=>G8 (J9 n) r s
  |_,_=>false
theorem Li:∀{n:Nat} {a b:AV},J9 n a b=true→a=b:=by
 intro n
 induction n with
 |zero=>intro a b h;cases h
 |succ n ih=>
  intro a b h;unfold J9 at h;split at h
  ·simp only[VS,decide_eq_true_eq]at h;rw[h.1,h.2]
  ·rw[beq_iff_eq]at h;rw[h]
  ·rw[nq (λp q h=>of_decide_eq_true h) h]
  ·rfl
  ·rfl
  ·rfl
  ·rw[nq (λp q h=>nq (λa b h=>ih h) h) h]
  ·rw[nq (λa b h=>ih h) h]
  ·rw[nq (λa b h=>ih h) h]
  ·cases h
def Ep:Nat→AV→Bool
 |0,_=>false
 | n+1,a=>match a with
  |.int ..|.bool _|.str _|.nils|.emp|.nilp=>true
  |.lst r=>r.all λl=>l.all (Ep n)
  |.agg r=>r.all (Ep n)
  |.tup r=>r.all (Ep n)
  |_=>false
theorem I3:∀{n:Nat} {a:AV},Ep n a=true→aY a:=by
 intro n
 induction n with
 |zero=>intro a h;cases h
 |succ n ih=>
  intro a h;unfold Ep at h;split at h
  ·exact .int _ _
  ·exact .bool _
  ·exact .str _
  ·exact .nils
  ·exact .emp
  ·exact .nilp
  ·refine .lst _ λi r j a h1 h2=>?_
   rw[VE]at h;have:=h _ (V2 h1);rw[VE]at this;exact ih (this _ (V2 h2))
  ·refine .agg _ λi a h1=>?_
   rw[VE]at h;exact ih (h _ (V2 h1))
  ·refine .tup _ λi a h1=>?_
   rw[VE]at h;exact ih (h _ (V2 h1))
  ·cases h
def Mj(n:Nat):List (FuncId×List AV×AV)→(FuncId→List AV→Option AV)→FuncId→List AV→Option AV
 |[],T,f,args=>T f args
 |e::L,T,f,args=>if(Nat.beq f e.1&&G8 (J9 n) args e.2.1)=true then some e.2.2 else Mj n L T f args
theorem Cw{n:Nat}{T:FuncId→List AV→Option AV}(hT:sF Tryz.prog T):∀{L:List (FuncId×List AV×AV)},(∀e∈L,gG Tryz.prog e.1 e.2.1 e.2.2)→sF Tryz.prog (Mj n L T)
 |[],_=>hT
 | e::L,h=>λf args v hv=>by
  unfold Mj at hv;split at hv
  ·rename_i hc;rw[VS]at hc;cases hv;have h1:f=e.1:=Nat.eq_of_beq_eq_true hc.1;have h2:=nq (λa b h=>Li h) hc.2;rw[h1,h2];exact h e W7
  ·exact Cw hT (λe he=>h e (by simp[he])) f args v hv
noncomputable def QQ (T:FuncId→List AV→Option AV) (n d:Nat) (f:FuncId) (args:List AV):Option AV:=match oY Tryz.prog (dJ Tryz.prog Fl T n) f args ae.empty with
 |some (v,H)=>frz H d v
 |none=>none
def Vm(d:Nat)(v:AV):Option AV→Bool
 |some u=>J9 d u v
 |none=>false
theorem fM{f:FuncId}{n d:Nat}{args:List AV}{v:AV}{T:FuncId→List AV→Option AV}(hT:sF Tryz.prog T)(hp:(Ep d v&&args.all (Ep d))=true)(hrun:Vm d v (QQ T n d f args)=true):gG Tryz.prog f args v:=by
 rw[VS,VE]at hp;have hd:=(Qr CY).2;have hs:=vW (P:=Tryz.prog) hd (λc τ H e τ' H' dr hx=>I2 fit hT hd n c τ H e τ' H' dr hx);unfold QQ at hrun;split at hrun
 ·rename_i u H' hc;have hz:frz H' d u=some v:=by
   cases hf:frz H' d u with
   |none=>rw[hf]at hrun;cases hrun
   |some x=>rw[hf]at hrun;rw[Li hrun]
  have hV:Kx Tryz.prog f args v:=λw σ vs hW hvs=>(hs.ok _ _ _ _ _ hc w σ vs hW hvs).mono λe w' ⟨v',σ',he,k1,k2,k3,k4⟩=>
   ⟨v',σ',ae.empty,he,wj k2 d u v v' hz k1,k3.trans (ew.sub λb x hb=>by rw[cT]at hb;cases hb)⟩
  obtain⟨fn,c,hf,hb⟩:=hs.body _ _ _ _ _ hc;exact .of_v hf hb (I3 hp.1) (λi a h=>I3 (hp.2 a (V2 h))) hV
 ·cases hrun
theorem aB.of_ok{f:FuncId}{args:List AV}{v:AV}(h:gG Tryz.prog f args v):aB Tryz.prog f args v:=
 ⟨h.2,λH hb hS=>⟨v,H,[],h.1 H,.refl hb hS,rfl,rfl⟩⟩
section
set_option maxRecDepth 100000
theorem Ka(s:bj):aB Tryz.prog 60 [.str s] (.bool (eh s)):=by
 rcases Vt 12 s.length with h|h
 ·have hl:(s.length:Int)<1→False:=by omega
  refine iv _ _ _ ?_;unfold ga;have d1:decide ((s.length:Int)<1)=false:=decide_eq_false W4;have d2:decide ((s.length:Int) > 12)=true:=decide_eq_true W4;have e:eh s=false:=by unfold eh;rw[show decide ((s.length:Int)≤12)=false from decide_eq_false W4];simp
  rw[e]
  repeat' (first|refine st ?_|refine sb λnb_ hnb_=>?_|refine s2 (λh=>?_) λh=>?_|fail)
  all_goals exact⟨rfl,rfl⟩
 ·exact LR s W4
end
end Go.Proofs.YtenbpcngcicamaaGreatDoor.Am
