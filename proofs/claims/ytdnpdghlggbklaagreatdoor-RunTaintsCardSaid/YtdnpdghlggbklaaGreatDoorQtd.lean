/- A part of the proof; the statement is proved in the last part. -/
import Derived.Test.YtdnpdghlggbklaaGreatDoorQtc
set_option linter.unusedSimpArgs false
set_option linter.unusedVariables false
namespace Go.Proofs.YtdnpdghlggbklaaGreatDoor.Am
section
open Go.RowKit
abbrev SH:=List (Nat×Blk)
abbrev SH.names(L:SH):List Nat:=L.map Prod.fst
structure lC(L:SH)(H:ac):Prop where
 nd:L.names.Nodup
 get:∀p∈L,H.get p.1=some p.2
structure Fr(B:Nat)(L:SH)(H:ac)(L':SH)(H':ac):Prop where
 next:H.next≤H'.next
 bd:Bd H'
 sub:lC L' H'
 keep:∀b x,H.get b=some x→b∉L.names→H'.get b=some x∧b∉L'.names
 dom:∀b,b<B→H.get b=none→H'.get b=none
 fresh:∀b,b∈L'.names→b<B→b∈L.names
theorem lC.mem{L:SH}{H:ac}(h:lC L H){b:Nat}(hb:b∈L.names):∃x,(b,x)∈L∧H.get b=some x:=by obtain⟨p,hp,rfl⟩:=YH.1 hb;exact⟨p.2,hp,h.get p hp⟩
theorem lC.congr{L:SH}{H H':ac}(h:lC L H)(hg:∀b,H'.get b=H.get b):lC L H':=⟨h.nd,λp hp=>by rw[hg];exact h.get p hp⟩
theorem Fr.refl{B:Nat}{L:SH}{H:ac}(hb:Bd H)(h:lC L H):Fr B L H L H:=⟨X7 _,hb,h,λ_ _ h1 h2=>⟨h1,h2⟩,λ_ _ h=>h,λ_ h _=>h⟩
theorem Fr.trans{B B':Nat}{L L' L'':SH}{H H' H'':ac}(h:Fr B L H L' H')(k:Fr B' L' H' L'' H'')(hB:B≤B'):Fr B L H L'' H'' where
 next:=Yn h.next k.next
 bd:=k.bd
 sub:=k.sub
 keep:=λb x h1 h2=>by obtain⟨a1,a2⟩:=h.keep b x h1 h2;exact k.keep b x a1 a2
 dom:=λb hb h0=>k.dom b (Yw hb hB) (h.dom b hb h0)
 fresh:=λb h1 h2=>h.fresh b (k.fresh b h1 (Yw h2 hB)) h2
theorem Fr.low{B B':Nat}{L L':SH}{H H':ac}(h:Fr B' L H L' H')(hB:B≤B'):Fr B L H L' H':=
 ⟨h.next,h.bd,h.sub,h.keep,λb hb=>h.dom b (Yw hb hB),λb h1 h2=>h.fresh b h1 (Yw h2 hB)⟩
theorem lC.perm{L L':SH}{H:ac}(h:lC L H)(hp:L.Perm L'):lC L' H:=⟨(hp.map Prod.fst).nodup_iff.1 h.nd,λp hq=>h.get p (hp.mem_iff.2 hq)⟩
theorem lC.left{K R:SH}{H:ac}(h:lC (K++R) H):lC K H:=⟨by have:=h.nd;unfold SH.names at *;rw[Yc]at this;exact(ZF.1 this).1,λp hp=>h.get p (Y1 _ hp)⟩
theorem lC.right{K R:SH}{H:ac}(h:lC (K++R) H):lC R H:=⟨by have:=h.nd;unfold SH.names at *;rw[Yc]at this;exact(ZF.1 this).2.1,λp hp=>h.get p (Yq _ hp)⟩
theorem lC.disj{K R:SH}{H:ac}(h:lC (K++R) H){b:Nat}(h1:b∈K.names)(h2:b∈R.names):False:=by have:=h.nd;unfold SH.names at *;rw[Yc]at this;exact(ZF.1 this).2.2 b h1 b h2 rfl
theorem Fr.frame{B:Nat}{K K' R L:SH}{H H':ac}(h:Fr B K H K' H')(hL:L.Perm (K++R))(hs:lC L H):Fr B L H (K'++R) H':=by
 have hs':=hs.perm hL;have hr:∀p∈R,H'.get p.1=some p.2∧p.1∉K'.names:=λp hp=>
  h.keep p.1 p.2 (hs'.right.get p hp) (λhk=>hs'.disj hk (YJ hp))
 have hn:∀b,b∈L.names↔b∈K.names∨b∈R.names:=λb=>by rw[(hL.map Prod.fst).mem_iff,Yc,Yg]
 refine⟨h.next,h.bd,⟨?_,λp hp=>?_⟩,λb x h1 h2=>?_,h.dom,λb h1 h2=>?_⟩
 ·unfold SH.names;rw[Yc,ZF];refine⟨h.sub.nd,hs'.right.nd,λa ha b hb he=>?_⟩;subst he;obtain⟨p,hp,rfl⟩:=YH.1 hb;exact(hr p hp).2 ha
 ·rcases Yg.1 hp with hp|hp
  ·exact h.sub.get p hp
  ·exact(hr p hp).1
 ·rw[hn]at h2;have h3:b∉K.names:=λhk=>h2 (.inl hk)
  obtain⟨a1,a2⟩:=h.keep b x h1 h3;refine⟨a1,λhk=>?_⟩;unfold SH.names at hk;rw[Yc,Yg]at hk;rcases hk with hk|hk
  ·exact a2 hk
  ·exact h2 (.inr hk)
 ·unfold SH.names at h1;rw[Yc,Yg]at h1;rw[hn];rcases h1 with h1|h1
  ·exact .inl (h.fresh b h1 h2)
  ·exact .inr h1
section
variable {P:Program} {F:TypeId→Option (List TypeId)} {w w':World} {σ σ':bD} {T T':Nat→Prop}
theorem bb.shrink{a:AV}{v:Value}(h:bb w σ T a v)(hT:∀c,T' c→T c):bb w σ T' a v:=by
 induction h with
 |int k n=>exact .int k n
 |bool b=>exact .bool b
 |str s=>exact .str s
 |nilp=>exact .nilp
 |ptr b i off pl h hp=>exact .ptr b i off pl h hp
 |mp b pl h h1 h2=>exact .mp b pl h h1 h2
 |it b pl h h1 h2=>exact .it b pl h h1 h2
 |pptr rows i off b o sz hl h ih=>exact .pptr rows i off b o sz (hl.shrink hT) ih
 |nils=>exact .nils
 |emp a=>exact .emp a
 |sl b i n pl a cap h hp hn hm ha=>exact .sl b i n pl a cap h hp hn hm ha
 |lst0 a cap hm=>exact .lst0 a cap hm
 |lst rows b o sz cap hl hn hm h ih=>exact .lst rows b o sz cap (hl.shrink hT) hn hm ih
 |agg cs vs hl h ih=>exact .agg cs vs hl ih
 |tup cs vs hl h ih=>exact .tup cs vs hl ih
 |fn f cs vs hl h ih=>exact .fn f cs vs hl ih
 |nilf=>exact .nilf
 |junk v=>exact .junk v
theorem Av.shrink{x:Blk}{pl:cv}{cs:Array Value}{e:TypeId}(h:Av w σ T x pl cs e)(hT:∀c,T' c→T c):Av w σ T' x pl cs e:=
 ⟨h.size,h.block,h.even,h.room,λi r j a u h1 h2 h3=>(h.rep i r j a u h1 h2 h3).shrink hT⟩
theorem kM.shrink{x:Blk}{pl:cv}{cs:Array Value}{e:TypeId}(h:kM w σ T x pl cs e)(hT:∀c,T' c→T c):kM w σ T' x pl cs e:=⟨λhp=>(h.1 hp).shrink hT,h.2⟩
theorem aK.less{H H':ac}(h:∀b x,H'.get b=some x→H.get b=some x)(c:Nat)(hc:aK σ H' c):aK σ H c:=by
 rcases hc with hc|⟨b,x,pl,h1,h2,h3⟩
 ·exact .inl hc
 ·exact .inr ⟨b,x,pl,h b x h1,h2,h3⟩
theorem bu.less{H H':ac}(hW:bu w σ H)(h:∀b x,H'.get b=some x→H.get b=some x)(hn:H.next≤H'.next):bu w σ H' where
 named:=λb pl hb=>Yw (hW.named b pl hb) hn
 lt:=hW.lt
 live:=λb x hb=>by obtain⟨pl,cs,e,h1,h2⟩:=hW.live b x (h b x hb);exact⟨pl,cs,e,h1,h2.shrink (aK.less h)⟩
 apart:=λc hc=>⟨(hW.apart c hc).1,λ⟨b,x,pl,h1,h2,h3⟩=>(hW.apart c hc).2 ⟨b,x,pl,h b x h1,h2,h3⟩⟩
 inj:=λb b' x x' pl pl' h1 h2=>hW.inj b b' x x' pl pl' (h b x h1) (h b' x' h2)
 glob:=hW.glob.less (aK.less h)
def VG(τ:List AV)(H:ac)(τ1:List AV)(H1:ac):Prop:=
 H.next≤H1.next∧(∀b x,H1.get b=some x→H.get b=some x)∧∀(w:World) (σ:bD) (a:Act),bu w σ H→cD w σ (aK σ H) τ a→cD w σ (aK σ H1) τ1 a
variable {c c1 c2:Code} {τ τ1 τ2:List AV} {H H1 H2:ac} {e:Ex}
theorem cK.shift(h:cK P c τ H e τ1 H1)(k:VG τ1 H1 τ2 H2):cK P c τ H e τ2 H2:=by refine⟨Yn h.1 k.1,λw σ a hW hτ Q hQ=>h.2 w σ a hW hτ Q λa' w' haf=>hQ a' w' ?_⟩;obtain⟨σ',t,r,e1,m⟩:=haf;exact⟨σ',k.2.2 w' σ' a' r t,r.less k.2.1 k.1,⟨e1.os,e1.tape,e1.output,e1.size,e1.keep,e1.shape,e1.sig,e1.eqfr,e1.frame,λc hc=>e1.own c (aK.less k.2.1 c hc)⟩,m⟩
theorem cK.seq(h:cK P c1 τ H .normal τ1 H1)(k:cK P c2 τ1 H1 e τ2 H2):cK P (.seq c1 c2) τ H e τ2 H2:=by refine⟨Yn h.1 k.1,λw σ a hW hτ Q hQ=>wp_seq (h.2 w σ a hW hτ _ λa' w' haf=>?_)⟩;obtain⟨σ1,t1,r1,e1,m1⟩:=haf;exact k.2 w' σ1 a' r1 t1 Q λa2 w2 haf2=>hQ a2 w2 (haf2.trans e1 m1 h.1)
theorem cK.seq_out(h:cK P c1 τ H e τ1 H1)(he:e≠.normal):cK P (.seq c1 c2) τ H e τ1 H1:=by
 refine⟨h.1,λw σ a hW hτ Q hQ=>wp_seq (h.2 w σ a hW hτ _ λa' w' haf=>?_)⟩;cases e with
 |normal=>exact absurd rfl he
 |exit id=>exact hQ _ _ haf
 |ret=>exact hQ _ _ haf
theorem cK.cond{x:Operand}{t:Bool}(hb:kC τ x=.bool t)(h:cK P (if t then c1 else c2) τ H e τ1 H1):cK P (.cond x c1 c2) τ H e τ1 H1:=by refine⟨h.1,λw σ a hW hτ Q hQ=>wp_cond (t:=t) ?_ (h.2 w σ a hW hτ Q hQ)⟩;have:=hτ.eval hW.glob x;rw[hb]at this;generalize a.eval x=u at this;cases this;rfl
def Ex.leave(id:Nat):Ex→Ex
 |.exit id'=>if id'=id then .normal else .exit id'
 |e=>e
theorem cK.block{id:Nat}(h:cK P c τ H e τ1 H1):cK P (.block id c) τ H (e.leave id) τ1 H1:=by
 refine⟨h.1,λw σ a hW hτ Q hQ=>wp_block (h.2 w σ a hW hτ _ λa' w' haf=>?_)⟩;have:=hQ a' w' haf;cases e with
 |normal=>exact this
 |ret=>exact this
 |exit id'=>
  simp only[Jw,Exit.inBlock];simp only[Ex.leave]at this;by_cases hid:id'=id
  ·simp only[hid,if_true]at this ⊢;exact this
  ·simp only[hid,if_false]at this ⊢;exact this
theorem lB.next{n:Nat}(h:cK P c τ H .normal τ1 H1)(k:lB P n c τ1 H1 e τ2 H2):lB P (n+1) c τ H e τ2 H2:=by
 refine⟨Yn h.1 k.1,λw σ a hW hτ Q hQ=>?_⟩;rw[rounds_succ];refine h.2 w σ a hW hτ _ λa' w' haf=>?_
 obtain⟨σ1,t1,r1,e1,m1⟩:=haf;exact k.2 w' σ1 a' r1 t1 Q λa2 w2 haf2=>hQ a2 w2 (haf2.trans e1 m1 h.1)
theorem lB.out(h:cK P c τ H e τ1 H1)(he:e≠.normal):lB P 1 c τ H e τ1 H1:=by
 refine⟨h.1,λw σ a hW hτ Q hQ=>?_⟩;rw[rounds_succ];refine h.2 w σ a hW hτ _ λa' w' haf=>?_
 cases e with
 |normal=>exact absurd rfl he
 |exit id=>exact hQ _ _ haf
 |ret=>exact hQ _ _ haf
theorem lB.code{n:Nat}(h:lB P n c τ H e τ1 H1):cK P (.loop c) τ H e τ1 H1:=
 ⟨h.1,λw σ a hW hτ Q hQ=>wp_loop_rounds n (h.2 w σ a hW hτ Q hQ)⟩
def cE(P:Program)(c:Code)(τ:List AV)(L:SH)(Q:Ex→List AV→SH→Prop):Prop:=
 ∀H,Bd H→lC L H→∃e τ' H' L',cK P c τ H e τ' H'∧Fr H.next L H L' H'∧Q e τ' L'
def af(P:Program)(f:FuncId)(args:List AV)(L:SH)(Q:AV→SH→Prop):Prop:=
 (∃fn c,P.funcs[f]? =some fn∧fn.body=some c)∧∀H,Bd H→lC L H→∃v H' L',p7 P f args H v H'∧Fr H.next L H L' H'∧Q v L'
variable {L:SH} {Q Q2:Ex→List AV→SH→Prop}
theorem cE.mono(h:cE P c τ L Q)(hq:∀e τ' L',Q e τ' L'→Q2 e τ' L'):cE P c τ L Q2:=λH hb hs=>by obtain⟨e,τ',H',L',h1,h2,h3⟩:=h H hb hs;exact⟨e,τ',H',L',h1,h2,hq _ _ _ h3⟩
theorem af.mono{f:FuncId}{args:List AV}{R R2:AV→SH→Prop}(h:af P f args L R)(hq:∀v L',R v L'→R2 v L'):af P f args L R2:=⟨h.1,λH hb hs=>by
 obtain⟨v,H',L',h1,h2,h3⟩:=h.2 H hb hs;exact⟨v,H',L',h1,h2,hq _ _ h3⟩⟩
theorem af.frame{f:FuncId}{args:List AV}{K R:SH}{R1 R2:AV→SH→Prop}(h:af P f args K R1)(hL:L.Perm (K++R))(hq:∀v K',R1 v K'→R2 v (K'++R)):af P f args L R2:=⟨h.1,λH hb hs=>by
 obtain⟨v,H',K',h1,h2,h3⟩:=h.2 H hb (hs.perm hL).left;exact⟨v,H',K'++R,h1,h2.frame hL hs,hq _ _ h3⟩⟩
theorem cE.stop(e:Ex)(hc:∀H,cK P c τ H e τ H)(h:Q e τ L):cE P c τ L Q:=λH hb hs=>⟨e,τ,H,L,hc H,.refl hb hs,h⟩
theorem cE.skip(h:Q .normal τ L):cE P .skip τ L Q:=.stop .normal (λH=>⟨X7 _,λw σ a hW hτ Q hQ=>wp_skip (hQ _ _ (.refl hW hτ))⟩) h
theorem cE.exit{id:Nat}(h:Q (.exit id) τ L):cE P (.exit id) τ L Q:=.stop (.exit id) (λH=>⟨X7 _,λw σ a hW hτ Q hQ=>wp_exit (hQ _ _ (.refl hW hτ))⟩) h
theorem cE.ret(h:Q .ret τ L):cE P .ret τ L Q:=.stop .ret (λH=>⟨X7 _,λw σ a hW hτ Q hQ=>wp_ret (hQ _ _ (.refl hW hτ))⟩) h
theorem cE.label{l:Nat}(h:Q .normal τ L):cE P (.label l) τ L Q:=.stop .normal (λH=>⟨X7 _,λw σ a hW hτ Q hQ=>wp_label (hQ _ _ (.refl hW hτ))⟩) h
theorem cE.seq(h:cE P c1 τ L λe τ' L'=>match e with|.normal=>cE P c2 τ' L' Q|e=>Q e τ' L'):cE P (.seq c1 c2) τ L Q:=λH hb hs=>by
 obtain⟨e,τ1,H1,L1,h1,h2,h3⟩:=h H hb hs;cases e with
 |normal=>obtain⟨e,τ2,H2,L2,k1,k2,k3⟩:=h3 H1 h2.bd h2.sub;exact⟨e,τ2,H2,L2,h1.seq k1,h2.trans k2 h2.next,k3⟩
 |exit id=>exact⟨_,τ1,H1,L1,h1.seq_out ZM,h2,h3⟩
 |ret=>exact⟨_,τ1,H1,L1,h1.seq_out ZM,h2,h3⟩
theorem cE.cond{x:Operand}{t:Bool}(hb:kC τ x=.bool t)(h:cE P (if t then c1 else c2) τ L Q):cE P (.cond x c1 c2) τ L Q:=λH hB hs=>by obtain⟨e,τ1,H1,L1,h1,h2,h3⟩:=h H hB hs;exact⟨e,τ1,H1,L1,h1.cond hb,h2,h3⟩
theorem cE.block{id:Nat}(h:cE P c τ L λe τ' L'=>Q (e.leave id) τ' L'):cE P (.block id c) τ L Q:=λH hB hs=>by obtain⟨e,τ1,H1,L1,h1,h2,h3⟩:=h H hB hs;exact⟨_,τ1,H1,L1,h1.block,h2,h3⟩
theorem cE.loop(I:Nat→List AV→SH→Prop)(hs:∀n τ L,I n τ L→cE P c τ L λe τ' L'=>match e with|.normal=>∃m,m<n∧I m τ' L'|e=>Q e τ' L')(n:Nat)(h0:I n τ L):cE P (.loop c) τ L Q:=by
 have key:∀n τ L,I n τ L→∀H,Bd H→lC L H→∃k e τ' H' L',lB P k c τ H e τ' H'∧Fr H.next L H L' H'∧Q e τ' L':=by
  intro n
  induction n using Nat.strongRecOn with
  |_ n ih=>
   intro τ L hI H hB hS;obtain⟨e,τ1,H1,L1,h1,h2,h3⟩:=hs n τ L hI H hB hS;cases e with
   |normal=>obtain⟨m,hm,hI1⟩:=h3;obtain⟨k,e,τ2,H2,L2,k1,k2,k3⟩:=ih m hm τ1 L1 hI1 H1 h2.bd h2.sub;exact⟨k+1,e,τ2,H2,L2,.next h1 k1,h2.trans k2 h2.next,k3⟩
   |exit id=>exact⟨1,_,τ1,H1,L1,.out h1 ZM,h2,h3⟩
   |ret=>exact⟨1,_,τ1,H1,L1,.out h1 ZM,h2,h3⟩
 intro H hB hS;obtain⟨k,e,τ',H',L',h1,h2,h3⟩:=key n τ L h0 H hB hS;exact⟨e,τ',H',L',h1.code,h2,h3⟩
def Xx(τ τ1:List AV):Prop:=τ1.length=τ.length∧∀(i:Nat) (x:AV),τ1[i]? =some x→x=.junk∨τ[i]? =some x
theorem Xx.tmps{T:Nat→Prop}{a:Act}(h:Xx τ τ1)(ht:cD w σ T τ a):cD w σ T τ1 a:=by
 refine⟨⟨by rw[h.1];exact ht.1.1,λi x u h1 h2=>?_⟩,ht.2⟩;rcases h.2 i x h1 with rfl|h3
 ·exact .junk _
 ·exact ht.1.2 i x u h3 h2
theorem cE.dim(hd:Xx τ τ1)(h:cE P c τ1 L Q):cE P c τ L Q:=λH hB hs=>by obtain⟨e,τ',H',L',h1,h2,h3⟩:=h H hB hs;exact⟨e,τ',H',L',⟨h1.1,λw σ a hW hτ Q hQ=>h1.2 w σ a hW (hd.tmps hτ) Q hQ⟩,h2,h3⟩
end
end
section
open Go.RowKit
inductive DQ (b:Nat) (x x':Blk):SH→SH→Prop where
 |here (L:SH):DQ b x x' ((b,x)::L) ((b,x')::L)
 |there (p:Nat×Blk) {L L':SH}:DQ b x x' L L'→DQ b x x' (p::L) (p::L')
inductive eP (b:Nat) (x:Blk):SH→SH→Prop where
 |here (L:SH):eP b x ((b,x)::L) L
 |there (p:Nat×Blk) {L L':SH}:eP b x L L'→eP b x (p::L) (p::L')
theorem DQ.mem{b:Nat}{x x':Blk}{L L':SH}(h:DQ b x x' L L'):(b,x)∈L:=by
 induction h with
 |here L=>simp
 |there p h ih=>simp[ih]
theorem DQ.names{b:Nat}{x x':Blk}{L L':SH}(h:DQ b x x' L L'):L'.names=L.names:=by
 induction h with
 |here L=>rfl
 |there p h ih=>simp only[Yb,ih]
theorem DQ.get{b:Nat}{x x':Blk}{L L':SH}(h:DQ b x x' L L')(hn:L.names.Nodup):∀p∈L',p=(b,x')∨(p∈L∧p.1≠b):=by
 induction h with
 |here L=>
  intro p hp;rcases Ya.1 hp with rfl|hp
  ·exact .inl rfl
  ·refine .inr ⟨by simp[hp],λhe=>?_⟩;simp only[Yb,Yj]at hn;exact hn.1 (he▸YJ hp)
 |there q h ih=>
  intro p hp;simp only[Yb,Yj]at hn;rcases Ya.1 hp with rfl|hp
  ·refine .inr ⟨ZM,λhe=>hn.1 ?_⟩;rw[he];exact YJ (f:=Prod.fst) h.mem
  ·rcases ih hn.2 p hp with rfl|⟨h1,h2⟩
   ·exact .inl rfl
   ·exact .inr ⟨by simp[h1],h2⟩
theorem eP.perm{b:Nat}{x:Blk}{L L':SH}(h:eP b x L L'):L.Perm ((b,x)::L'):=by
 induction h with
 |here L=>exact .refl _
 |there p h ih=>exact(ih.cons p).trans (.swap _ _ _)
def TC:SH→Nat→Option Blk
 |[],_=>none
 |(c,x)::L,b=>if c=b then some x else TC L b
def VH:SH→Nat→Blk→SH
 |[],_,_=>[]
 |(c,x)::L,b,y=>if c=b then(c,y)::L else(c,x)::VH L b y
structure po(b:Nat)(L:SH)(H:ac)(L':SH)(H':ac):Prop where
 next:H'.next=H.next
 bd:Bd H'
 sub:lC L' H'
 keep:∀c x,H.get c=some x→c∉L.names→H'.get c=some x∧c∉L'.names
 dom:∀c,c≠b→H.get c=none→H'.get c=none
 fresh:∀c,c∈L'.names→c=b∨c∈L.names
theorem po.refl{b:Nat}{L:SH}{H:ac}(hb:Bd H)(hs:lC L H):po b L H L H:=⟨rfl,hb,hs,λ_ _ h1 h2=>⟨h1,h2⟩,λ_ _ h=>h,λ_ h=>.inr h⟩
theorem lC.not_mem{L:SH}{H:ac}(hs:lC L H){b:Nat}(h:H.get b=none):b∉L.names:=λhb=>by obtain⟨x,_,hx⟩:=hs.mem hb;rw[h]at hx;cases hx
theorem po.new{b:Nat}{L:SH}{H:ac}(hb:Bd H)(hs:lC L H)(hlt:b<H.next)(h0:H.get b=none)(x:Blk):po b L H ((b,x)::L) (H.new b x) where
 next:=rfl
 bd:=λc hc=>by have hc':H.next≤c:=hc;rw[ac.get_new,if_neg ZJ];exact hb c hc'
 sub:=⟨by simp only[Yb,Yj];exact⟨hs.not_mem h0,hs.nd⟩,λp hp=>by
  rcases Ya.1 hp with rfl|hp
  ·rw[ac.get_new,if_pos rfl]
  ·have:=hs.get p hp;rw[ac.get_new,if_neg]
   ·exact this
   ·intro he;rw[←he,h0]at this;cases this⟩
 keep:=λc y h1 h2=>by
  have hne:b≠c:=λhe=>by rw[←he,h0]at h1;cases h1
  refine⟨by rw[ac.get_new,if_neg hne];exact h1,λhm=>?_⟩;simp only[Yb,Ya]at hm;rcases hm with hm|hm
  ·exact hne hm.symm
  ·exact h2 hm
 dom:=λc hc h=>by rw[ac.get_new,if_neg (λe=>hc e.symm)];exact h
 fresh:=λc hc=>by simpa using hc
theorem po.put{b c:Nat}{L L':SH}{H:ac}{x x':Blk}(hb:Bd H)(hs:lC L H)(hu:DQ c x x' L L'):po b L H L' (H.put c (some x')) where
 next:=rfl
 bd:=λd hd=>by have hd':H.next≤d:=hd;have h1:=hs.get _ hu.mem;rw[ac.get_put,if_neg (λe=>by subst e;rw[hb _ hd']at h1;cases h1)];exact hb d hd'
 sub:=⟨by rw[hu.names];exact hs.nd,λp hp=>by
  rcases hu.get hs.nd p hp with rfl|⟨h1,h2⟩
  ·rw[ac.get_put,if_pos rfl]
  ·rw[ac.get_put,if_neg (λe=>h2 e.symm)];exact hs.get p h1⟩
 keep:=λd y h1 h2=>by
  have hne:c≠d:=λe=>h2 (e▸YJ (f:=Prod.fst) hu.mem)
  exact⟨by rw[ac.get_put,if_neg hne];exact h1,by rw[hu.names];exact h2⟩
 dom:=λd _ h=>by
  rw[ac.get_put,if_neg]
  ·exact h
  ·intro e;have h1:=hs.get _ hu.mem;rw[e,h]at h1;cases h1
 fresh:=λd hd=>by rw[hu.names]at hd;exact .inr hd
theorem po.del{b c:Nat}{L L':SH}{H:ac}{x:Blk}(hb:Bd H)(hs:lC L H)(hu:eP c x L L'):po b L H L' (H.put c none):=by
 have hs':lC ((c,x)::L') H:=hs.perm hu.perm;have hn:∀d,d∈L.names↔d=c∨d∈L'.names:=λd=>by rw[(hu.perm.map Prod.fst).mem_iff];simp
 have hnd:=hs'.nd;simp only[Yb,Yj]at hnd;refine⟨rfl,λd hd=>?_,⟨hnd.2,λp hp=>?_⟩,λd y h1 h2=>?_,λd _ h=>?_,λd hd=>.inr ((hn d).2 (.inr hd))⟩
 ·have hd':H.next≤d:=hd;rw[ac.get_put];split
  ·rfl
  ·exact hb d hd'
 ·rw[ac.get_put,if_neg (λ(e:c=p.1)=>hnd.1 (e▸YJ (f:=Prod.fst) hp))];exact hs'.get p (by simp[hp])
 ·rw[hn]at h2;refine⟨by rw[ac.get_put,if_neg (λe=>h2 (.inl e.symm))];exact h1,λh=>h2 (.inr h)⟩
 ·rw[ac.get_put];split
  ·rfl
  ·exact h
theorem po.trans{b:Nat}{L L' L'':SH}{H H' H'':ac}(h:po b L H L' H')(k:po b L' H' L'' H''):po b L H L'' H'' where
 next:=k.next.trans h.next
 bd:=k.bd
 sub:=k.sub
 keep:=λc x h1 h2=>by obtain⟨a1,a2⟩:=h.keep c x h1 h2;exact k.keep c x a1 a2
 dom:=λc hc h0=>k.dom c hc (h.dom c hc h0)
 fresh:=λc hc=>by
  rcases k.fresh c hc with h1|h1
  ·exact .inl h1
  ·exact h.fresh c h1
namespace W0
def rowLd(ag:Bool)(n:Nat)(row:List AV)(off:Nat):Option AV:=
 if ag then(if off+n≤row.length then some (.agg ((row.drop off).take n))else none)else row[off]?
def fillR(cells:List AV):List (Nat×Nat×AV)→Option (List AV)
 |[]=>some cells
 | (off,size,v)::rest=>match v.cells? with
  |some cs=>if cs.length=size∧off+size≤cells.length∧cs.all AV.one then fillR (bK cells off cs) rest else none
  |none=>none
section
variable (P:Program) (F:TypeId→Option (List TypeId))
def opt(x:Option AV)(K:AV→Prop):Prop:=∃v,x=some v∧K v
def pick(c x y:AV)(K:AV→Prop):Prop:=∃t,c=.bool t∧K (if t then x else y)
def un(op:UnOp)(x:AV)(K:AV→Prop):Prop:=opt (Xv op x) K
def bin(op:BinOp)(t:TypeId)(x y:AV)(K:AV→Prop):Prop:=opt (iu P F op t x y) K
def conv(k:IntKind)(x:AV)(K:AV→Prop):Prop:=∃k' n,x=.int k' n∧K (.int k (k.wrap n))
def convS(x:AV)(K:AV→Prop):Prop:=∃s,x=.str s∧K (.str s)
def faddr(off:Nat)(x:AV)(K:AV→Prop):Prop:=match x with
 |.ptr b i o=>K (.ptr b i (o+off))
 |.pptr rows i o=>K (.pptr rows i (o+off))
 |_=>False
def fld(ag:Bool)(n off:Nat)(x:AV)(K:AV→Prop):Prop:=∃cs v,x=.agg cs∧rowLd ag n cs off=some v∧K v
def loadR(ag:Bool)(n:Nat)(a:AV)(L:SH)(K:AV→Prop):Prop:=match a with
 |.ptr b i off=>∃x r v,(b,x)∈L∧x.rows[i]? =some r∧rowLd ag n r off=some v∧K v
 |.pptr rows i off=>∃r v,rows[i]? =some r∧rowLd ag n r off=some v∧K v
 |_=>False
def storeR(n:Nat)(a v:AV)(L:SH)(K:SH→Prop):Prop:=match a with
 |.ptr b i off=>∃x r cs L',x.rows[i]? =some r∧v.cells? =some cs∧cs.length=n∧cs.all AV.one=true∧off+n≤r.length∧DQ b x ⟨x.size,x.rows.set i (bK r off cs)⟩ L L'∧K L'
 |_=>False
def idxR(n:Nat)(x ix:AV)(L:SH)(K:AV→Prop):Prop:=match x with
 |.sl b j m=>∃k i y,ix=.int k i∧0≤i∧i.toNat<m∧(b,y)∈L∧y.size=n∧K (.ptr b (j+i.toNat) 0)
 |.lst rows=>∃k i r,ix=.int k i∧0≤i∧rows[i.toNat]? =some r∧r.length=n∧K (.pptr rows i.toNat 0)
 |_=>False
def idxP(len n:Nat)(x ix:AV)(K:AV→Prop):Prop:=∃k i,ix=.int k i∧0≤i∧i.toNat<len∧(match x with
 |.ptr b j off=>K (.ptr b j (off+i.toNat*n))
 |.pptr rows j off=>K (.pptr rows j (off+i.toNat*n))
 |_=>False)
def ixS(x ix:AV)(K:AV→Prop):Prop:=∃s k i b,x=.str s∧ix=.int k i∧0≤i∧s[i.toNat]? =some b∧K (.int .u8 b.toNat)
def ixA(ag:Bool)(len n:Nat)(x ix:AV)(K:AV→Prop):Prop:=∃cs k i v,x=.agg cs∧ix=.int k i∧0≤i∧i.toNat<len∧rowLd ag n cs (i.toNat*n)=some v∧K v
def ext(i:Nat)(x:AV)(K:AV→Prop):Prop:=∃vs v,x=.tup vs∧vs[i]? =some v∧K v
def nilchk(x:AV)(K:AV→Prop):Prop:=match x with
 |.ptr b i off=>K (.ptr b i off)
 |.pptr rows i off=>K (.pptr rows i off)
 |.fn f cs=>K (.fn f cs)
 |_=>False
def build(z:List AV)(parts:List (Nat×Nat×AV))(K:AV→Prop):Prop:=∃cs,fillR z parts=some cs∧K (.agg cs)
def alloc(cs:List AV)(L:SH)(K:AV→SH→Prop):Prop:=∀b,b∉L.names→K (.ptr b 0 0) ((b,⟨cs.length,[cs]⟩)::L)
def box(x:AV)(L:SH)(K:AV→SH→Prop):Prop:=∃cs,x.cells? =some cs∧cs.all AV.one=true∧∀b,b∉L.names→K (.ptr b 0 0) ((b,⟨cs.length,[cs]⟩)::L)
def bslice(n:Nat)(z:List AV)(len:Nat)(parts:List (Nat×AV))(L:SH)(K:AV→SH→Prop):Prop:=
 len*n≤2^24∧∃rows,eb n (List.replicate len z) parts=some rows∧∀b,b∉L.names→K (.sl b 0 len) ((b,⟨n,rows⟩)::L)
def mslice(n by_:Nat)(z:List AV)(l c:AV)(L:SH)(K:AV→SH→Prop):Prop:=
 ∃(k k':IntKind) (i j:Nat),l=.int k i∧c=.int k' j∧i≤j∧j≤2^62∧j*by_≤2^48∧∀b,b∉L.names→K (.sl b 0 i) ((b,⟨n,List.replicate i z⟩)::L)
def rowsR(L:SH)(n:Nat)(s:AV)(rows:List (List AV)):Prop:=match s with
 |.nils=>rows=[]
 |.emp=>rows=[]
 |.lst l=>rows=l∧∀r,l.head? =some r→r.length=n
 |.sl b i k=>∃x,(b,x)∈L∧x.size=n∧i+k≤x.rows.length∧rows=(x.rows.drop i).take k
 |_=>False
def appendR(n by_:Nat)(s x:AV)(L:SH)(K:AV→SH→Prop):Prop:=
 ∃l m,rowsR L n s l∧rowsR L n x m∧2*(l.length+m.length)*by_≤2^48∧2*(l.length+m.length)≤2^62∧(m.all λr=>r.all AV.one)=true∧
 (match s with
  |.nils=>(m.length=0→K .nils L)∧(m.length≠0→∀b,b∉L.names→K (.sl b 0 m.length) ((b,⟨n,m⟩)::L))
  |.emp=>(m.length=0→K .emp L)∧(m.length≠0→∀b,b∉L.names→K (.sl b 0 m.length) ((b,⟨n,m⟩)::L))
  |.sl b' _ _=>∃y L',eP b' y L L'∧∀b,b∉L.names→K (.sl b 0 (l.length+m.length)) ((b,⟨n,l++m⟩)::L')
  |_=>False)
def len(x:AV)(K:AV→Prop):Prop:=∃n:Nat,Lg x=some n∧K (.int .i64 (n:Int))
def lenS(x:AV)(K:AV→Prop):Prop:=∃s,x=.str s∧K (.int .i64 (s.length:Int))
def mnx(mx:Bool)(x y:AV)(K:AV→Prop):Prop:=∃k a c,x=.int k a∧y=.int k c∧K (.int k (if mx then(if c > a then c else a)else(if c<a then c else a)))
def sliceR(n:Nat)(x:AV)(lo hi mx:Option AV)(L:SH)(K:AV→Prop):Prop:=
 ∃len l h m,Lg x=some len∧cI lo 0=some l∧cI hi len=some h∧cI mx len=some m∧l≤h∧h≤m∧m≤len∧
 (match x with
  |.nils=>K .nils
  |.sl b i _=>(∃y,(b,y)∈L∧y.size=n)∧K (.sl b (i+l) (h-l))
  |.lst rows=>(mx.isSome=false∧∀r,rows.head? =some r→r.length=n)∧K (.lst ((rows.drop l).take (h-l)))
  |_=>False)
def sliceS(x:AV)(lo hi:Option AV)(K:AV→Prop):Prop:=
 ∃s l h,x=.str s∧cI lo 0=some l∧cI hi s.length=some h∧l≤h∧h≤s.length∧K (.str ((s.drop l).take (h-l)))
def store(n:Nat)(a v:AV)(L:SH)(K:SH→Prop):Prop:=match a with
 | .ptr b i off=>(match TC L b with
  | some x=>(match x.rows[i]?,v.cells? with
   |some r,some cs=>(cs.length=n∧cs.all AV.one=true∧off+n≤r.length)∧K (VH L b ⟨x.size,x.rows.set i (bK r off cs)⟩)
   |_,_=>False)
  |none=>False)
 |_=>False
def slice(n:Nat)(x:AV)(lo hi mx:Option AV)(L:SH)(K:AV→Prop):Prop:=match Lg x with
 | some len=>(match cI lo 0,cI hi len,cI mx len with
  | some l,some h,some m=>(l≤h∧h≤m∧m≤len)∧(match x with
   |.nils=>K .nils
   | .sl b i _=>(match TC L b with
    |some y=>y.size=n∧K (.sl b (i+l) (h-l))
    |none=>False)
   |.lst rows=>(mx.isSome=false∧∀r,rows.head? =some r→r.length=n)∧K (.lst ((rows.drop l).take (h-l)))
   |_=>False)
  |_,_,_=>False)
 |none=>False
def clearR(n:Nat)(z:List AV)(x:AV)(L:SH)(K:SH→Prop):Prop:=match x with
 |.nils=>K L
 |.sl b i k=>∃y L',y.size=n∧i+k≤y.rows.length∧DQ b y ⟨y.size,y.rows.take i++List.replicate k z++y.rows.drop (i+k)⟩ L L'∧K L'
 |_=>False
def mkmap(L:SH)(K:AV→SH→Prop):Prop:=∀b,b∉L.names→K (.mp b) ((b,⟨0,[]⟩)::L)
def found(z:AV)(ok:Bool)(r:Option (Nat×AV)):AV:=match r with
 |some (_,v)=>if ok then .tup [v,.bool true]else v
 |none=>if ok then .tup [z,.bool false]else z
def lookR(z:AV)(ok:Bool)(m k:AV)(L:SH)(K:AV→Prop):Prop:=match m,k with
 |.mp b,.str s=>∃x,(b,x)∈L∧x.rows.all xz=true∧K (found z ok (gN s x.rows 0))
 |_,_=>False
def putR(s:List UInt8)(v:AV)(rows:List (List AV)):List (List AV):=match gN s rows 0 with
 |some (i,_)=>rows.set i [.str s,v]
 |none=>rows++[[.str s,v]]
def mupR(m k v:AV)(L:SH)(K:SH→Prop):Prop:=match m,k with
 |.mp b,.str s=>∃x L',x.rows.all xz=true∧v.konst=true∧DQ b x ⟨x.size,putR s v x.rows⟩ L L'∧K L'
 |_,_=>False
def rngS(x:AV)(L:SH)(K:AV→SH→Prop):Prop:=∃s,x=.str s∧∀b,b∉L.names→K (.it b) ((b,⟨0,[[.str s,.int .i64 0]]⟩)::L)
def nextR(it:AV)(L:SH)(K:AV→SH→Prop):Prop:=match it with
  | .it b => ∃ x s k pos, (b, x) ∈ L ∧ x.rows = [[.str s, .int k pos]]∧
      (if pos<s.length then∃L',DQ b x ⟨x.size,[[.str s,.int .i64 ((pos.toNat+(Utf8.decode ⟨s.toArray⟩ pos.toNat).2:Nat):Int)]]⟩ L L'∧K (.tup [.bool true,.int .i64 pos,.int .i32 (Utf8.decode ⟨s.toArray⟩ pos.toNat).1]) L'
       else K (.tup [.bool false]) L)
  |_=>False
def zof(t:TypeId):Option (List AV):=(ez P t).bind AV.cells?
def op(o:Op)(ρ:Operand→AV)(L:SH)(K:AV→SH→Prop):Prop:=
 let k:=λv=>K v L
 match o with
 |.move x|.assign x=>K (ρ x) L
 |.pick c x y=>pick (ρ c) (ρ x) (ρ y) k
 | .alloc t=>match zof P t with
  |some cs=>alloc cs L K
  |none=>False
 |.box _ x=>box (ρ x) L K
 | .build t parts=>match P.underlying t,ez P t with
  | some (.struct fs),some (.agg z)=>if(fs.toList.all λf=>(aV P f.type).isSome)=true then
    (match cu (parts.toList.map λp=>(nv P fs p.1).map λq=>(q.1,q.2,ρ p.2))with
     |some ps=>build z ps k
     |none=>False)
   else False
  | some (.array _ e),some (.agg z)=>(match aV P e with
   |some n=>build z (parts.toList.map λp=>(p.1*n,n,ρ p.2)) k
   |none=>False)
  |_,_=>False
 | .buildSlice t len parts=>match P.underlying t with
  | some (.slice e)=>match aV P e,zof P e with
   |some n,some z=>if z.length=n∧0<n then bslice n z len (parts.toList.map λp=>(p.1,ρ p.2)) L K else False
   |_,_=>False
  |_=>False
 | .load t a=>match fm P t,aV P t with
  |some ag,some n=>loadR ag n (ρ a) L k
  |_,_=>False
 | .store t a x=>match aV P t with
  |some n=>storeR n (ρ a) (ρ x) L (K (.tup []))
  |none=>False
 |.nilCheck x=>nilchk (ρ x) k
 |.binOp op t x y _=>bin P F op t (ρ x) (ρ y) k
 |.unOp op _ x=>un op (ρ x) k
 | .convert s d x=>match P.underlying s,P.underlying d with
  |some (.int _),some (.int kd)=>conv kd (ρ x) k
  |some .string,some .string=>convS (ρ x) k
  |_,_=>False
 |.makeFunc (.func f) first cap=>if first.size=0 then K (.fn f (cap.toList.map ρ)) L else False
 | .makeSlice t l c=>match P.underlying t with
  | some (.slice e)=>match aV P e,jw P e,zof P e with
   |some n,some by_,some z=>if z.length=n∧0<n then mslice n by_ z (ρ l) (ρ c) L K else False
   |_,_,_=>False
  |_=>False
 | .slice t x lo hi mx=>if(hi.isNone&&mx.isSome)=true then False else match P.underlying t with
  | some (.slice e)=>(match aV P e with
   |some n=>sliceR n (ρ x) (lo.map ρ) (hi.map ρ) (mx.map ρ) L k
   |none=>False)
  |some .string=>if mx.isNone=true then sliceS (ρ x) (lo.map ρ) (hi.map ρ) k else False
  |_=>False
 | .fieldAddr s x f=>match P.underlying s with
  | some (.struct fs)=>match fs[f]? with
   | some f=>(match aV P f.type with
    |some n=>if n=0 then False else faddr f.offset (ρ x) k
    |none=>False)
   |none=>False
  |_=>False
 | .field s x f=>match P.underlying s with
  | some (.struct fs)=>match fs[f]? with
   | some f=>(match fm P f.type,aV P f.type with
    |some ag,some n=>fld ag n f.offset (ρ x) k
    |_,_=>False)
   |none=>False
  |_=>False
 | .indexAddr t x ix=>match P.underlying t with
  | some (.slice e)=>(match aV P e with
   |some n=>idxR n (ρ x) (ρ ix) L k
   |none=>False)
  | some (.array len e)=>(match aV P e with
   |some n=>idxP len n (ρ x) (ρ ix) k
   |none=>False)
  |_=>False
 | .index t x ix=>match P.underlying t with
  |some .string=>ixS (ρ x) (ρ ix) k
  | some (.array len e)=>(match fm P e,aV P e with
   |some ag,some n=>ixA ag len n (ρ x) (ρ ix) k
   |_,_=>False)
  |_=>False
 |.extract x i=>ext i (ρ x) k
 |.makeMap _ none=>mkmap L K
 | .lookup t m y ok=>match P.underlying t with
  | some (.map kt et)=>(match P.underlying kt,ez P et with
   |some .string,some z=>lookR z ok (ρ m) (ρ y) L k
   |_,_=>False)
  |_=>False
 | .mapUpdate t m y x=>match P.underlying t with
  | some (.map kt _)=>(match P.underlying kt with
   |some .string=>mupR (ρ m) (ρ y) (ρ x) L (K (.tup []))
   |_=>False)
  |_=>False
 | .range t x=>match P.underlying t with
  |some .string=>rngS (ρ x) L K
  |_=>False
 |.next it true=>nextR (ρ it) L K
 | .call c=>match c.callee with
  | .builtin .len=>(match c.args.toList,(c.argTypes[0]?).bind P.underlying with
   |[x],some (.slice _)=>len (ρ x) k
   |[x],some .string=>lenS (ρ x) k
   |[x],some (.array n _)=>(match ρ x with|.str _=>False|_=>K (.int .i64 n) L)
   |_,_=>False)
  | .builtin .append=>(match c.args.toList,c.argTypes.toList with
   | [s,x],[t,tx]=>(match P.underlying t,P.underlying tx with
    | some (.slice e),some (.slice _)=>(match aV P e,jw P e,zof P e with
     |some n,some by_,some z=>if z.length=n∧0<n then appendR n by_ (ρ s) (ρ x) L K else False
     |_,_,_=>False)
    |_,_=>False)
   |_,_=>False)
  | .builtin .min=>(match c.args.toList with
   |[x,y]=>mnx false (ρ x) (ρ y) k
   |_=>False)
  | .builtin .max=>(match c.args.toList with
   |[x,y]=>mnx true (ρ x) (ρ y) k
   |_=>False)
  | .builtin .clear=>(match c.args.toList,c.argTypes.toList with
   | [x],[t]=>(match P.underlying t with
    | some (.slice e)=>(match aV P e,zof P e with
     |some n,some z=>if(z.length=n∧0<n)∧z.all AV.one=true then clearR n z (ρ x) L (K (.tup []))else False
     |_,_=>False)
    |_=>False)
   |_,_=>False)
  | .value f=>(match ρ f with
   |.fn g cs=>af P g (c.args.toList.map ρ++cs) L K
   |_=>False)
  |_=>False
 |_=>False
end
end W0
end
section
open Go.RowKit
section
variable {P:Program} {F:TypeId→Option (List TypeId)} {ρ:Operand→AV} {L:SH} {K:AV→SH→Prop} {b:Nat} {H:ac}
theorem xN{t:TypeId}{ag:Bool}{n off:Nat}{row:List AV}{v:AV}(h1:fm P t=some ag)(h2:aV P t=some n)(h:W0.rowLd ag n row off=some v):iq P t row off=some v:=by
 unfold iq;rw[h1,h2];cases ag with
 |true=>simpa[W0.rowLd]using h
 |false=>simpa[W0.rowLd]using h
theorem Ei{place:Nat→Option (Nat×Nat)}:∀(parts:List (Nat×AV)) (ps:List (Nat×Nat×AV)) (z cs:List AV),cu (parts.map λp=>(place p.1).map λq=>(q.1,q.2,p.2))=some ps→W0.fillR z ps=some cs→xx place z parts=some cs
 |[],ps,z,cs,h1,h2=>by cases h1;exact h2
 | (i,v)::parts,ps,z,cs,h1,h2=>by
  simp only[Yb]at h1;cases hp:place i with
  |none=>rw[hp]at h1;cases h1
  |some q=>
   rw[hp]at h1;simp only[Yz,cu]at h1;split at h1
   ·rename_i l hl;cases h1;simp only[W0.fillR]at h2;simp only[xx,hp];split at h2
    ·rename_i cs' hc;rw[hc];simp only[];split at h2
     ·rename_i hcond;rw[if_pos hcond];exact Ei parts l _ cs hl h2
     ·cases h2
    ·cases h2
   ·cases h1
theorem xO{α β:Type}(f:α→β):∀l:List α,cu (l.map λx=>some (f x))=some (l.map f)
 |[]=>rfl
 |x::l=>by simp only[Yb,cu,xO f l]
theorem JK{n:Nat}{s:AV}{rows:List (List AV)}(hs:lC L H)(h:W0.rowsR L n s rows):fM H n s=some rows:=by
 unfold W0.rowsR at h;split at h
 ·subst h;rfl
 ·subst h;rfl
 ·rename_i l;obtain⟨hl,h1⟩:=h;subst hl;cases rows with
  |nil=>rfl
  |cons r l=>simp[fM,h1 r rfl]
 ·obtain⟨x,h1,h2,h3,rfl⟩:=h;simp[fM,hs.get _ h1,h2,h3]
 ·exact h.elim
def W0.makes:Op→Bool
 |.alloc ..|.box ..|.buildSlice ..|.makeSlice ..|.makeMap ..|.range ..=>true
 | .call c=>match c.callee with
  |.builtin .append=>true
  |_=>false
 |_=>false
def OU(P:Program)(F:TypeId→Option (List TypeId))(o:Op)(ρ:Operand→AV)(b:Nat)(L:SH)(H:ac)(K:AV→SH→Prop):Prop:=
 (∃v H' L',aM P F o ρ b H=some (.val v H')∧po b L H L' H'∧(b∈L'.names→W0.makes o=true∧b∈aa v)∧K v L')∨∃g args,aM P F o ρ b H=some (.call g args)∧af P g args L K
theorem NF{o:Op}{v:AV}(hb:Bd H)(hs:lC L H)(h0:H.get b=none)(h:aM P F o ρ b H=some (.val v H))(hk:K v L):OU P F o ρ b L H K:=.inl ⟨v,H,L,h,.refl hb hs,λhm=>absurd hm (hs.not_mem h0),hk⟩
theorem iy{o:Op}{v:AV}{x:Blk}(hb:Bd H)(hs:lC L H)(hlt:b<H.next)(h0:H.get b=none)(hv:W0.makes o=true∧b∈aa v)(h:aM P F o ρ b H=some (.val v (H.new b x)))(hk:K v ((b,x)::L)):OU P F o ρ b L H K:=.inl ⟨v,_,_,h,.new hb hs hlt h0 x,λ_=>hv,hk⟩
theorem MG{t:TypeId}{ag:Bool}{n:Nat}{a:AV}{k:AV→Prop}(hs:lC L H)(h1:fm P t=some ag)(h2:aV P t=some n)(h:W0.loadR ag n a L k):∃v,oA P H t a=some v∧k v:=by
 unfold W0.loadR at h;split at h
 ·obtain⟨x,r,v,g1,g2,g3,g4⟩:=h;exact⟨v,by simp[oA,hs.get _ g1,g2,xN h1 h2 g3],g4⟩
 ·obtain⟨r,v,g2,g3,g4⟩:=h;exact⟨v,by simp[oA,g2,xN h1 h2 g3],g4⟩
 ·exact h.elim
theorem H3{o:Op}(hb:Bd H)(hs:lC L H)(hlt:b<H.next)(h0:H.get b=none)(h:W0.op P F o ρ L K):OU P F o ρ b L H K:=by
 have hnb:=hs.not_mem h0;have goes_val:∀{o:Op} {v:AV} (_:Bd H) (_:lC L H) (_:aM P F o ρ b H=some (.val v H)) (_:K v L),OU P F o ρ b L H K:=λhb hs h hk=>NF hb hs h0 h hk
 cases o with
 |move x=>exact goes_val hb hs rfl h
 |assign x=>exact goes_val hb hs rfl h
 |pick c x y=>obtain⟨t,h1,h2⟩:=h;exact goes_val hb hs (by simp[aM,h1]) h2
 |alloc t=>
  simp only[W0.op,W0.zof]at h;split at h
  ·rename_i cs hc;exact iy hb hs hlt h0 ⟨rfl,by simp[aa]⟩ (by simp only[aM,hc]) (h b hnb)
  ·exact h.elim
 |box t x=>obtain⟨cs,h1,h2,h3⟩:=h;exact iy hb hs hlt h0 ⟨rfl,by simp[aa]⟩ (by simp only[aM,h1,h2,if_true]) (h3 b hnb)
 |build t parts=>
  simp only[W0.op]at h;split at h
  ·rename_i fs z hu hz;split at h
   ·rename_i hall;split at h
    ·rename_i ps hps;obtain⟨cs,h1,h2⟩:=h;refine goes_val hb hs ?_ h2;have:=Ei (place:=nv P fs) (parts.toList.map λp=>(p.1,ρ p.2)) ps z cs (by rw[List.map_map];exact hps) h1;simp only[aM,D2,hu,hz];rw[if_pos hall,this];rfl
    ·exact h.elim
   ·exact h.elim
  ·rename_i len e z hu hz;split at h
   ·rename_i n hn;obtain⟨cs,h1,h2⟩:=h;refine goes_val hb hs ?_ h2;have:=Ei (place:=λi=>some (i*n,n)) (parts.toList.map λp=>(p.1,ρ p.2)) (parts.toList.map λp=>(p.1*n,n,ρ p.2)) z cs (by
     rw[List.map_map];exact xO (λp:Nat×Operand=>(p.1*n,n,ρ p.2)) parts.toList) h1
    simp only[aM,D2,hu,hz,hn,YW,this];rfl
   ·exact h.elim
  ·exact h.elim
 |buildSlice t len parts=>
  simp only[W0.op,W0.zof]at h;split at h
  ·rename_i e hu;split at h
   ·rename_i n z hn hz;split at h
    ·rename_i hc;obtain⟨h1,rows,h2,h3⟩:=h;exact iy hb hs hlt h0 ⟨rfl,by simp[aa]⟩ (by simp only[aM,hu,hn,hz];rw[if_pos ⟨hc.1,hc.2,h1⟩,h2];rfl) (h3 b hnb)
    ·exact h.elim
   ·exact h.elim
  ·exact h.elim
 |load t a=>
  simp only[W0.op]at h;split at h
  ·rename_i ag n hag hn;obtain⟨v,g1,g2⟩:=MG hs hag hn h;exact goes_val hb hs (by simp[aM,g1]) g2
  ·exact h.elim
 |store t a x=>
  simp only[W0.op]at h;split at h
  ·rename_i n hn;unfold W0.storeR at h;split at h
   ·rename_i c i off ha;obtain⟨y,r,cs,L',g1,g2,g3,g4,g5,g6,g7⟩:=h;have hg:=hs.get _ g6.mem;simp only at hg;refine .inl ⟨_,_,L',?_,.put hb hs g6,λhm=>absurd (g6.names▸hm) hnb,g7⟩;simp only[aM,gl,ha,g2,hn,hg,g1];rw[if_pos ⟨g3,g4,g5⟩];rfl
   ·exact h.elim
  ·exact h.elim
 |nilCheck x=>
  simp only[W0.op,W0.nilchk]at h;split at h
  ·rename_i hx;exact goes_val hb hs (by simp[aM,hx]) h
  ·rename_i hx;exact goes_val hb hs (by simp[aM,hx]) h
  ·rename_i hx;exact goes_val hb hs (by simp[aM,hx]) h
  ·exact h.elim
 |binOp op t x y c=>obtain⟨v,h1,h2⟩:=h;exact goes_val hb hs (by simp[aM,h1]) h2
 |unOp op t x=>obtain⟨v,h1,h2⟩:=h;exact goes_val hb hs (by simp[aM,h1]) h2
 |convert s d x=>
  simp only[W0.op]at h;split at h
  ·rename_i h1 h2;obtain⟨k',n,h3,h4⟩:=h;exact goes_val hb hs (by simp[aM,Jg,h1,h2,h3]) h4
  ·rename_i h1 h2;obtain⟨s,h3,h4⟩:=h;exact goes_val hb hs (by simp[aM,Jg,h1,h2,h3]) h4
  ·exact h.elim
 |makeFunc fn first cap=>
  cases fn with
  |func f=>
   simp only[W0.op]at h;split at h
   ·rename_i h1;exact goes_val hb hs (by simp only[aM];rw[if_pos h1]) h
   ·exact h.elim
  |_=>exact h.elim
 |makeSlice t l c=>
  simp only[W0.op,W0.zof]at h;split at h
  ·rename_i e hu;split at h
   ·rename_i n by_ z hn hby hz;split at h
    ·rename_i hc;obtain⟨k,k',i,j,h1,h2,h3,h4,h5,h6⟩:=h;refine iy hb hs hlt h0 ⟨rfl,by simp[aa]⟩ ?_ (h6 b hnb);simp only[aM,hu,hn,hby,hz,h1,h2,oC];simp only[Int.natCast_nonneg,if_true,Y7];rw[if_pos ⟨hc.1,hc.2,h3,h4,h5⟩]
    ·exact h.elim
   ·exact h.elim
  ·exact h.elim
 |slice t x lo hi mx=>
  simp only[W0.op]at h;split at h
  ·exact h.elim
  ·rename_i hhm;split at h
   ·rename_i e hu;split at h
    ·rename_i n hn;obtain⟨len,l,hh,m,g1,g2,g3,g4,g5,g6,g7,g8⟩:=h;have key:∀v,lz P (nw H (ρ x)) t (ρ x) (lo.map ρ) (hi.map ρ) (mx.map ρ)=some v→K v L→OU P F (.slice t x lo hi mx) ρ b L H K:=λv hv hk=>
      goes_val hb hs (by simp only[aM];rw[if_neg hhm,hv];rfl) hk
     split at g8
     ·rename_i hx;refine key _ ?_ g8;rw[hx]at g1;simp only[lz,hu,hx,g1,g2,g3,g4];rw[if_pos ⟨⟨g5,g6,g7⟩,by rw[hn];rfl⟩]
     ·rename_i c i q hx;obtain⟨⟨y,k1,k2⟩,k3⟩:=g8;refine key _ ?_ k3;have hg:=hs.get _ k1;simp only at hg;rw[hx]at g1;simp only[lz,hu,hx,g1,g2,g3,g4];rw[if_pos ⟨⟨g5,g6,g7⟩,by rw[hn];rfl⟩];simp only[nw,hg,Yz,k2];rw[if_pos ⟨rfl,hn⟩]
     ·rename_i rows hx;obtain⟨⟨k0,k2⟩,k3⟩:=g8;refine key _ ?_ k3;rw[hx]at g1;simp only[lz,hu,hx,g1,g2,g3,g4];rw[if_pos ⟨⟨g5,g6,g7⟩,by rw[hn];rfl⟩,if_neg (by rw[k0];simp)];cases rows with
      |nil=>simp
      |cons r rs=>simp only[hn,k2 r rfl,if_true]
     ·exact g8.elim
    ·exact h.elim
   ·rename_i hu;split at h
    ·rename_i hmx;obtain⟨s,l,hh,g1,g2,g3,g4,g5,g6⟩:=h;refine goes_val hb hs ?_ g6;have:mx=none:=by simpa using hmx
     subst this;simp only[aM];rw[if_neg hhm];simp only[lz,hu,g1,Option.map_none];rw[show cI (Option.map ρ lo) 0=some l from g2,show cI (Option.map ρ hi) s.length=some hh from g3];simp[g4,g5]
    ·exact h.elim
   ·exact h.elim
 |fieldAddr s x f=>
  simp only[W0.op]at h;split at h
  ·rename_i fs hu;split at h
   ·rename_i fl hf;split at h
    ·rename_i n hn;split at h
     ·exact h.elim
     ·rename_i hn0;unfold W0.faddr at h;split at h
      ·rename_i hx;exact goes_val hb hs (by simp[aM,jx,hu,hf,hn,hn0,hx]) h
      ·rename_i hx;exact goes_val hb hs (by simp[aM,jx,hu,hf,hn,hn0,hx]) h
      ·exact h.elim
    ·exact h.elim
   ·exact h.elim
  ·exact h.elim
 |field s x f=>
  simp only[W0.op]at h;split at h
  ·rename_i fs hu;split at h
   ·rename_i fl hf;split at h
    ·rename_i ag n hag hn;obtain⟨cs,v,g1,g2,g3⟩:=h;exact goes_val hb hs (by simp[aM,HQ,hu,hf,g1,xN hag hn g2]) g3
    ·exact h.elim
   ·exact h.elim
  ·exact h.elim
 |indexAddr t x ix=>
  simp only[W0.op]at h;split at h
  ·rename_i e hu;split at h
   ·rename_i n hn;unfold W0.idxR at h;split at h
    ·rename_i c j m hx;obtain⟨k,i,y,g1,g2,g3,g4,g5,g6⟩:=h;have hg:=hs.get _ g4;simp only at hg;refine goes_val hb hs ?_ g6;have hneg:¬i<0:=by omega
     simp[aM,dS,hx,g1,hneg,hu,nw,hg,g3,g5,hn]
    ·rename_i rows hx;obtain⟨k,i,r,g1,g2,g3,g4,g5⟩:=h;refine goes_val hb hs ?_ g5;have hneg:¬i<0:=by omega
     simp[aM,dS,hx,g1,hneg,hu,g3,g4,hn]
    ·exact h.elim
   ·exact h.elim
  ·rename_i len e hu;split at h
   ·rename_i n hn;obtain⟨k,i,g1,g2,g3,g4⟩:=h;have hneg:¬i<0:=by omega
    split at g4
    ·rename_i hx;exact goes_val hb hs (by simp[aM,dS,hx,g1,hneg,hu,g3,hn]) g4
    ·rename_i hx;exact goes_val hb hs (by simp[aM,dS,hx,g1,hneg,hu,g3,hn]) g4
    ·exact g4.elim
   ·exact h.elim
  ·exact h.elim
 |index t x ix=>
  simp only[W0.op]at h;split at h
  ·rename_i hu;obtain⟨s,k,i,y,g1,g2,g3,g4,g5⟩:=h;have hneg:¬i<0:=by omega
   exact goes_val hb hs (by simp[aM,D3,hu,g1,g2,hneg,g4]) g5
  ·rename_i len e hu;split at h
   ·rename_i ag n hag hn;obtain⟨cs,k,i,v,g1,g2,g3,g4,g5,g6⟩:=h;refine goes_val hb hs ?_ g6;simp only[aM,D3,hu,g1,g2];rw[if_pos ⟨g3,g4⟩,hn];simp only[YW,xN hag hn g5];rfl
   ·exact h.elim
  ·exact h.elim
 |extract x i=>obtain⟨vs,v,g1,g2,g3⟩:=h;exact goes_val hb hs (by simp[aM,g1,g2]) g3
 |call c=>
  simp only[W0.op]at h;split at h
  ·rename_i hc;split at h
   ·rename_i x e ha ht;obtain⟨n,g1,g2⟩:=h;refine goes_val hb hs ?_ g2;cases hx:ρ x<;>rw[hx]at g1<;>first|(cases g1;done)|simp[aM,hc,ha,aX,hx,ht,g1]
   ·rename_i x ha ht;obtain⟨s,g1,g2⟩:=h;exact goes_val hb hs (by simp[aM,hc,ha,aX,g1,ht]) g2
   ·rename_i x n e ha ht;split at h
    ·exact h.elim
    ·rename_i hne;refine goes_val hb hs ?_ h;cases hx:ρ x<;>first|(exact absurd hx (hne _))|simp[aM,hc,ha,aX,hx,ht]
   ·exact h.elim
  ·rename_i hc;split at h
   ·rename_i s x t tx ha ht;split at h
    ·rename_i e e' hu hux;split at h
     ·rename_i n by_ z hn hby hz;split at h
      ·rename_i hcn;obtain⟨l,m,g1,g2,g3,g4,g5,g6⟩:=h;have r1:=JK hs g1;have r2:=JK hs g2;have key:∀v H',cS P H b t (ρ s) (ρ x)=some (v,H')→aM P F (.call c) ρ b H=some (.val v H'):=λv H' hv=>by simp only[aM,hc,ha,Yb,YT,aX,ht,hux,hv];rfl
       have hz':(ez P e).bind AV.cells? =some z:=hz;split at g6
       ·rename_i hx;by_cases hm:m.length=0
        ·exact goes_val hb hs (key _ _ (by rw[hx]at r1 ⊢;simp only[cS,hu,hn,hby,hz',r1,r2];rw[if_pos ⟨g3,g4,hcn.2,hcn.1,g5⟩,if_pos hm])) (g6.1 hm)
        ·exact iy hb hs hlt h0 ⟨by simp[W0.makes,hc],by simp[aa]⟩ (key _ _ (by rw[hx]at r1 ⊢;simp only[cS,hu,hn,hby,hz',r1,r2];rw[if_pos ⟨g3,g4,hcn.2,hcn.1,g5⟩,if_neg hm])) (g6.2 hm b hnb)
       ·rename_i hx;by_cases hm:m.length=0
        ·exact goes_val hb hs (key _ _ (by rw[hx]at r1 ⊢;simp only[cS,hu,hn,hby,hz',r1,r2];rw[if_pos ⟨g3,g4,hcn.2,hcn.1,g5⟩,if_pos hm])) (g6.1 hm)
        ·exact iy hb hs hlt h0 ⟨by simp[W0.makes,hc],by simp[aa]⟩ (key _ _ (by rw[hx]at r1 ⊢;simp only[cS,hu,hn,hby,hz',r1,r2];rw[if_pos ⟨g3,g4,hcn.2,hcn.1,g5⟩,if_neg hm])) (g6.2 hm b hnb)
       ·rename_i b' i' k' hx;obtain⟨y,L',k1,k2⟩:=g6;have f1:=po.del (b:=b) hb hs k1;have hb':b≠b':=λe=>by have:=hs.get _ (k1.perm.mem_iff.2 ZB);rw[←e,h0]at this;cases this
        have f2:po b L' (H.put b' none) ((b,⟨n,l++m⟩)::L') ((H.put b' none).new b ⟨n,l++m⟩):=.new f1.bd f1.sub hlt (by rw[ac.get_put,if_neg (λe=>hb' e.symm)];exact h0) _;exact .inl ⟨_,_,_,key _ _ (by rw[hx]at r1 ⊢;simp only[cS,hu,hn,hby,hz',r1,r2];rw[if_pos ⟨g3,g4,hcn.2,hcn.1,g5⟩]),f1.trans f2,λ_=>⟨by simp[W0.makes,hc],by simp[aa]⟩,k2 b hnb⟩
       ·exact g6.elim
      ·exact h.elim
     ·exact h.elim
    ·exact h.elim
   ·exact h.elim
  ·rename_i hc;split at h
   ·rename_i x y ha;obtain⟨k,a,d,g1,g2,g3⟩:=h;exact goes_val hb hs (by simp[aM,hc,ha,aX,g1,g2]) g3
   ·exact h.elim
  ·rename_i hc;split at h
   ·rename_i x y ha;obtain⟨k,a,d,g1,g2,g3⟩:=h;exact goes_val hb hs (by simp[aM,hc,ha,aX,g1,g2]) g3
   ·exact h.elim
  ·rename_i hc;split at h
   ·rename_i x t ha ht;split at h
    ·rename_i e hu;split at h
     ·rename_i n z hn hz;have hz':(ez P e).bind AV.cells? =some z:=hz;split at h
      ·rename_i hcn;have key:∀H',fo P H t (ρ x)=some H'→aM P F (.call c) ρ b H=some (.val (.tup []) H'):=λH' hv=>by simp only[aM,hc,ha,Yb,YT,aX,ht,hv];rfl
       unfold W0.clearR at h;split at h
       ·rename_i hx;exact goes_val hb hs (key _ (by rw[hx];simp only[fo,hu,hn,hz'])) h
       ·rename_i d i k hx;obtain⟨y,L',g1,g2,g3,g4⟩:=h;have hg:=hs.get _ g3.mem;simp only at hg;refine .inl ⟨_,_,L',key _ ?_,.put hb hs g3,λhm=>absurd (g3.names▸hm) hnb,g4⟩;rw[hx];simp only[fo,hu,hn,hz',hg];rw[if_pos ⟨⟨g1,hcn.1.1⟩,⟨hcn.1.2,g2⟩,hcn.2⟩]
       ·exact h.elim
      ·exact h.elim
     ·exact h.elim
    ·exact h.elim
   ·exact h.elim
  ·rename_i f hc;split at h
   ·rename_i g cs hf;exact .inr ⟨g,_,by simp[aM,hc,hf],h⟩
   ·exact h.elim
  ·exact h.elim
 |makeMap t r=>
  cases r with
  |none=>exact iy hb hs hlt h0 ⟨rfl,by simp[aa]⟩ rfl (h b hnb)
  |some r=>exact h.elim
 |lookup t m k ok=>
  simp only[W0.op]at h;split at h
  ·rename_i kt et hu;split at h
   ·rename_i z hk hz;unfold W0.lookR at h;split at h
    ·rename_i c s hm hks;obtain⟨x,g1,g2,g3⟩:=h;have hg:=hs.get _ g1;simp only at hg;refine goes_val hb hs ?_ g3;simp only[aM,kJ,hu,hm,hks,hk,hz,hg];rw[if_pos g2];rfl
    ·exact h.elim
   ·exact h.elim
  ·exact h.elim
 |mapUpdate t m k x=>
  simp only[W0.op]at h;split at h
  ·rename_i kt et hu;split at h
   ·rename_i hk;unfold W0.mupR at h;split at h
    ·rename_i c s hm hks;obtain⟨y,L',g1,g2,g3,g4⟩:=h;have hg:=hs.get _ g3.mem;simp only at hg;refine .inl ⟨_,_,L',?_,.put hb hs g3,λhm=>absurd (g3.names▸hm) hnb,g4⟩;simp only[aM,fa,hu,hm,hks,hk,hg];rw[if_pos ⟨g1,g2⟩];rfl
    ·exact h.elim
   ·exact h.elim
  ·exact h.elim
 |range t x=>
  simp only[W0.op]at h;split at h
  ·rename_i hu;obtain⟨s,hx,h1⟩:=h;exact iy hb hs hlt h0 ⟨rfl,by simp[aa]⟩ (by simp only[aM,hu,hx]) (h1 b hnb)
  ·exact h.elim
 |next it s=>
  cases s with
  |false=>exact h.elim
  |true=>
   simp only[W0.op]at h;unfold W0.nextR at h;split at h
   ·rename_i c hi;obtain⟨x,s,k,pos,g1,g2,g3⟩:=h;have hg:=hs.get _ g1;simp only at hg;split at g3
    ·rename_i hp;obtain⟨L',g4,g5⟩:=g3;refine .inl ⟨_,_,L',?_,.put hb hs g4,λhm=>absurd (g4.names▸hm) hnb,g5⟩;simp only[aM,iT,hi,hg,g2];rw[if_pos hp];rfl
    ·rename_i hp;refine goes_val hb hs ?_ g3;simp only[aM,iT,hi,hg,g2];rw[if_neg hp];rfl
   ·exact h.elim
 |_=>exact h.elim
end
end
end Go.Proofs.YtdnpdghlggbklaaGreatDoor.Am
