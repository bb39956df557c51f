/- A part of the proof; the statement is proved in the last part. -/
import Derived.Test.YtbofdbhnbodbiaaGreatDoorQvc
set_option linter.all false
set_option maxRecDepth 100000
set_option maxHeartbeats 20000000
namespace Go.Proofs.YtbofdbhnbodbiaaGreatDoor.Am
section
open Go.RowKit
abbrev SH:=List (Nat×Blk)
abbrev SH.names(L:SH):List Nat:=L.map Prod.fst
structure j8(L:SH)(H:ae):Prop where
 nd:L.names.Nodup
 get:∀p∈L,H.get p.1=some p.2
structure Fr(B:Nat)(L:SH)(H:ae)(L':SH)(H':ae):Prop where
 next:H.next<=H'.next
 bd:Bd H'
 sub:j8 L' H'
 keep:∀b x,H.get b=some x->b∉L.names->H'.get b=some x/\b∉L'.names
 dom:∀b,b<B->H.get b=none->H'.get b=none
 fresh:∀b,b∈L'.names->b<B->b∈L.names
theorem j8.mem{L:SH}{H:ae}(h:j8 L H){b:Nat}(j:b∈L.names):∃x,(b,x)∈L/\H.get b=some x:=by obtain⟨p,hp,rfl⟩:=Tl.1 j;exact⟨p.2,hp,h.get p hp⟩
theorem j8.congr{L:SH}{H H':ae}(h:j8 L H)(j:∀b,H'.get b=H.get b):j8 L H':=⟨h.nd,λp hp=>by rw[j];exact h.get p hp⟩
theorem Fr.refl{B:Nat}{L:SH}{H:ae}(j:Bd H)(h:j8 L H):Fr B L H L H:=⟨Fd _,j,h,λ_ _ D u=>⟨D,u⟩,λ_ _ h=>h,λ_ h _=>h⟩
theorem Fr.trans{B M:Nat}{L G L'':SH}{H H' H'':ae}(h:Fr B L H G H')(k:Fr M G H' L'' H'')(E:B<=M):Fr B L H L'' H'' where
 next:=SK h.next k.next
 bd:=k.bd
 sub:=k.sub
 keep:=λb x u j=>by obtain⟨S,O⟩:=h.keep b x u j;exact k.keep b x S O
 dom:=λb D N=>k.dom b (SW D E) (h.dom b D N)
 fresh:=λb u j=>h.fresh b (k.fresh b u (SW j E)) j
theorem Fr.low{B D:Nat}{L u:SH}{H H':ae}(h:Fr D L H u H')(j:B<=D):Fr B L H u H':=
 ⟨h.next,h.bd,h.sub,h.keep,λb E=>h.dom b (SW E j),λb M G=>h.fresh b M (SW G j)⟩
theorem j8.perm{L j:SH}{H:ae}(h:j8 L H)(hp:L.Perm j):j8 j H:=⟨(hp.map Prod.fst).nodup_iff.1 h.nd,λp u=>h.get p (hp.mem_iff.2 u)⟩
theorem j8.left{K R:SH}{H:ae}(h:j8 (K++R) H):j8 K H:=⟨by have:=h.nd;unfold SH.names at *;rw[LT]at this;exact(TN.1 this).1,λp hp=>h.get p (Tt _ hp)⟩
theorem j8.right{K R:SH}{H:ae}(h:j8 (K++R) H):j8 R H:=⟨by have:=h.nd;unfold SH.names at *;rw[LT]at this;exact(TN.1 this).2.1,λp hp=>h.get p (SP _ hp)⟩
theorem j8.disj{K R:SH}{H:ae}(h:j8 (K++R) H){b:Nat}(j:b∈K.names)(h2:b∈R.names):False:=by have:=h.nd;unfold SH.names at *;rw[LT]at this;exact(TN.1 this).2.2 b j b h2 rfl
theorem Fr.frame{B:Nat}{K G R L:SH}{H H':ae}(h:Fr B K H G H')(O:L.Perm (K++R))(S:j8 L H):Fr B L H (G++R) H':=by
 have D:=S.perm O;have M:∀p∈R,H'.get p.1=some p.2/\p.1∉G.names:=λp hp=>
  h.keep p.1 p.2 (D.right.get p hp) (λj=>D.disj j (S9 hp))
 have N:∀b,b∈L.names↔b∈K.names\/b∈R.names:=λb=>by rw[(O.map Prod.fst).mem_iff,LT,SC]
 refine⟨h.next,h.bd,⟨?_,λp hp=>?_⟩,λb x u E=>?_,h.dom,λb u E=>?_⟩
 .unfold SH.names;rw[LT,TN];refine⟨h.sub.nd,D.right.nd,λa ha b Z Y=>?_⟩;subst Y;obtain⟨p,hp,rfl⟩:=Tl.1 Z;exact(M p hp).2 ha
 .rcases SC.1 hp with hp|hp
  .exact h.sub.get p hp
  .exact(M p hp).1
 .rw[N]at E;have h3:b∉K.names:=λj=>E (.inl j)
  obtain⟨a1,a2⟩:=h.keep b x u h3;refine⟨a1,λj=>?_⟩;unfold SH.names at j;rw[LT,SC]at j;rcases j with j|j
  .exact a2 j
  .exact E (.inr j)
 .unfold SH.names at u;rw[LT,SC]at u;rw[N];rcases u with u|u
  .exact .inl (h.fresh b u E)
  .exact .inr u
section
variable {P:Program} {F:TypeId->Option (List TypeId)} {w w':World} {σ σ':bE} {T T':Nat->Prop}
theorem bn.shrink{a:AV}{v:Value}(h:bn w σ T a v)(hT:∀c,T' c->T c):bn w σ T' a v:=by
 induction h with
 |int k n=>exact .int k n
 |bool b=>exact .bool b
 |str s=>exact .str s
 |nilp=>exact .nilp
 |ptr b i G E h hp=>exact .ptr b i G E h hp
 |mp b E h Z Y=>exact .mp b E h Z Y
 |it b E h Z Y=>exact .it b E h Z Y
 |pptr j i G b o sz D h B=>exact .pptr j i G b o sz (D.shrink hT) B
 |nils=>exact .nils
 |emp a=>exact .emp a
 |sl b i n E a u h hp S N ha=>exact .sl b i n E a u h hp S N ha
 |lst0 a u N=>exact .lst0 a u N
 |lst j b o sz u D S N h B=>exact .lst j b o sz u (D.shrink hT) S N B
 |agg O M D h B=>exact .agg O M D B
 |tup O M D h B=>exact .tup O M D B
 |fn f O M D h B=>exact .fn f O M D B
 |nilf=>exact .nilf
 |junk v=>exact .junk v
theorem tI.shrink{x:Blk}{B:cq}{cs:Array Value}{e:TypeId}(h:tI w σ T x B cs e)(D:∀c,T' c->T c):tI w σ T' x B cs e:=
 ⟨h.size,h.block,h.even,h.room,λi r j a u M G E=>(h.rep i r j a u M G E).shrink D⟩
theorem jB.shrink{x:Blk}{j:cq}{cs:Array Value}{e:TypeId}(h:jB w σ T x j cs e)(u:∀c,T' c->T c):jB w σ T' x j cs e:=⟨λhp=>(h.1 hp).shrink u,h.2⟩
theorem aQ.less{H H':ae}(h:∀b x,H'.get b=some x->H.get b=some x)(c:Nat)(j:aQ σ H' c):aQ σ H c:=by
 rcases j with j|⟨b,x,u,E,D,B⟩
 .exact .inl j
 .exact .inr ⟨b,x,u,h b x E,D,B⟩
theorem bv.less{H H':ae}(u:bv w σ H)(h:∀b x,H'.get b=some x->H.get b=some x)(S:H.next<=H'.next):bv w σ H' where
 named:=λb j G=>SW (u.named b j G) S
 lt:=u.lt
 live:=λb x G=>by obtain⟨j,Z,e,D,B⟩:=u.live b x (h b x G);exact⟨j,Z,e,D,B.shrink (aQ.less h)⟩
 apart:=λc N=>⟨(u.apart c N).1,λ⟨b,x,j,D,B,Y⟩=>(u.apart c N).2 ⟨b,x,j,h b x D,B,Y⟩⟩
 inj:=λb O x M j E D B=>u.inj b O x M j E (h b x D) (h O M B)
 glob:=u.glob.less (aQ.less h)
def PJ(τ:List AV)(H:ae)(τ1:List AV)(H1:ae):Prop:=
 H.next<=H1.next/\(∀b x,H1.get b=some x->H.get b=some x)/\∀(w:World) (σ:bE) (a:Act),bv w σ H->cD w σ (aQ σ H) τ a->cD w σ (aQ σ H1) τ1 a
variable {c c1 c2:Code} {τ τ1 τ2:List AV} {H H1 H2:ae} {e:Ex}
theorem cO.shift(h:cO P c τ H e τ1 H1)(k:PJ τ1 H1 τ2 H2):cO P c τ H e τ2 H2:=by refine⟨SK h.1 k.1,λw σ a E j Q G=>h.2 w σ a E j Q λB w' u=>G B w' ?_⟩;obtain⟨σ',t,r,e1,m⟩:=u;exact⟨σ',k.2.2 w' σ' B r t,r.less k.2.1 k.1,⟨e1.os,e1.tape,e1.output,e1.size,e1.keep,e1.shape,e1.sig,e1.eqfr,e1.frame,λc D=>e1.own c (aQ.less k.2.1 c D)⟩,m⟩
theorem cO.seq(h:cO P c1 τ H .normal τ1 H1)(k:cO P c2 τ1 H1 e τ2 H2):cO P (.seq c1 c2) τ H e τ2 H2:=by refine⟨SK h.1 k.1,λw σ a N B Q O=>wp_seq (h.2 w σ a N B _ λY w' D=>?_)⟩;obtain⟨u,t1,G,e1,M⟩:=D;exact k.2 w' u Y G t1 Q λS E j=>O S E (j.trans e1 M h.1)
theorem cO.seq_out(h:cO P c1 τ H e τ1 H1)(D:e≠.normal):cO P (.seq c1 c2) τ H e τ1 H1:=by
 refine⟨h.1,λw σ a E u Q B=>wp_seq (h.2 w σ a E u _ λM w' j=>?_)⟩;cases e with
 |normal=>exact absurd rfl D
 |exit G=>exact B _ _ j
 |ret=>exact B _ _ j
theorem cO.cond{x:Operand}{t:Bool}(D:jr τ x=.bool t)(h:cO P (if t then c1 else c2) τ H e τ1 H1):cO P (.cond x c1 c2) τ H e τ1 H1:=by refine⟨h.1,λw σ a B j Q E=>wp_cond (t:=t) ?_ (h.2 w σ a B j Q E)⟩;have:=j.eval B.glob x;rw[D]at this;generalize a.eval x=u at this;cases this;rfl
def Ex.leave(id:Nat):Ex->Ex
 |.exit id'=>if id'=id then .normal else .exit id'
 |e=>e
theorem cO.block{B:Nat}(h:cO P c τ H e τ1 H1):cO P (.block B c) τ H (e.leave B) τ1 H1:=by
 refine⟨h.1,λw σ a G D Q M=>wp_block (h.2 w σ a G D _ λN w' E=>?_)⟩;have:=M N w' E;cases e with
 |normal=>exact this
 |ret=>exact this
 |exit u=>
  simp only[Dn,Exit.inBlock];simp only[Ex.leave]at this;by_cases j:u=B
  .simp only[j,if_true]at this ⊢;exact this
  .simp only[j,if_false]at this ⊢;exact this
theorem j7.next{n:Nat}(h:cO P c τ H .normal τ1 H1)(k:j7 P n c τ1 H1 e τ2 H2):j7 P (n+1) c τ H e τ2 H2:=by
 refine⟨SK h.1 k.1,λw σ a N B Q O=>?_⟩;rw[rounds_succ];refine h.2 w σ a N B _ λY w' D=>?_
 obtain⟨u,t1,G,e1,M⟩:=D;exact k.2 w' u Y G t1 Q λS E j=>O S E (j.trans e1 M h.1)
theorem j7.out(h:cO P c τ H e τ1 H1)(D:e≠.normal):j7 P 1 c τ H e τ1 H1:=by
 refine⟨h.1,λw σ a E u Q B=>?_⟩;rw[rounds_succ];refine h.2 w σ a E u _ λM w' j=>?_
 cases e with
 |normal=>exact absurd rfl D
 |exit G=>exact B _ _ j
 |ret=>exact B _ _ j
theorem j7.code{n:Nat}(h:j7 P n c τ H e τ1 H1):cO P (.loop c) τ H e τ1 H1:=
 ⟨h.1,λw σ a u j Q B=>wp_loop_rounds n (h.2 w σ a u j Q B)⟩
def cE(P:Program)(c:Code)(τ:List AV)(L:SH)(Q:Ex->List AV->SH->Prop):Prop:=
 ∀H,Bd H->j8 L H->∃e τ' H' L',cO P c τ H e τ' H'/\Fr H.next L H L' H'/\Q e τ' L'
def ac(P:Program)(f:FuncId)(args:List AV)(L:SH)(Q:AV->SH->Prop):Prop:=
 (∃fn c,P.funcs[f]? =some fn/\fn.body=some c)/\∀H,Bd H->j8 L H->∃v H' L',mZ P f args H v H'/\Fr H.next L H L' H'/\Q v L'
variable {L:SH} {Q Q2:Ex->List AV->SH->Prop}
theorem cE.mono(h:cE P c τ L Q)(D:∀e j u,Q e j u->Q2 e j u):cE P c τ L Q2:=λH E B=>by obtain⟨e,j,O,u,N,M,G⟩:=h H E B;exact⟨e,j,O,u,N,M,D _ _ _ G⟩
theorem ac.mono{f:FuncId}{args:List AV}{R R2:AV->SH->Prop}(h:ac P f args L R)(B:∀v j,R v j->R2 v j):ac P f args L R2:=⟨h.1,λH D u=>by
 obtain⟨v,N,j,M,G,E⟩:=h.2 H D u;exact⟨v,N,j,M,G,B _ _ E⟩⟩
theorem ac.frame{f:FuncId}{args:List AV}{K R:SH}{D R2:AV->SH->Prop}(h:ac P f args K D)(B:L.Perm (K++R))(E:∀v j,D v j->R2 v (j++R)):ac P f args L R2:=⟨h.1,λH G u=>by
 obtain⟨v,S,j,O,N,M⟩:=h.2 H G (u.perm B).left;exact⟨v,S,j++R,O,N.frame B u,E _ _ M⟩⟩
theorem cE.stop(e:Ex)(u:∀H,cO P c τ H e τ H)(h:Q e τ L):cE P c τ L Q:=λH B j=>⟨e,τ,H,L,u H,.refl B j,h⟩
theorem cE.skip(h:Q .normal τ L):cE P .skip τ L Q:=.stop .normal (λH=>⟨Fd _,λw σ a u j Q B=>wp_skip (B _ _ (.refl u j))⟩) h
theorem cE.exit{j:Nat}(h:Q (.exit j) τ L):cE P (.exit j) τ L Q:=.stop (.exit j) (λH=>⟨Fd _,λw σ a B u Q D=>wp_exit (D _ _ (.refl B u))⟩) h
theorem cE.ret(h:Q .ret τ L):cE P .ret τ L Q:=.stop .ret (λH=>⟨Fd _,λw σ a u j Q B=>wp_ret (B _ _ (.refl u j))⟩) h
theorem cE.label{l:Nat}(h:Q .normal τ L):cE P (.label l) τ L Q:=.stop .normal (λH=>⟨Fd _,λw σ a u j Q B=>wp_label (B _ _ (.refl u j))⟩) h
theorem cE.seq(h:cE P c1 τ L λe u G=>match e with|.normal=>cE P c2 u G Q|e=>Q e u G):cE P (.seq c1 c2) τ L Q:=λH Y S=>by
 obtain⟨e,τ1,H1,E,D,j,B⟩:=h H Y S;cases e with
 |normal=>obtain⟨e,τ2,H2,Z,O,N,M⟩:=B H1 j.bd j.sub;exact⟨e,τ2,H2,Z,D.seq O,j.trans N j.next,M⟩
 |exit id=>exact⟨_,τ1,H1,E,D.seq_out Ud,j,B⟩
 |ret=>exact⟨_,τ1,H1,E,D.seq_out Ud,j,B⟩
theorem cE.cond{x:Operand}{t:Bool}(u:jr τ x=.bool t)(h:cE P (if t then c1 else c2) τ L Q):cE P (.cond x c1 c2) τ L Q:=λH B j=>by obtain⟨e,τ1,H1,M,G,E,D⟩:=h H B j;exact⟨e,τ1,H1,M,G.cond u,E,D⟩
theorem cE.block{u:Nat}(h:cE P c τ L λe j O=>Q (e.leave u) j O):cE P (.block u c) τ L Q:=λH D B=>by obtain⟨e,τ1,H1,N,M,G,E⟩:=h H D B;exact⟨_,τ1,H1,N,M.block,G,E⟩
theorem cE.loop(I:Nat->List AV->SH->Prop)(hs:∀n τ L,I n τ L->cE P c τ L λe j B=>match e with|.normal=>∃m,m<n/\I m j B|e=>Q e j B)(n:Nat)(h0:I n τ L):cE P (.loop c) τ L Q:=by
 have M:∀n τ L,I n τ L->∀H,Bd H->j8 L H->∃k e j G B,j7 P k c τ H e j G/\Fr H.next L H B G/\Q e j B:=by
  intro n
  induction n using Nat.strongRecOn with
  |_ n ih=>
   intro τ L hI H S N;obtain⟨e,τ1,H1,Y,E,u,D⟩:=hs n τ L hI H S N;cases e with
   |normal=>obtain⟨m,hm,O⟩:=D;obtain⟨k,e,τ2,H2,L2,k1,k2,Z⟩:=ih m hm τ1 Y O H1 u.bd u.sub;exact⟨k+1,e,τ2,H2,L2,.next E k1,u.trans k2 u.next,Z⟩
   |exit id=>exact⟨1,_,τ1,H1,Y,.out E Ud,u,D⟩
   |ret=>exact⟨1,_,τ1,H1,Y,.out E Ud,u,D⟩
 intro H S N;obtain⟨k,e,j,G,B,E,u,D⟩:=M n τ L h0 H S N;exact⟨e,j,G,B,E.code,u,D⟩
def RH(τ τ1:List AV):Prop:=τ1.length=τ.length/\∀(i:Nat) (x:AV),τ1[i]? =some x->x=.junk\/τ[i]? =some x
theorem RH.tmps{T:Nat->Prop}{a:Act}(h:RH τ τ1)(ht:cD w σ T τ a):cD w σ T τ1 a:=by
 refine⟨⟨by rw[h.1];exact ht.1.1,λi x u D B=>?_⟩,ht.2⟩;rcases h.2 i x D with rfl|j
 .exact .junk _
 .exact ht.1.2 i x u j B
theorem cE.dim(E:RH τ τ1)(h:cE P c τ1 L Q):cE P c τ L Q:=λH N D=>by obtain⟨e,j,Z,Y,B,S,O⟩:=h H N D;exact⟨e,j,Z,Y,⟨B.1,λw σ a G u Q M=>B.2 w σ a G (E.tmps u) Q M⟩,S,O⟩
end
end
section
open Go.RowKit
inductive wZ (b:Nat) (x x':Blk):SH->SH->Prop where
 |here (L:SH):wZ b x x' ((b,x)::L) ((b,x')::L)
 |there (p:Nat×Blk) {L L':SH}:wZ b x x' L L'->wZ b x x' (p::L) (p::L')
inductive eJ (b:Nat) (x:Blk):SH->SH->Prop where
 |here (L:SH):eJ b x ((b,x)::L) L
 |there (p:Nat×Blk) {L L':SH}:eJ b x L L'->eJ b x (p::L) (p::L')
theorem wZ.mem{b:Nat}{x x':Blk}{L L':SH}(h:wZ b x x' L L'):(b,x)∈L:=by
 induction h with
 |here L=>simp
 |there p h j=>simp[j]
theorem wZ.names{b:Nat}{x x':Blk}{L L':SH}(h:wZ b x x' L L'):L'.names=L.names:=by
 induction h with
 |here L=>rfl
 |there p h j=>simp only[Sx,j]
theorem wZ.get{b:Nat}{x x':Blk}{L L':SH}(h:wZ b x x' L L')(hn:L.names.Nodup):∀p∈L',p=(b,x')\/(p∈L/\p.1≠b):=by
 induction h with
 |here L=>
  intro p hp;rcases SB.1 hp with rfl|hp
  .exact .inl rfl
  .refine .inr ⟨by simp[hp],λj=>?_⟩;simp only[Sx,Tc]at hn;exact hn.1 (j▸S9 hp)
 |there q h u=>
  intro p hp;simp only[Sx,Tc]at hn;rcases SB.1 hp with rfl|hp
  .refine .inr ⟨Ud,λj=>hn.1 ?_⟩;rw[j];exact S9 (f:=Prod.fst) h.mem
  .rcases u hn.2 p hp with rfl|⟨D,B⟩
   .exact .inl rfl
   .exact .inr ⟨by simp[D],B⟩
theorem eJ.perm{b:Nat}{x:Blk}{L L':SH}(h:eJ b x L L'):L.Perm ((b,x)::L'):=by
 induction h with
 |here L=>exact .refl _
 |there p h j=>exact(j.cons p).trans (.swap _ _ _)
def ND:SH->Nat->Option Blk
 |[],_=>none
 |(c,x)::L,b=>if c=b then some x else ND L b
def PK:SH->Nat->Blk->SH
 |[],_,_=>[]
 |(c,x)::L,b,y=>if c=b then(c,y)::L else(c,x)::PK L b y
structure mK(b:Nat)(L:SH)(H:ae)(L':SH)(H':ae):Prop where
 next:H'.next=H.next
 bd:Bd H'
 sub:j8 L' H'
 keep:∀c x,H.get c=some x->c∉L.names->H'.get c=some x/\c∉L'.names
 dom:∀c,c≠b->H.get c=none->H'.get c=none
 fresh:∀c,c∈L'.names->c=b\/c∈L.names
theorem mK.refl{b:Nat}{L:SH}{H:ae}(hb:Bd H)(hs:j8 L H):mK b L H L H:=⟨rfl,hb,hs,λ_ _ u j=>⟨u,j⟩,λ_ _ h=>h,λ_ h=>.inr h⟩
theorem j8.not_mem{L:SH}{H:ae}(hs:j8 L H){b:Nat}(h:H.get b=none):b∉L.names:=λhb=>by obtain⟨x,_,j⟩:=hs.mem hb;rw[h]at j;cases j
theorem mK.new{b:Nat}{L:SH}{H:ae}(hb:Bd H)(hs:j8 L H)(G:b<H.next)(E:H.get b=none)(x:Blk):mK b L H ((b,x)::L) (H.new b x) where
 next:=rfl
 bd:=λc hc=>by have B:H.next<=c:=hc;rw[ae.get_new,if_neg Ua];exact hb c B
 sub:=⟨by simp only[Sx,Tc];exact⟨hs.not_mem E,hs.nd⟩,λp hp=>by
  rcases SB.1 hp with rfl|hp
  .rw[ae.get_new,if_pos rfl]
  .have:=hs.get p hp;rw[ae.get_new,if_neg]
   .exact this
   .intro u;rw[<-u,E]at this;cases this⟩
 keep:=λc y D M=>by
  have j:b≠c:=λu=>by rw[<-u,E]at D;cases D
  refine⟨by rw[ae.get_new,if_neg j];exact D,λhm=>?_⟩;simp only[Sx,SB]at hm;rcases hm with hm|hm
  .exact j hm.symm
  .exact M hm
 dom:=λc hc h=>by rw[ae.get_new,if_neg (λe=>hc e.symm)];exact h
 fresh:=λc hc=>by simpa using hc
theorem mK.put{b c:Nat}{L L':SH}{H:ae}{x x':Blk}(hb:Bd H)(hs:j8 L H)(u:wZ c x x' L L'):mK b L H L' (H.put c (some x')) where
 next:=rfl
 bd:=λd D=>by have B:H.next<=d:=D;have j:=hs.get _ u.mem;rw[ae.get_put,if_neg (λe=>by subst e;rw[hb _ B]at j;cases j)];exact hb d B
 sub:=⟨by rw[u.names];exact hs.nd,λp hp=>by
  rcases u.get hs.nd p hp with rfl|⟨j,E⟩
  .rw[ae.get_put,if_pos rfl]
  .rw[ae.get_put,if_neg (λe=>E e.symm)];exact hs.get p j⟩
 keep:=λd y j E=>by
  have G:c≠d:=λe=>E (e▸S9 (f:=Prod.fst) u.mem)
  exact⟨by rw[ae.get_put,if_neg G];exact j,by rw[u.names];exact E⟩
 dom:=λd _ h=>by
  rw[ae.get_put,if_neg]
  .exact h
  .intro e;have j:=hs.get _ u.mem;rw[e,h]at j;cases j
 fresh:=λd D=>by rw[u.names]at D;exact .inr D
theorem mK.del{b c:Nat}{L L':SH}{H:ae}{x:Blk}(hb:Bd H)(hs:j8 L H)(G:eJ c x L L'):mK b L H L' (H.put c none):=by
 have u:j8 ((c,x)::L') H:=hs.perm G.perm;have hn:∀d,d∈L.names↔d=c\/d∈L'.names:=λd=>by rw[(G.perm.map Prod.fst).mem_iff];simp
 have j:=u.nd;simp only[Sx,Tc]at j;refine⟨rfl,λd D=>?_,⟨j.2,λp hp=>?_⟩,λd y M E=>?_,λd _ h=>?_,λd D=>.inr ((hn d).2 (.inr D))⟩
 .have B:H.next<=d:=D;rw[ae.get_put];split
  .rfl
  .exact hb d B
 .rw[ae.get_put,if_neg (λ(e:c=p.1)=>j.1 (e▸S9 (f:=Prod.fst) hp))];exact u.get p (by simp[hp])
 .rw[hn]at E;refine⟨by rw[ae.get_put,if_neg (λe=>E (.inl e.symm))];exact M,λh=>E (.inr h)⟩
 .rw[ae.get_put];split
  .rfl
  .exact h
theorem mK.trans{b:Nat}{L L' L'':SH}{H H' H'':ae}(h:mK b L H L' H')(k:mK b L' H' L'' H''):mK b L H L'' H'' where
 next:=k.next.trans h.next
 bd:=k.bd
 sub:=k.sub
 keep:=λc x j u=>by obtain⟨D,a2⟩:=h.keep c x j u;exact k.keep c x D a2
 dom:=λc hc B=>k.dom c hc (h.dom c hc B)
 fresh:=λc hc=>by
  rcases k.fresh c hc with j|j
  .exact .inl j
  .exact h.fresh c j
namespace W0
def rowLd(ag:Bool)(n:Nat)(row:List AV)(off:Nat):Option AV:=
 if ag then(if off+n<=row.length then some (.agg ((row.drop off).take n))else none)else row[off]?
def fillR(cells:List AV):List (Nat×Nat×AV)->Option (List AV)
 |[]=>some cells
 | (off,size,v)::rest=>match v.cells? with
  |some cs=>if cs.length=size/\off+size<=cells.length/\cs.all AV.one then fillR (bq cells off cs) rest else none
  |none=>none
section
variable (P:Program) (F:TypeId->Option (List TypeId))
def opt(x:Option AV)(K:AV->Prop):Prop:=∃v,x=some v/\K v
def pick(c x y:AV)(K:AV->Prop):Prop:=∃t,c=.bool t/\K (if t then x else y)
def un(op:UnOp)(x:AV)(K:AV->Prop):Prop:=opt (RE op x) K
def bin(op:BinOp)(t:TypeId)(x y:AV)(K:AV->Prop):Prop:=opt (gC P F op t x y) K
def conv(k:IntKind)(x:AV)(K:AV->Prop):Prop:=∃k' n,x=.int k' n/\K (.int k (k.wrap n))
def convS(x:AV)(K:AV->Prop):Prop:=∃s,x=.str s/\K (.str s)
def faddr(off:Nat)(x:AV)(K:AV->Prop):Prop:=match x with
 |.ptr b i o=>K (.ptr b i (o+off))
 |.pptr rows i o=>K (.pptr rows i (o+off))
 |_=>False
def fld(ag:Bool)(n off:Nat)(x:AV)(K:AV->Prop):Prop:=∃cs v,x=.agg cs/\rowLd ag n cs off=some v/\K v
def loadR(ag:Bool)(n:Nat)(a:AV)(L:SH)(K:AV->Prop):Prop:=match a with
 |.ptr b i off=>∃x r v,(b,x)∈L/\x.rows[i]? =some r/\rowLd ag n r off=some v/\K v
 |.pptr rows i off=>∃r v,rows[i]? =some r/\rowLd ag n r off=some v/\K v
 |_=>False
def storeR(n:Nat)(a v:AV)(L:SH)(K:SH->Prop):Prop:=match a with
 |.ptr b i off=>∃x r cs L',x.rows[i]? =some r/\v.cells? =some cs/\cs.length=n/\cs.all AV.one=true/\off+n<=r.length/\wZ b x ⟨x.size,x.rows.set i (bq r off cs)⟩ L L'/\K L'
 |_=>False
def idxR(n:Nat)(x ix:AV)(L:SH)(K:AV->Prop):Prop:=match x with
 |.sl b j m=>∃k i y,ix=.int k i/\0<=i/\i.toNat<m/\(b,y)∈L/\y.size=n/\K (.ptr b (j+i.toNat) 0)
 |.lst rows=>∃k i r,ix=.int k i/\0<=i/\rows[i.toNat]? =some r/\r.length=n/\K (.pptr rows i.toNat 0)
 |_=>False
def idxP(len n:Nat)(x ix:AV)(K:AV->Prop):Prop:=∃k i,ix=.int k i/\0<=i/\i.toNat<len/\(match x with
 |.ptr b j off=>K (.ptr b j (off+i.toNat*n))
 |.pptr rows j off=>K (.pptr rows j (off+i.toNat*n))
 |_=>False)
def ixS(x ix:AV)(K:AV->Prop):Prop:=∃s k i b,x=.str s/\ix=.int k i/\0<=i/\s[i.toNat]? =some b/\K (.int .u8 b.toNat)
def ixA(ag:Bool)(len n:Nat)(x ix:AV)(K:AV->Prop):Prop:=∃cs k i v,x=.agg cs/\ix=.int k i/\0<=i/\i.toNat<len/\rowLd ag n cs (i.toNat*n)=some v/\K v
def ext(i:Nat)(x:AV)(K:AV->Prop):Prop:=∃vs v,x=.tup vs/\vs[i]? =some v/\K v
def nilchk(x:AV)(K:AV->Prop):Prop:=match x with
 |.ptr b i off=>K (.ptr b i off)
 |.pptr rows i off=>K (.pptr rows i off)
 |.fn f cs=>K (.fn f cs)
 |_=>False
def build(z:List AV)(parts:List (Nat×Nat×AV))(K:AV->Prop):Prop:=∃cs,fillR z parts=some cs/\K (.agg cs)
def alloc(cs:List AV)(L:SH)(K:AV->SH->Prop):Prop:=∀b,b∉L.names->K (.ptr b 0 0) ((b,⟨cs.length,[cs]⟩)::L)
def box(x:AV)(L:SH)(K:AV->SH->Prop):Prop:=∃cs,x.cells? =some cs/\cs.all AV.one=true/\∀b,b∉L.names->K (.ptr b 0 0) ((b,⟨cs.length,[cs]⟩)::L)
def bslice(n:Nat)(z:List AV)(len:Nat)(parts:List (Nat×AV))(L:SH)(K:AV->SH->Prop):Prop:=
 len*n<=2^24/\∃rows,eg n (List.replicate len z) parts=some rows/\∀b,b∉L.names->K (.sl b 0 len) ((b,⟨n,rows⟩)::L)
def mslice(n by_:Nat)(z:List AV)(l c:AV)(L:SH)(K:AV->SH->Prop):Prop:=
 ∃(k k':IntKind) (i j:Nat),l=.int k i/\c=.int k' j/\i<=j/\j<=2^62/\j*by_<=2^48/\∀b,b∉L.names->K (.sl b 0 i) ((b,⟨n,List.replicate i z⟩)::L)
def rowsR(L:SH)(n:Nat)(s:AV)(rows:List (List AV)):Prop:=match s with
 |.nils=>rows=[]
 |.emp=>rows=[]
 |.lst l=>rows=l/\∀r,l.head? =some r->r.length=n
 |.sl b i k=>∃x,(b,x)∈L/\x.size=n/\i+k<=x.rows.length/\rows=(x.rows.drop i).take k
 |_=>False
def appendR(n by_:Nat)(s x:AV)(L:SH)(K:AV->SH->Prop):Prop:=
 ∃l m,rowsR L n s l/\rowsR L n x m/\2*(l.length+m.length)*by_<=2^48/\2*(l.length+m.length)<=2^62/\(m.all λr=>r.all AV.one)=true/\
 (match s with
  |.nils=>(m.length=0->K .nils L)/\(m.length≠0->∀b,b∉L.names->K (.sl b 0 m.length) ((b,⟨n,m⟩)::L))
  |.emp=>(m.length=0->K .emp L)/\(m.length≠0->∀b,b∉L.names->K (.sl b 0 m.length) ((b,⟨n,m⟩)::L))
  |.sl b' _ _=>∃y L',eJ b' y L L'/\∀b,b∉L.names->K (.sl b 0 (l.length+m.length)) ((b,⟨n,l++m⟩)::L')
  |_=>False)
def len(x:AV)(K:AV->Prop):Prop:=∃n:Nat,Fi x=some n/\K (.int .i64 (n:Int))
def lenS(x:AV)(K:AV->Prop):Prop:=∃s,x=.str s/\K (.int .i64 (s.length:Int))
def mnx(mx:Bool)(x y:AV)(K:AV->Prop):Prop:=∃k a c,x=.int k a/\y=.int k c/\K (.int k (if mx then(if c > a then c else a)else(if c<a then c else a)))
def sliceR(n:Nat)(x:AV)(lo hi mx:Option AV)(L:SH)(K:AV->Prop):Prop:=
 ∃len l h m,Fi x=some len/\cC lo 0=some l/\cC hi len=some h/\cC mx len=some m/\l<=h/\h<=m/\m<=len/\
 (match x with
  |.nils=>K .nils
  |.sl b i _=>(∃y,(b,y)∈L/\y.size=n)/\K (.sl b (i+l) (h-l))
  |.lst rows=>(mx.isSome=false/\∀r,rows.head? =some r->r.length=n)/\K (.lst ((rows.drop l).take (h-l)))
  |_=>False)
def sliceS(x:AV)(lo hi:Option AV)(K:AV->Prop):Prop:=
 ∃s l h,x=.str s/\cC lo 0=some l/\cC hi s.length=some h/\l<=h/\h<=s.length/\K (.str ((s.drop l).take (h-l)))
def store(n:Nat)(a v:AV)(L:SH)(K:SH->Prop):Prop:=match a with
 | .ptr b i off=>(match ND L b with
  | some x=>(match x.rows[i]?,v.cells? with
   |some r,some cs=>(cs.length=n/\cs.all AV.one=true/\off+n<=r.length)/\K (PK L b ⟨x.size,x.rows.set i (bq r off cs)⟩)
   |_,_=>False)
  |none=>False)
 |_=>False
def slice(n:Nat)(x:AV)(lo hi mx:Option AV)(L:SH)(K:AV->Prop):Prop:=match Fi x with
 | some len=>(match cC lo 0,cC hi len,cC mx len with
  | some l,some h,some m=>(l<=h/\h<=m/\m<=len)/\(match x with
   |.nils=>K .nils
   | .sl b i _=>(match ND L b with
    |some y=>y.size=n/\K (.sl b (i+l) (h-l))
    |none=>False)
   |.lst rows=>(mx.isSome=false/\∀r,rows.head? =some r->r.length=n)/\K (.lst ((rows.drop l).take (h-l)))
   |_=>False)
  |_,_,_=>False)
 |none=>False
def clearR(n:Nat)(z:List AV)(x:AV)(L:SH)(K:SH->Prop):Prop:=match x with
 |.nils=>K L
 |.sl b i k=>∃y L',y.size=n/\i+k<=y.rows.length/\wZ b y ⟨y.size,y.rows.take i++List.replicate k z++y.rows.drop (i+k)⟩ L L'/\K L'
 |_=>False
def mkmap(L:SH)(K:AV->SH->Prop):Prop:=∀b,b∉L.names->K (.mp b) ((b,⟨0,[]⟩)::L)
def found(z:AV)(ok:Bool)(r:Option (Nat×AV)):AV:=match r with
 |some (_,v)=>if ok then .tup [v,.bool true]else v
 |none=>if ok then .tup [z,.bool false]else z
def lookR(z:AV)(ok:Bool)(m k:AV)(L:SH)(K:AV->Prop):Prop:=match m,k with
 |.mp b,.str s=>∃x,(b,x)∈L/\x.rows.all rL=true/\K (found z ok (gv s x.rows 0))
 |_,_=>False
def putR(s:List UInt8)(v:AV)(rows:List (List AV)):List (List AV):=match gv s rows 0 with
 |some (i,_)=>rows.set i [.str s,v]
 |none=>rows++[[.str s,v]]
def mupR(m k v:AV)(L:SH)(K:SH->Prop):Prop:=match m,k with
 |.mp b,.str s=>∃x L',x.rows.all rL=true/\v.konst=true/\wZ b x ⟨x.size,putR s v x.rows⟩ L L'/\K L'
 |_,_=>False
def rngS(x:AV)(L:SH)(K:AV->SH->Prop):Prop:=∃s,x=.str s/\∀b,b∉L.names->K (.it b) ((b,⟨0,[[.str s,.int .i64 0]]⟩)::L)
def nextR(it:AV)(L:SH)(K:AV->SH->Prop):Prop:=match it with
  | .it b => ∃ x s k pos, (b, x) ∈ L /\ x.rows = [[.str s, .int k pos]]/\
      (if pos<s.length then∃L',wZ b x ⟨x.size,[[.str s,.int .i64 ((pos.toNat+(Utf8.decode ⟨s.toArray⟩ pos.toNat).2:Nat):Int)]]⟩ L L'/\K (.tup [.bool true,.int .i64 pos,.int .i32 (Utf8.decode ⟨s.toArray⟩ pos.toNat).1]) L'
       else K (.tup [.bool false]) L)
  |_=>False
def zof(t:TypeId):Option (List AV):=(dU P t).bind AV.cells?
def op(o:Op)(ρ:Operand->AV)(L:SH)(K:AV->SH->Prop):Prop:=
 let k:=λv=>K v L
 match o with
 |.move x|.assign x=>K (ρ x) L
 |.pick c x y=>pick (ρ c) (ρ x) (ρ y) k
 | .alloc t=>match zof P t with
  |some cs=>alloc cs L K
  |none=>False
 |.box _ x=>box (ρ x) L K
 | .build t parts=>match P.underlying t,dU P t with
  | some (.struct fs),some (.agg z)=>if(fs.toList.all λf=>(aP P f.type).isSome)=true then
    (match cf (parts.toList.map λp=>(jx P fs p.1).map λq=>(q.1,q.2,ρ p.2))with
     |some ps=>build z ps k
     |none=>False)
   else False
  | some (.array _ e),some (.agg z)=>(match aP P e with
   |some n=>build z (parts.toList.map λp=>(p.1*n,n,ρ p.2)) k
   |none=>False)
  |_,_=>False
 | .buildSlice t len parts=>match P.underlying t with
  | some (.slice e)=>match aP P e,zof P e with
   |some n,some z=>if z.length=n/\0<n then bslice n z len (parts.toList.map λp=>(p.1,ρ p.2)) L K else False
   |_,_=>False
  |_=>False
 | .load t a=>match dY P t,aP P t with
  |some ag,some n=>loadR ag n (ρ a) L k
  |_,_=>False
 | .store t a x=>match aP P t with
  |some n=>storeR n (ρ a) (ρ x) L (K (.tup []))
  |none=>False
 |.nilCheck x=>nilchk (ρ x) k
 |.binOp op t x y _=>bin P F op t (ρ x) (ρ y) k
 |.unOp op _ x=>un op (ρ x) k
 | .convert s d x=>match P.underlying s,P.underlying d with
  |some (.int _),some (.int kd)=>conv kd (ρ x) k
  |some .string,some .string=>convS (ρ x) k
  |_,_=>False
 |.makeFunc (.func f) first cap=>if first.size=0 then K (.fn f (cap.toList.map ρ)) L else False
 | .makeSlice t l c=>match P.underlying t with
  | some (.slice e)=>match aP P e,gB P e,zof P e with
   |some n,some by_,some z=>if z.length=n/\0<n then mslice n by_ z (ρ l) (ρ c) L K else False
   |_,_,_=>False
  |_=>False
 | .slice t x lo hi mx=>if(hi.isNone&&mx.isSome)=true then False else match P.underlying t with
  | some (.slice e)=>(match aP P e with
   |some n=>sliceR n (ρ x) (lo.map ρ) (hi.map ρ) (mx.map ρ) L k
   |none=>False)
  |some .string=>if mx.isNone=true then sliceS (ρ x) (lo.map ρ) (hi.map ρ) k else False
  |_=>False
 | .fieldAddr s x f=>match P.underlying s with
  | some (.struct fs)=>match fs[f]? with
   | some f=>(match aP P f.type with
    |some n=>if n=0 then False else faddr f.offset (ρ x) k
    |none=>False)
   |none=>False
  |_=>False
 | .field s x f=>match P.underlying s with
  | some (.struct fs)=>match fs[f]? with
   | some f=>(match dY P f.type,aP P f.type with
    |some ag,some n=>fld ag n f.offset (ρ x) k
    |_,_=>False)
   |none=>False
  |_=>False
 | .indexAddr t x ix=>match P.underlying t with
  | some (.slice e)=>(match aP P e with
   |some n=>idxR n (ρ x) (ρ ix) L k
   |none=>False)
  | some (.array len e)=>(match aP P e with
   |some n=>idxP len n (ρ x) (ρ ix) k
   |none=>False)
  |_=>False
 | .index t x ix=>match P.underlying t with
  |some .string=>ixS (ρ x) (ρ ix) k
  | some (.array len e)=>(match dY P e,aP P e with
   |some ag,some n=>ixA ag len n (ρ x) (ρ ix) k
   |_,_=>False)
  |_=>False
 |.extract x i=>ext i (ρ x) k
 |.makeMap _ none=>mkmap L K
 | .lookup t m y ok=>match P.underlying t with
  | some (.map kt et)=>(match P.underlying kt,dU P et with
   |some .string,some z=>lookR z ok (ρ m) (ρ y) L k
   |_,_=>False)
  |_=>False
 | .mapUpdate t m y x=>match P.underlying t with
  | some (.map kt _)=>(match P.underlying kt with
   |some .string=>mupR (ρ m) (ρ y) (ρ x) L (K (.tup []))
   |_=>False)
  |_=>False
 | .range t x=>match P.underlying t with
  |some .string=>rngS (ρ x) L K
  |_=>False
 |.next it true=>nextR (ρ it) L K
 | .call c=>match c.callee with
  | .builtin .len=>(match c.args.toList,(c.argTypes[0]?).bind P.underlying with
   |[x],some (.slice _)=>len (ρ x) k
   |[x],some .string=>lenS (ρ x) k
   |[x],some (.array n _)=>(match ρ x with|.str _=>False|_=>K (.int .i64 n) L)
   |_,_=>False)
  | .builtin .append=>(match c.args.toList,c.argTypes.toList with
   | [s,x],[t,tx]=>(match P.underlying t,P.underlying tx with
    | some (.slice e),some (.slice _)=>(match aP P e,gB P e,zof P e with
     |some n,some by_,some z=>if z.length=n/\0<n then appendR n by_ (ρ s) (ρ x) L K else False
     |_,_,_=>False)
    |_,_=>False)
   |_,_=>False)
  | .builtin .min=>(match c.args.toList with
   |[x,y]=>mnx false (ρ x) (ρ y) k
   |_=>False)
  | .builtin .max=>(match c.args.toList with
   |[x,y]=>mnx true (ρ x) (ρ y) k
   |_=>False)
  | .builtin .clear=>(match c.args.toList,c.argTypes.toList with
   | [x],[t]=>(match P.underlying t with
    | some (.slice e)=>(match aP P e,zof P e with
     |some n,some z=>if(z.length=n/\0<n)/\z.all AV.one=true then clearR n z (ρ x) L (K (.tup []))else False
     |_,_=>False)
    |_=>False)
   |_,_=>False)
  | .value f=>(match ρ f with
   |.fn g cs=>ac P g (c.args.toList.map ρ++cs) L K
   |_=>False)
  |_=>False
 |_=>False
end
end W0
end
section
open Go.RowKit
section
variable {P:Program} {F:TypeId->Option (List TypeId)} {ρ:Operand->AV} {L:SH} {K:AV->SH->Prop} {b:Nat} {H:ae}
theorem rZ{t:TypeId}{B:Bool}{n u:Nat}{j:List AV}{v:AV}(D:dY P t=some B)(h2:aP P t=some n)(h:W0.rowLd B n j u=some v):gQ P t j u=some v:=by
 unfold gQ;rw[D,h2];cases B with
 |true=>simpa[W0.rowLd]using h
 |false=>simpa[W0.rowLd]using h
theorem xE{place:Nat->Option (Nat×Nat)}:∀(j:List (Nat×AV)) (ps:List (Nat×Nat×AV)) (z cs:List AV),cf (j.map λp=>(place p.1).map λq=>(q.1,q.2,p.2))=some ps->W0.fillR z ps=some cs->rJ place z j=some cs
 |[],ps,z,cs,h1,h2=>by cases h1;exact h2
 | (i,v)::j,ps,z,cs,h1,h2=>by
  simp only[Sx]at h1;cases hp:place i with
  |none=>rw[hp]at h1;cases h1
  |some q=>
   rw[hp]at h1;simp only[S0,cf]at h1;split at h1
   .rename_i l B;cases h1;simp only[W0.fillR]at h2;simp only[rJ,hp];split at h2
    .rename_i E D;rw[D];simp only[];split at h2
     .rename_i u;rw[if_pos u];exact xE j l _ cs B h2
     .cases h2
    .cases h2
   .cases h1
theorem r7{α β:Type}(f:α->β):∀l:List α,cf (l.map λx=>some (f x))=some (l.map f)
 |[]=>rfl
 |x::l=>by simp only[Sx,cf,r7 f l]
theorem DA{n:Nat}{s:AV}{rows:List (List AV)}(u:j8 L H)(h:W0.rowsR L n s rows):fI H n s=some rows:=by
 unfold W0.rowsR at h;split at h
 .subst h;rfl
 .subst h;rfl
 .rename_i l;obtain⟨B,j⟩:=h;subst B;cases rows with
  |nil=>rfl
  |cons r l=>simp[fI,j r rfl]
 .obtain⟨x,j,E,D,rfl⟩:=h;simp[fI,u.get _ j,E,D]
 .exact h.elim
def W0.makes:Op->Bool
 |.alloc ..|.box ..|.buildSlice ..|.makeSlice ..|.makeMap ..|.range ..=>true
 | .call c=>match c.callee with
  |.builtin .append=>true
  |_=>false
 |_=>false
def I3(P:Program)(F:TypeId->Option (List TypeId))(o:Op)(ρ:Operand->AV)(b:Nat)(L:SH)(H:ae)(K:AV->SH->Prop):Prop:=
 (∃v H' L',aV P F o ρ b H=some (.val v H')/\mK b L H L' H'/\(b∈L'.names->W0.makes o=true/\b∈af v)/\K v L')\/∃g args,aV P F o ρ b H=some (.call g args)/\ac P g args L K
theorem HG{o:Op}{v:AV}(D:Bd H)(j:j8 L H)(E:H.get b=none)(h:aV P F o ρ b H=some (.val v H))(B:K v L):I3 P F o ρ b L H K:=.inl ⟨v,H,L,h,.refl D j,λu=>absurd u (j.not_mem E),B⟩
theorem gU{o:Op}{v:AV}{x:Blk}(E:Bd H)(B:j8 L H)(j:b<H.next)(G:H.get b=none)(u:W0.makes o=true/\b∈af v)(h:aV P F o ρ b H=some (.val v (H.new b x)))(D:K v ((b,x)::L)):I3 P F o ρ b L H K:=.inl ⟨v,_,_,h,.new E B j G x,λ_=>u,D⟩
theorem GF{t:TypeId}{E:Bool}{n:Nat}{a:AV}{k:AV->Prop}(G:j8 L H)(D:dY P t=some E)(h2:aP P t=some n)(h:W0.loadR E n a L k):∃v,mg P H t a=some v/\k v:=by
 unfold W0.loadR at h;split at h
 .obtain⟨x,r,v,M,B,u,j⟩:=h;exact⟨v,by simp[mg,G.get _ M,B,rZ D h2 u],j⟩
 .obtain⟨r,v,B,u,j⟩:=h;exact⟨v,by simp[mg,B,rZ D h2 u],j⟩
 .exact h.elim
theorem BY{o:Op}(D:Bd H)(B:j8 L H)(hlt:b<H.next)(h0:H.get b=none)(h:W0.op P F o ρ L K):I3 P F o ρ b L H K:=by
 have hnb:=B.not_mem h0;have u:∀{o:Op} {v:AV} (_:Bd H) (_:j8 L H) (_:aV P F o ρ b H=some (.val v H)) (_:K v L),I3 P F o ρ b L H K:=λD B h hk=>HG D B h0 h hk
 cases o with
 |move x=>exact u D B rfl h
 |assign x=>exact u D B rfl h
 |pick c x y=>obtain⟨t,h1,h2⟩:=h;exact u D B (by simp[aV,h1]) h2
 |alloc t=>
  simp only[W0.op,W0.zof]at h;split at h
  .rename_i cs hc;exact gU D B hlt h0 ⟨rfl,by simp[af]⟩ (by simp only[aV,hc]) (h b hnb)
  .exact h.elim
 |box t x=>obtain⟨cs,h1,h2,h3⟩:=h;exact gU D B hlt h0 ⟨rfl,by simp[af]⟩ (by simp only[aV,h1,h2,if_true]) (h3 b hnb)
 |build t parts=>
  simp only[W0.op]at h;split at h
  .rename_i fs z N hz;split at h
   .rename_i hall;split at h
    .rename_i ps hps;obtain⟨cs,h1,h2⟩:=h;refine u D B ?_ h2;have:=xE (place:=jx P fs) (parts.toList.map λp=>(p.1,ρ p.2)) ps z cs (by rw[List.map_map];exact hps) h1;simp only[aV,xm,N,hz];rw[if_pos hall,this];rfl
    .exact h.elim
   .exact h.elim
  .rename_i len e z N hz;split at h
   .rename_i n S;obtain⟨cs,h1,h2⟩:=h;refine u D B ?_ h2;have:=xE (place:=λi=>some (i*n,n)) (parts.toList.map λp=>(p.1,ρ p.2)) (parts.toList.map λp=>(p.1*n,n,ρ p.2)) z cs (by
     rw[List.map_map];exact r7 (λp:Nat×Operand=>(p.1*n,n,ρ p.2)) parts.toList) h1
    simp only[aV,xm,N,hz,S,Tk,this];rfl
   .exact h.elim
  .exact h.elim
 |buildSlice t len parts=>
  simp only[W0.op,W0.zof]at h;split at h
  .rename_i e N;split at h
   .rename_i n z S hz;split at h
    .rename_i hc;obtain⟨h1,rows,h2,h3⟩:=h;exact gU D B hlt h0 ⟨rfl,by simp[af]⟩ (by simp only[aV,N,S,hz];rw[if_pos ⟨hc.1,hc.2,h1⟩,h2];rfl) (h3 b hnb)
    .exact h.elim
   .exact h.elim
  .exact h.elim
 |load t a=>
  simp only[W0.op]at h;split at h
  .rename_i ag n hag S;obtain⟨v,E,O⟩:=GF B hag S h;exact u D B (by simp[aV,E]) O
  .exact h.elim
 |store t a x=>
  simp only[W0.op]at h;split at h
  .rename_i n S;unfold W0.storeR at h;split at h
   .rename_i c i off ha;obtain⟨y,r,cs,L',E,O,M,Y,g5,g6,g7⟩:=h;have hg:=B.get _ g6.mem;simp only at hg;refine .inl ⟨_,_,L',?_,.put D B g6,λhm=>absurd (g6.names▸hm) hnb,g7⟩;simp only[aV,fW,ha,O,S,hg,E];rw[if_pos ⟨M,Y,g5⟩];rfl
   .exact h.elim
  .exact h.elim
 |nilCheck x=>
  simp only[W0.op,W0.nilchk]at h;split at h
  .rename_i G;exact u D B (by simp[aV,G]) h
  .rename_i G;exact u D B (by simp[aV,G]) h
  .rename_i G;exact u D B (by simp[aV,G]) h
  .exact h.elim
 |binOp op t x y c=>obtain⟨v,h1,h2⟩:=h;exact u D B (by simp[aV,h1]) h2
 |unOp op t x=>obtain⟨v,h1,h2⟩:=h;exact u D B (by simp[aV,h1]) h2
 |convert s d x=>
  simp only[W0.op]at h;split at h
  .rename_i h1 h2;obtain⟨k',n,h3,h4⟩:=h;exact u D B (by simp[aV,C7,h1,h2,h3]) h4
  .rename_i h1 h2;obtain⟨s,h3,h4⟩:=h;exact u D B (by simp[aV,C7,h1,h2,h3]) h4
  .exact h.elim
 |makeFunc fn first cap=>
  cases fn with
  |func f=>
   simp only[W0.op]at h;split at h
   .rename_i h1;exact u D B (by simp only[aV];rw[if_pos h1]) h
   .exact h.elim
  |_=>exact h.elim
 |makeSlice t l c=>
  simp only[W0.op,W0.zof]at h;split at h
  .rename_i e N;split at h
   .rename_i n by_ z S hby hz;split at h
    .rename_i hc;obtain⟨k,k',i,j,h1,h2,h3,h4,h5,h6⟩:=h;refine gU D B hlt h0 ⟨rfl,by simp[af]⟩ ?_ (h6 b hnb);simp only[aV,N,S,hby,hz,h1,h2,ky];simp only[Int.natCast_nonneg,if_true,Td];rw[if_pos ⟨hc.1,hc.2,h3,h4,h5⟩]
    .exact h.elim
   .exact h.elim
  .exact h.elim
 |slice t x lo hi mx=>
  simp only[W0.op]at h;split at h
  .exact h.elim
  .rename_i hhm;split at h
   .rename_i e N;split at h
    .rename_i n S;obtain⟨len,l,hh,m,E,O,M,Y,g5,g6,g7,g8⟩:=h;have key:∀v,j6 P (lG H (ρ x)) t (ρ x) (lo.map ρ) (hi.map ρ) (mx.map ρ)=some v->K v L->I3 P F (.slice t x lo hi mx) ρ b L H K:=λv hv hk=>
      u D B (by simp only[aV];rw[if_neg hhm,hv];rfl) hk
     split at g8
     .rename_i G;refine key _ ?_ g8;rw[G]at E;simp only[j6,N,G,E,O,M,Y];rw[if_pos ⟨⟨g5,g6,g7⟩,by rw[S];rfl⟩]
     .rename_i c i q G;obtain⟨⟨y,k1,k2⟩,k3⟩:=g8;refine key _ ?_ k3;have hg:=B.get _ k1;simp only at hg;rw[G]at E;simp only[j6,N,G,E,O,M,Y];rw[if_pos ⟨⟨g5,g6,g7⟩,by rw[S];rfl⟩];simp only[lG,hg,S0,k2];rw[if_pos ⟨rfl,S⟩]
     .rename_i rows G;obtain⟨⟨k0,k2⟩,k3⟩:=g8;refine key _ ?_ k3;rw[G]at E;simp only[j6,N,G,E,O,M,Y];rw[if_pos ⟨⟨g5,g6,g7⟩,by rw[S];rfl⟩,if_neg (by rw[k0];simp)];cases rows with
      |nil=>simp
      |cons r rs=>simp only[S,k2 r rfl,if_true]
     .exact g8.elim
    .exact h.elim
   .rename_i N;split at h
    .rename_i hmx;obtain⟨s,l,hh,E,O,M,Y,g5,g6⟩:=h;refine u D B ?_ g6;have:mx=none:=by simpa using hmx
     subst this;simp only[aV];rw[if_neg hhm];simp only[j6,N,E,Option.map_none];rw[show cC (Option.map ρ lo) 0=some l from O,show cC (Option.map ρ hi) s.length=some hh from M];simp[Y,g5]
    .exact h.elim
   .exact h.elim
 |fieldAddr s x f=>
  simp only[W0.op]at h;split at h
  .rename_i fs N;split at h
   .rename_i fl hf;split at h
    .rename_i n S;split at h
     .exact h.elim
     .rename_i hn0;unfold W0.faddr at h;split at h
      .rename_i G;exact u D B (by simp[aV,iP,N,hf,S,hn0,G]) h
      .rename_i G;exact u D B (by simp[aV,iP,N,hf,S,hn0,G]) h
      .exact h.elim
    .exact h.elim
   .exact h.elim
  .exact h.elim
 |field s x f=>
  simp only[W0.op]at h;split at h
  .rename_i fs N;split at h
   .rename_i fl hf;split at h
    .rename_i ag n hag S;obtain⟨cs,v,E,O,M⟩:=h;exact u D B (by simp[aV,BO,N,hf,E,rZ hag S O]) M
    .exact h.elim
   .exact h.elim
  .exact h.elim
 |indexAddr t x ix=>
  simp only[W0.op]at h;split at h
  .rename_i e N;split at h
   .rename_i n S;unfold W0.idxR at h;split at h
    .rename_i c j m G;obtain⟨k,i,y,E,O,M,Y,g5,g6⟩:=h;have hg:=B.get _ Y;simp only at hg;refine u D B ?_ g6;have hneg:¬i<0:=by omega
     simp[aV,dZ,G,E,hneg,N,lG,hg,M,g5,S]
    .rename_i rows G;obtain⟨k,i,r,E,O,M,Y,g5⟩:=h;refine u D B ?_ g5;have hneg:¬i<0:=by omega
     simp[aV,dZ,G,E,hneg,N,M,Y,S]
    .exact h.elim
   .exact h.elim
  .rename_i len e N;split at h
   .rename_i n S;obtain⟨k,i,E,O,M,Y⟩:=h;have hneg:¬i<0:=by omega
    split at Y
    .rename_i G;exact u D B (by simp[aV,dZ,G,E,hneg,N,M,S]) Y
    .rename_i G;exact u D B (by simp[aV,dZ,G,E,hneg,N,M,S]) Y
    .exact Y.elim
   .exact h.elim
  .exact h.elim
 |index t x ix=>
  simp only[W0.op]at h;split at h
  .rename_i N;obtain⟨s,k,i,y,E,O,M,Y,g5⟩:=h;have hneg:¬i<0:=by omega
   exact u D B (by simp[aV,xo,N,E,O,hneg,Y]) g5
  .rename_i len e N;split at h
   .rename_i ag n hag S;obtain⟨cs,k,i,v,E,O,M,Y,g5,g6⟩:=h;refine u D B ?_ g6;simp only[aV,xo,N,E,O];rw[if_pos ⟨M,Y⟩,S];simp only[Tk,rZ hag S g5];rfl
   .exact h.elim
  .exact h.elim
 |extract x i=>obtain⟨vs,v,E,O,M⟩:=h;exact u D B (by simp[aV,E,O]) M
 |call c=>
  simp only[W0.op]at h;split at h
  .rename_i hc;split at h
   .rename_i x e ha ht;obtain⟨n,E,O⟩:=h;refine u D B ?_ O;cases G:ρ x<;>rw[G]at E<;>first|(cases E;done)|simp[aV,hc,ha,bj,G,ht,E]
   .rename_i x ha ht;obtain⟨s,E,O⟩:=h;exact u D B (by simp[aV,hc,ha,bj,E,ht]) O
   .rename_i x n e ha ht;split at h
    .exact h.elim
    .rename_i hne;refine u D B ?_ h;cases G:ρ x<;>first|(exact absurd G (hne _))|simp[aV,hc,ha,bj,G,ht]
   .exact h.elim
  .rename_i hc;split at h
   .rename_i s x t tx ha ht;split at h
    .rename_i e e' N hux;split at h
     .rename_i n by_ z S hby hz;split at h
      .rename_i Z;obtain⟨l,m,E,O,M,Y,g5,g6⟩:=h;have r1:=DA B E;have r2:=DA B O;have key:∀v H',cX P H b t (ρ s) (ρ x)=some (v,H')->aV P F (.call c) ρ b H=some (.val v H'):=λv H' hv=>by simp only[aV,hc,ha,Sx,S6,bj,ht,hux,hv];rfl
       have hz':(dU P e).bind AV.cells? =some z:=hz;split at g6
       .rename_i G;by_cases hm:m.length=0
        .exact u D B (key _ _ (by rw[G]at r1 ⊢;simp only[cX,N,S,hby,hz',r1,r2];rw[if_pos ⟨M,Y,Z.2,Z.1,g5⟩,if_pos hm])) (g6.1 hm)
        .exact gU D B hlt h0 ⟨by simp[W0.makes,hc],by simp[af]⟩ (key _ _ (by rw[G]at r1 ⊢;simp only[cX,N,S,hby,hz',r1,r2];rw[if_pos ⟨M,Y,Z.2,Z.1,g5⟩,if_neg hm])) (g6.2 hm b hnb)
       .rename_i G;by_cases hm:m.length=0
        .exact u D B (key _ _ (by rw[G]at r1 ⊢;simp only[cX,N,S,hby,hz',r1,r2];rw[if_pos ⟨M,Y,Z.2,Z.1,g5⟩,if_pos hm])) (g6.1 hm)
        .exact gU D B hlt h0 ⟨by simp[W0.makes,hc],by simp[af]⟩ (key _ _ (by rw[G]at r1 ⊢;simp only[cX,N,S,hby,hz',r1,r2];rw[if_pos ⟨M,Y,Z.2,Z.1,g5⟩,if_neg hm])) (g6.2 hm b hnb)
       .rename_i b' i' k' G;obtain⟨y,L',k1,k2⟩:=g6;have f1:=mK.del (b:=b) D B k1;have hb':b≠b':=λe=>by have:=B.get _ (k1.perm.mem_iff.2 T5);rw[<-e,h0]at this;cases this
        have f2:mK b L' (H.put b' none) ((b,⟨n,l++m⟩)::L') ((H.put b' none).new b ⟨n,l++m⟩):=.new f1.bd f1.sub hlt (by rw[ae.get_put,if_neg (λe=>hb' e.symm)];exact h0) _;exact .inl ⟨_,_,_,key _ _ (by rw[G]at r1 ⊢;simp only[cX,N,S,hby,hz',r1,r2];rw[if_pos ⟨M,Y,Z.2,Z.1,g5⟩]),f1.trans f2,λ_=>⟨by simp[W0.makes,hc],by simp[af]⟩,k2 b hnb⟩
       .exact g6.elim
      .exact h.elim
     .exact h.elim
    .exact h.elim
   .exact h.elim
  .rename_i hc;split at h
   .rename_i x y ha;obtain⟨k,a,d,E,O,M⟩:=h;exact u D B (by simp[aV,hc,ha,bj,E,O]) M
   .exact h.elim
  .rename_i hc;split at h
   .rename_i x y ha;obtain⟨k,a,d,E,O,M⟩:=h;exact u D B (by simp[aV,hc,ha,bj,E,O]) M
   .exact h.elim
  .rename_i hc;split at h
   .rename_i x t ha ht;split at h
    .rename_i e N;split at h
     .rename_i n z S hz;have hz':(dU P e).bind AV.cells? =some z:=hz;split at h
      .rename_i Z;have key:∀H',fj P H t (ρ x)=some H'->aV P F (.call c) ρ b H=some (.val (.tup []) H'):=λH' hv=>by simp only[aV,hc,ha,Sx,S6,bj,ht,hv];rfl
       unfold W0.clearR at h;split at h
       .rename_i G;exact u D B (key _ (by rw[G];simp only[fj,N,S,hz'])) h
       .rename_i d i k G;obtain⟨y,L',E,O,M,Y⟩:=h;have hg:=B.get _ M.mem;simp only at hg;refine .inl ⟨_,_,L',key _ ?_,.put D B M,λhm=>absurd (M.names▸hm) hnb,Y⟩;rw[G];simp only[fj,N,S,hz',hg];rw[if_pos ⟨⟨E,Z.1.1⟩,⟨Z.1.2,O⟩,Z.2⟩]
       .exact h.elim
      .exact h.elim
     .exact h.elim
    .exact h.elim
   .exact h.elim
  .rename_i f hc;split at h
   .rename_i g cs hf;exact .inr ⟨g,_,by simp[aV,hc,hf],h⟩
   .exact h.elim
  .exact h.elim
 |makeMap t r=>
  cases r with
  |none=>exact gU D B hlt h0 ⟨rfl,by simp[af]⟩ rfl (h b hnb)
  |some r=>exact h.elim
 |lookup t m k ok=>
  simp only[W0.op]at h;split at h
  .rename_i kt et N;split at h
   .rename_i z hk hz;unfold W0.lookR at h;split at h
    .rename_i c s hm hks;obtain⟨x,E,O,M⟩:=h;have hg:=B.get _ E;simp only at hg;refine u D B ?_ M;simp only[aV,jy,N,hm,hks,hk,hz,hg];rw[if_pos O];rfl
    .exact h.elim
   .exact h.elim
  .exact h.elim
 |mapUpdate t m k x=>
  simp only[W0.op]at h;split at h
  .rename_i kt et N;split at h
   .rename_i hk;unfold W0.mupR at h;split at h
    .rename_i c s hm hks;obtain⟨y,L',E,O,M,Y⟩:=h;have hg:=B.get _ M.mem;simp only at hg;refine .inl ⟨_,_,L',?_,.put D B M,λhm=>absurd (M.names▸hm) hnb,Y⟩;simp only[aV,eX,N,hm,hks,hk,hg];rw[if_pos ⟨E,O⟩];rfl
    .exact h.elim
   .exact h.elim
  .exact h.elim
 |range t x=>
  simp only[W0.op]at h;split at h
  .rename_i N;obtain⟨s,G,h1⟩:=h;exact gU D B hlt h0 ⟨rfl,by simp[af]⟩ (by simp only[aV,N,G]) (h1 b hnb)
  .exact h.elim
 |next it s=>
  cases s with
  |false=>exact h.elim
  |true=>
   simp only[W0.op]at h;unfold W0.nextR at h;split at h
   .rename_i c hi;obtain⟨x,s,k,pos,E,O,M⟩:=h;have hg:=B.get _ E;simp only at hg;split at M
    .rename_i hp;obtain⟨L',Y,g5⟩:=M;refine .inl ⟨_,_,L',?_,.put D B Y,λhm=>absurd (Y.names▸hm) hnb,g5⟩;simp only[aV,iq,hi,hg,O];rw[if_pos hp];rfl
    .rename_i hp;refine u D B ?_ M;simp only[aV,iq,hi,hg,O];rw[if_neg hp];rfl
   .exact h.elim
 |_=>exact h.elim
end
end
end Go.Proofs.YtbofdbhnbodbiaaGreatDoor.Am
