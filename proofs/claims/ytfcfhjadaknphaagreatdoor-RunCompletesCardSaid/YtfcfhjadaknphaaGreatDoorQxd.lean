/- part -/
import Derived.Test.YtfcfhjadaknphaaGreatDoorQxc
import Derived.WalkSpells
import Derived.Deep.DeepMust
set_option linter.all false
set_option maxRecDepth 100000
set_option maxHeartbeats 0
namespace Go.Proofs.YtfcfhjadaknphaaGreatDoor.Am
section
open Go.RowKit
abbrev SH:=List (Nat×Blk)
abbrev SH.names(L:SH):List Nat:=L.map Prod.fst
structure lV(L:SH)(H:af):Prop where
 nd:L.names.Nodup
 get:∀p∈L,H.get p.1=some p.2
structure Fr(B:Nat)(L:SH)(H:af)(L':SH)(H':af):Prop where
 next:H.next<=H'.next
 bd:Bd H'
 sub:lV L' H'
 keep:∀b x,H.get b=some x->b∉L.names->H'.get b=some x/\b∉L'.names
 dom:∀b,b<B->H.get b=none->H'.get b=none
 fresh:∀b,b∈L'.names->b<B->b∈L.names
theorem lV.mem{L:SH}{H:af}(h:lV L H){b:Nat}(j:b∈L.names):∃x,(b,x)∈L/\H.get b=some x:=by obtain⟨p,hp,rfl⟩:=Xi.1 j;exact⟨p.2,hp,h.get p hp⟩
theorem lV.congr{L:SH}{H H':af}(h:lV L H)(j:∀b,H'.get b=H.get b):lV L H':=⟨h.nd,λp hp=>by rw[j];exact h.get p hp⟩
theorem Fr.refl{B:Nat}{L:SH}{H:af}(j:Bd H)(h:lV L H):Fr B L H L H:=⟨Fd _,j,h,λ_ _ D u=>⟨D,u⟩,λ_ _ h=>h,λ_ h _=>h⟩
theorem Fr.trans{B M:Nat}{L G L'':SH}{H H' H'':af}(h:Fr B L H G H')(k:Fr M G H' L'' H'')(E:B<=M):Fr B L H L'' H'' where
 next:=W5 h.next k.next
 bd:=k.bd
 sub:=k.sub
 keep:=λb x u j=>by obtain⟨Y,S⟩:=h.keep b x u j;exact k.keep b x Y S
 dom:=λb D O=>k.dom b (Xf D E) (h.dom b D O)
 fresh:=λb u j=>h.fresh b (k.fresh b u (Xf j E)) j
theorem Fr.low{B D:Nat}{L u:SH}{H H':af}(h:Fr D L H u H')(j:B<=D):Fr B L H u H':=
 ⟨h.next,h.bd,h.sub,h.keep,λb E=>h.dom b (Xf E j),λb M G=>h.fresh b M (Xf G j)⟩
theorem lV.perm{L j:SH}{H:af}(h:lV L H)(hp:L.Perm j):lV j H:=⟨(hp.map Prod.fst).nodup_iff.1 h.nd,λp u=>h.get p (hp.mem_iff.2 u)⟩
theorem lV.left{K R:SH}{H:af}(h:lV (K++R) H):lV K H:=⟨by have:=h.nd;unfold SH.names at *;rw[WL]at this;exact(X1.1 this).1,λp hp=>h.get p (XK _ hp)⟩
theorem lV.right{K R:SH}{H:af}(h:lV (K++R) H):lV R H:=⟨by have:=h.nd;unfold SH.names at *;rw[WL]at this;exact(X1.1 this).2.1,λp hp=>h.get p (W8 _ hp)⟩
theorem lV.disj{K R:SH}{H:af}(h:lV (K++R) H){b:Nat}(j:b∈K.names)(h2:b∈R.names):False:=by have:=h.nd;unfold SH.names at *;rw[WL]at this;exact(X1.1 this).2.2 b j b h2 rfl
theorem Fr.frame{B:Nat}{K G R L:SH}{H H':af}(h:Fr B K H G H')(S:L.Perm (K++R))(Y:lV L H):Fr B L H (G++R) H':=by
 have D:=Y.perm S;have M:∀p∈R,H'.get p.1=some p.2/\p.1∉G.names:=λp hp=>
  h.keep p.1 p.2 (D.right.get p hp) (λj=>D.disj j (Xs hp))
 have O:∀b,b∈L.names↔b∈K.names\/b∈R.names:=λb=>by rw[(S.map Prod.fst).mem_iff,WL,WM]
 refine⟨h.next,h.bd,⟨?_,λp hp=>?_⟩,λb x u E=>?_,h.dom,λb u E=>?_⟩
 .unfold SH.names;rw[WL,X1];refine⟨h.sub.nd,D.right.nd,λa ha b hb Z=>?_⟩;subst Z;obtain⟨p,hp,rfl⟩:=Xi.1 hb;exact(M p hp).2 ha
 .rcases WM.1 hp with hp|hp
  .exact h.sub.get p hp
  .exact(M p hp).1
 .rw[O]at E;have h3:b∉K.names:=λj=>E (.inl j)
  obtain⟨a1,a2⟩:=h.keep b x u h3;refine⟨a1,λj=>?_⟩;unfold SH.names at j;rw[WL,WM]at j;rcases j with j|j
  .exact a2 j
  .exact E (.inr j)
 .unfold SH.names at u;rw[WL,WM]at u;rw[O];rcases u with u|u
  .exact .inl (h.fresh b u E)
  .exact .inr u
section
variable {P:Program} {F:TypeId->Option (List TypeId)} {w w':World} {σ σ':bR} {T T':Nat->Prop}
theorem bN.shrink{a:AV}{v:Value}(h:bN w σ T a v)(hT:∀c,T' c->T c):bN w σ T' a v:=by
 induction h with
 |int k n=>exact .int k n
 |bool b=>exact .bool b
 |str s=>exact .str s
 |nilp=>exact .nilp
 |ptr b i G E h hp=>exact .ptr b i G E h hp
 |mp b E h h1 Z=>exact .mp b E h h1 Z
 |it b E h h1 Z=>exact .it b E h h1 Z
 |pptr j i G b o sz D h B=>exact .pptr j i G b o sz (D.shrink hT) B
 |nils=>exact .nils
 |emp a=>exact .emp a
 |sl b i n E a u h hp Y O ha=>exact .sl b i n E a u h hp Y O ha
 |lst0 a u O=>exact .lst0 a u O
 |lst j b o sz u D Y O h B=>exact .lst j b o sz u (D.shrink hT) Y O B
 |agg S M D h B=>exact .agg S M D B
 |tup S M D h B=>exact .tup S M D B
 |fn f S M D h B=>exact .fn f S M D B
 |nilf=>exact .nilf
 |junk v=>exact .junk v
theorem vU.shrink{x:Blk}{B:cR}{cs:Array Value}{e:TypeId}(h:vU w σ T x B cs e)(D:∀c,T' c->T c):vU w σ T' x B cs e:=
 ⟨h.size,h.block,h.even,h.room,λi r j a u M G E=>(h.rep i r j a u M G E).shrink D⟩
theorem ld.shrink{x:Blk}{j:cR}{cs:Array Value}{e:TypeId}(h:ld w σ T x j cs e)(u:∀c,T' c->T c):ld w σ T' x j cs e:=⟨λhp=>(h.1 hp).shrink u,h.2⟩
theorem bB.less{H H':af}(h:∀b x,H'.get b=some x->H.get b=some x)(c:Nat)(j:bB σ H' c):bB σ H c:=by
 rcases j with j|⟨b,x,u,E,D,B⟩
 .exact .inl j
 .exact .inr ⟨b,x,u,h b x E,D,B⟩
theorem bQ.less{H H':af}(u:bQ w σ H)(h:∀b x,H'.get b=some x->H.get b=some x)(Y:H.next<=H'.next):bQ w σ H' where
 named:=λb j G=>Xf (u.named b j G) Y
 lt:=u.lt
 live:=λb x G=>by obtain⟨j,cs,e,D,B⟩:=u.live b x (h b x G);exact⟨j,cs,e,D,B.shrink (bB.less h)⟩
 apart:=λc O=>⟨(u.apart c O).1,λ⟨b,x,j,D,B,Z⟩=>(u.apart c O).2 ⟨b,x,j,h b x D,B,Z⟩⟩
 inj:=λb S x M j E D B=>u.inj b S x M j E (h b x D) (h S M B)
 glob:=u.glob.less (bB.less h)
def Ud(τ:List AV)(H:af)(τ1:List AV)(H1:af):Prop:=
 H.next<=H1.next/\(∀b x,H1.get b=some x->H.get b=some x)/\∀(w:World) (σ:bR) (a:Act),bQ w σ H->c6 w σ (bB σ H) τ a->c6 w σ (bB σ H1) τ1 a
variable {c c1 c2:Code} {τ τ1 τ2:List AV} {H H1 H2:af} {e:Ex}
theorem du.shift(h:du P c τ H e τ1 H1)(k:Ud τ1 H1 τ2 H2):du P c τ H e τ2 H2:=by refine⟨W5 h.1 k.1,λw σ a G u Q M=>h.2 w σ a G u Q λD w' B=>M D w' ?_⟩;obtain⟨σ',t,r,j,m⟩:=B;exact⟨σ',k.2.2 w' σ' D r t,r.less k.2.1 k.1,⟨j.os,j.tape,j.output,j.size,j.keep,j.shape,j.sig,j.eqfr,j.frame,λc E=>j.own c (bB.less k.2.1 c E)⟩,m⟩
theorem du.seq(h:du P c1 τ H .normal τ1 H1)(k:du P c2 τ1 H1 e τ2 H2):du P (.seq c1 c2) τ H e τ2 H2:=by refine⟨W5 h.1 k.1,λw σ a S B Q Y=>wp_seq (h.2 w σ a S B _ λa' w' D=>?_)⟩;obtain⟨u,G,M,Z,O⟩:=D;exact k.2 w' u a' M G Q λa2 E j=>Y a2 E (j.trans Z O h.1)
theorem du.seq_out(h:du P c1 τ H e τ1 H1)(D:e≠.normal):du P (.seq c1 c2) τ H e τ1 H1:=by
 refine⟨h.1,λw σ a E u Q B=>wp_seq (h.2 w σ a E u _ λM w' j=>?_)⟩;cases e with
 |normal=>exact absurd rfl D
 |exit G=>exact B _ _ j
 |ret=>exact B _ _ j
theorem du.cond{x:Operand}{t:Bool}(D:kV τ x=.bool t)(h:du P (if t then c1 else c2) τ H e τ1 H1):du P (.cond x c1 c2) τ H e τ1 H1:=by refine⟨h.1,λw σ a B j Q E=>wp_cond (t:=t) ?_ (h.2 w σ a B j Q E)⟩;have:=j.eval B.glob x;rw[D]at this;generalize a.eval x=u at this;cases this;rfl
def Ex.leave(id:Nat):Ex->Ex
 |.exit id'=>if id'=id then .normal else .exit id'
 |e=>e
theorem du.block{B:Nat}(h:du P c τ H e τ1 H1):du P (.block B c) τ H (e.leave B) τ1 H1:=by
 refine⟨h.1,λw σ a G D Q M=>wp_block (h.2 w σ a G D _ λO w' E=>?_)⟩;have:=M O w' E;cases e with
 |normal=>exact this
 |ret=>exact this
 |exit u=>
  simp only[Ga,Exit.inBlock];simp only[Ex.leave]at this;by_cases j:u=B
  .simp only[j,if_true]at this ⊢;exact this
  .simp only[j,if_false]at this ⊢;exact this
theorem lU.next{n:Nat}(h:du P c τ H .normal τ1 H1)(k:lU P n c τ1 H1 e τ2 H2):lU P (n+1) c τ H e τ2 H2:=by
 refine⟨W5 h.1 k.1,λw σ a S B Q Y=>?_⟩;rw[rounds_succ];refine h.2 w σ a S B _ λa' w' D=>?_
 obtain⟨u,G,M,Z,O⟩:=D;exact k.2 w' u a' M G Q λa2 E j=>Y a2 E (j.trans Z O h.1)
theorem lU.out(h:du P c τ H e τ1 H1)(D:e≠.normal):lU P 1 c τ H e τ1 H1:=by
 refine⟨h.1,λw σ a E u Q B=>?_⟩;rw[rounds_succ];refine h.2 w σ a E u _ λM w' j=>?_
 cases e with
 |normal=>exact absurd rfl D
 |exit G=>exact B _ _ j
 |ret=>exact B _ _ j
theorem lU.code{n:Nat}(h:lU P n c τ H e τ1 H1):du P (.loop c) τ H e τ1 H1:=
 ⟨h.1,λw σ a u j Q B=>wp_loop_rounds n (h.2 w σ a u j Q B)⟩
def c7(P:Program)(c:Code)(τ:List AV)(L:SH)(Q:Ex->List AV->SH->Prop):Prop:=
 ∀H,Bd H->lV L H->∃e τ' H' L',du P c τ H e τ' H'/\Fr H.next L H L' H'/\Q e τ' L'
def ac(P:Program)(f:FuncId)(args:List AV)(L:SH)(Q:AV->SH->Prop):Prop:=
 (∃fn c,P.funcs[f]? =some fn/\fn.body=some c)/\∀H,Bd H->lV L H->∃v H' L',s9 P f args H v H'/\Fr H.next L H L' H'/\Q v L'
variable {L:SH} {Q Q2:Ex->List AV->SH->Prop}
theorem c7.mono(h:c7 P c τ L Q)(D:∀e j u,Q e j u->Q2 e j u):c7 P c τ L Q2:=λH E B=>by obtain⟨e,j,S,u,O,M,G⟩:=h H E B;exact⟨e,j,S,u,O,M,D _ _ _ G⟩
theorem ac.mono{f:FuncId}{args:List AV}{R R2:AV->SH->Prop}(h:ac P f args L R)(B:∀v j,R v j->R2 v j):ac P f args L R2:=⟨h.1,λH D u=>by
 obtain⟨v,O,j,M,G,E⟩:=h.2 H D u;exact⟨v,O,j,M,G,B _ _ E⟩⟩
theorem ac.frame{f:FuncId}{args:List AV}{K R:SH}{D R2:AV->SH->Prop}(h:ac P f args K D)(B:L.Perm (K++R))(E:∀v j,D v j->R2 v (j++R)):ac P f args L R2:=⟨h.1,λH G u=>by
 obtain⟨v,Y,j,S,O,M⟩:=h.2 H G (u.perm B).left;exact⟨v,Y,j++R,S,O.frame B u,E _ _ M⟩⟩
theorem c7.stop(e:Ex)(u:∀H,du P c τ H e τ H)(h:Q e τ L):c7 P c τ L Q:=λH B j=>⟨e,τ,H,L,u H,.refl B j,h⟩
theorem c7.skip(h:Q .normal τ L):c7 P .skip τ L Q:=.stop .normal (λH=>⟨Fd _,λw σ a u j Q B=>wp_skip (B _ _ (.refl u j))⟩) h
theorem c7.exit{j:Nat}(h:Q (.exit j) τ L):c7 P (.exit j) τ L Q:=.stop (.exit j) (λH=>⟨Fd _,λw σ a B u Q D=>wp_exit (D _ _ (.refl B u))⟩) h
theorem c7.ret(h:Q .ret τ L):c7 P .ret τ L Q:=.stop .ret (λH=>⟨Fd _,λw σ a u j Q B=>wp_ret (B _ _ (.refl u j))⟩) h
theorem c7.label{l:Nat}(h:Q .normal τ L):c7 P (.label l) τ L Q:=.stop .normal (λH=>⟨Fd _,λw σ a u j Q B=>wp_label (B _ _ (.refl u j))⟩) h
theorem c7.seq(h:c7 P c1 τ L λe u G=>match e with|.normal=>c7 P c2 u G Q|e=>Q e u G):c7 P (.seq c1 c2) τ L Q:=λH Z Y=>by
 obtain⟨e,τ1,H1,E,D,j,B⟩:=h H Z Y;cases e with
 |normal=>obtain⟨e,τ2,H2,L2,S,O,M⟩:=B H1 j.bd j.sub;exact⟨e,τ2,H2,L2,D.seq S,j.trans O j.next,M⟩
 |exit id=>exact⟨_,τ1,H1,E,D.seq_out YF,j,B⟩
 |ret=>exact⟨_,τ1,H1,E,D.seq_out YF,j,B⟩
theorem c7.cond{x:Operand}{t:Bool}(u:kV τ x=.bool t)(h:c7 P (if t then c1 else c2) τ L Q):c7 P (.cond x c1 c2) τ L Q:=λH B j=>by obtain⟨e,τ1,H1,M,G,E,D⟩:=h H B j;exact⟨e,τ1,H1,M,G.cond u,E,D⟩
theorem c7.block{u:Nat}(h:c7 P c τ L λe j S=>Q (e.leave u) j S):c7 P (.block u c) τ L Q:=λH D B=>by obtain⟨e,τ1,H1,O,M,G,E⟩:=h H D B;exact⟨_,τ1,H1,O,M.block,G,E⟩
theorem c7.loop(I:Nat->List AV->SH->Prop)(hs:∀n τ L,I n τ L->c7 P c τ L λe j B=>match e with|.normal=>∃m,m<n/\I m j B|e=>Q e j B)(n:Nat)(h0:I n τ L):c7 P (.loop c) τ L Q:=by
 have M:∀n τ L,I n τ L->∀H,Bd H->lV L H->∃k e j G B,lU P k c τ H e j G/\Fr H.next L H B G/\Q e j B:=by
  intro n
  induction n using Nat.strongRecOn with
  |_ n ih=>
   intro τ L hI H Y O;obtain⟨e,τ1,H1,Z,E,u,D⟩:=hs n τ L hI H Y O;cases e with
   |normal=>obtain⟨m,hm,S⟩:=D;obtain⟨k,e,τ2,H2,L2,k1,k2,k3⟩:=ih m hm τ1 Z S H1 u.bd u.sub;exact⟨k+1,e,τ2,H2,L2,.next E k1,u.trans k2 u.next,k3⟩
   |exit id=>exact⟨1,_,τ1,H1,Z,.out E YF,u,D⟩
   |ret=>exact⟨1,_,τ1,H1,Z,.out E YF,u,D⟩
 intro H Y O;obtain⟨k,e,j,G,B,E,u,D⟩:=M n τ L h0 H Y O;exact⟨e,j,G,B,E.code,u,D⟩
def VX(τ τ1:List AV):Prop:=τ1.length=τ.length/\∀(i:Nat) (x:AV),τ1[i]? =some x->x=.junk\/τ[i]? =some x
theorem VX.tmps{T:Nat->Prop}{a:Act}(h:VX τ τ1)(ht:c6 w σ T τ a):c6 w σ T τ1 a:=by
 refine⟨⟨by rw[h.1];exact ht.1.1,λi x u D B=>?_⟩,ht.2⟩;rcases h.2 i x D with rfl|j
 .exact .junk _
 .exact ht.1.2 i x u j B
theorem c7.dim(E:VX τ τ1)(h:c7 P c τ1 L Q):c7 P c τ L Q:=λH O D=>by obtain⟨e,j,H',Z,B,Y,S⟩:=h H O D;exact⟨e,j,H',Z,⟨B.1,λw σ a G u Q M=>B.2 w σ a G (E.tmps u) Q M⟩,Y,S⟩
end
end
section
open Go.RowKit
inductive zt (b:Nat) (x x':Blk):SH->SH->Prop where
 |here (L:SH):zt b x x' ((b,x)::L) ((b,x')::L)
 |there (p:Nat×Blk) {L L':SH}:zt b x x' L L'->zt b x x' (p::L) (p::L')
inductive fQ (b:Nat) (x:Blk):SH->SH->Prop where
 |here (L:SH):fQ b x ((b,x)::L) L
 |there (p:Nat×Blk) {L L':SH}:fQ b x L L'->fQ b x (p::L) (p::L')
theorem zt.mem{b:Nat}{x x':Blk}{L L':SH}(h:zt b x x' L L'):(b,x)∈L:=by
 induction h with
 |here L=>simp
 |there p h j=>simp[j]
theorem zt.names{b:Nat}{x x':Blk}{L L':SH}(h:zt b x x' L L'):L'.names=L.names:=by
 induction h with
 |here L=>rfl
 |there p h j=>simp only[WS,j]
theorem zt.get{b:Nat}{x x':Blk}{L L':SH}(h:zt b x x' L L')(hn:L.names.Nodup):∀p∈L',p=(b,x')\/(p∈L/\p.1≠b):=by
 induction h with
 |here L=>
  intro p hp;rcases WX.1 hp with rfl|hp
  .exact .inl rfl
  .refine .inr ⟨by simp[hp],λj=>?_⟩;simp only[WS,Xw]at hn;exact hn.1 (j▸Xs hp)
 |there q h u=>
  intro p hp;simp only[WS,Xw]at hn;rcases WX.1 hp with rfl|hp
  .refine .inr ⟨YF,λj=>hn.1 ?_⟩;rw[j];exact Xs (f:=Prod.fst) h.mem
  .rcases u hn.2 p hp with rfl|⟨D,B⟩
   .exact .inl rfl
   .exact .inr ⟨by simp[D],B⟩
theorem fQ.perm{b:Nat}{x:Blk}{L L':SH}(h:fQ b x L L'):L.Perm ((b,x)::L'):=by
 induction h with
 |here L=>exact .refl _
 |there p h j=>exact(j.cons p).trans (.swap _ _ _)
def RM:SH->Nat->Option Blk
 |[],_=>none
 |(c,x)::L,b=>if c=b then some x else RM L b
def Ue:SH->Nat->Blk->SH
 |[],_,_=>[]
 |(c,x)::L,b,y=>if c=b then(c,y)::L else(c,x)::Ue L b y
structure o5(b:Nat)(L:SH)(H:af)(L':SH)(H':af):Prop where
 next:H'.next=H.next
 bd:Bd H'
 sub:lV L' H'
 keep:∀c x,H.get c=some x->c∉L.names->H'.get c=some x/\c∉L'.names
 dom:∀c,c≠b->H.get c=none->H'.get c=none
 fresh:∀c,c∈L'.names->c=b\/c∈L.names
theorem o5.refl{b:Nat}{L:SH}{H:af}(hb:Bd H)(hs:lV L H):o5 b L H L H:=⟨rfl,hb,hs,λ_ _ u j=>⟨u,j⟩,λ_ _ h=>h,λ_ h=>.inr h⟩
theorem lV.not_mem{L:SH}{H:af}(hs:lV L H){b:Nat}(h:H.get b=none):b∉L.names:=λhb=>by obtain⟨x,_,j⟩:=hs.mem hb;rw[h]at j;cases j
theorem o5.new{b:Nat}{L:SH}{H:af}(hb:Bd H)(hs:lV L H)(G:b<H.next)(E:H.get b=none)(x:Blk):o5 b L H ((b,x)::L) (H.new b x) where
 next:=rfl
 bd:=λc hc=>by have B:H.next<=c:=hc;rw[af.get_new,if_neg YC];exact hb c B
 sub:=⟨by simp only[WS,Xw];exact⟨hs.not_mem E,hs.nd⟩,λp hp=>by
  rcases WX.1 hp with rfl|hp
  .rw[af.get_new,if_pos rfl]
  .have:=hs.get p hp;rw[af.get_new,if_neg]
   .exact this
   .intro u;rw[<-u,E]at this;cases this⟩
 keep:=λc y D M=>by
  have j:b≠c:=λu=>by rw[<-u,E]at D;cases D
  refine⟨by rw[af.get_new,if_neg j];exact D,λhm=>?_⟩;simp only[WS,WX]at hm;rcases hm with hm|hm
  .exact j hm.symm
  .exact M hm
 dom:=λc hc h=>by rw[af.get_new,if_neg (λe=>hc e.symm)];exact h
 fresh:=λc hc=>by simpa using hc
theorem o5.put{b c:Nat}{L L':SH}{H:af}{x x':Blk}(hb:Bd H)(hs:lV L H)(u:zt c x x' L L'):o5 b L H L' (H.put c (some x')) where
 next:=rfl
 bd:=λd D=>by have B:H.next<=d:=D;have j:=hs.get _ u.mem;rw[af.get_put,if_neg (λe=>by subst e;rw[hb _ B]at j;cases j)];exact hb d B
 sub:=⟨by rw[u.names];exact hs.nd,λp hp=>by
  rcases u.get hs.nd p hp with rfl|⟨j,E⟩
  .rw[af.get_put,if_pos rfl]
  .rw[af.get_put,if_neg (λe=>E e.symm)];exact hs.get p j⟩
 keep:=λd y j E=>by
  have G:c≠d:=λe=>E (e▸Xs (f:=Prod.fst) u.mem)
  exact⟨by rw[af.get_put,if_neg G];exact j,by rw[u.names];exact E⟩
 dom:=λd _ h=>by
  rw[af.get_put,if_neg]
  .exact h
  .intro e;have j:=hs.get _ u.mem;rw[e,h]at j;cases j
 fresh:=λd D=>by rw[u.names]at D;exact .inr D
theorem o5.del{b c:Nat}{L L':SH}{H:af}{x:Blk}(hb:Bd H)(hs:lV L H)(G:fQ c x L L'):o5 b L H L' (H.put c none):=by
 have u:lV ((c,x)::L') H:=hs.perm G.perm;have hn:∀d,d∈L.names↔d=c\/d∈L'.names:=λd=>by rw[(G.perm.map Prod.fst).mem_iff];simp
 have j:=u.nd;simp only[WS,Xw]at j;refine⟨rfl,λd D=>?_,⟨j.2,λp hp=>?_⟩,λd y M E=>?_,λd _ h=>?_,λd D=>.inr ((hn d).2 (.inr D))⟩
 .have B:H.next<=d:=D;rw[af.get_put];split
  .rfl
  .exact hb d B
 .rw[af.get_put,if_neg (λ(e:c=p.1)=>j.1 (e▸Xs (f:=Prod.fst) hp))];exact u.get p (by simp[hp])
 .rw[hn]at E;refine⟨by rw[af.get_put,if_neg (λe=>E (.inl e.symm))];exact M,λh=>E (.inr h)⟩
 .rw[af.get_put];split
  .rfl
  .exact h
theorem o5.trans{b:Nat}{L L' L'':SH}{H H' H'':af}(h:o5 b L H L' H')(k:o5 b L' H' L'' H''):o5 b L H L'' H'' where
 next:=k.next.trans h.next
 bd:=k.bd
 sub:=k.sub
 keep:=λc x j u=>by obtain⟨D,a2⟩:=h.keep c x j u;exact k.keep c x D a2
 dom:=λc hc B=>k.dom c hc (h.dom c hc B)
 fresh:=λc hc=>by
  rcases k.fresh c hc with j|j
  .exact .inl j
  .exact h.fresh c j
namespace W0
def rowLd(ag:Bool)(n:Nat)(row:List AV)(off:Nat):Option AV:=
 if ag then(if off+n<=row.length then some (.agg ((row.drop off).take n))else none)else row[off]?
def fillR(cells:List AV):List (Nat×Nat×AV)->Option (List AV)
 |[]=>some cells
 | (off,size,v)::rest=>match v.cells? with
  |some cs=>if cs.length=size/\off+size<=cells.length/\cs.all AV.one then fillR (bL cells off cs) rest else none
  |none=>none
section
variable (P:Program) (F:TypeId->Option (List TypeId))
def opt(x:Option AV)(K:AV->Prop):Prop:=∃v,x=some v/\K v
def pick(c x y:AV)(K:AV->Prop):Prop:=∃t,c=.bool t/\K (if t then x else y)
def un(op:UnOp)(x:AV)(K:AV->Prop):Prop:=opt (VV op x) K
def bin(op:BinOp)(t:TypeId)(x y:AV)(K:AV->Prop):Prop:=opt (iO P F op t x y) K
def conv(k:IntKind)(x:AV)(K:AV->Prop):Prop:=∃k' n,x=.int k' n/\K (.int k (k.wrap n))
def convS(x:AV)(K:AV->Prop):Prop:=∃s,x=.str s/\K (.str s)
def faddr(off:Nat)(x:AV)(K:AV->Prop):Prop:=match x with
 |.ptr b i o=>K (.ptr b i (o+off))
 |.pptr rows i o=>K (.pptr rows i (o+off))
 |_=>False
def fld(ag:Bool)(n off:Nat)(x:AV)(K:AV->Prop):Prop:=∃cs v,x=.agg cs/\rowLd ag n cs off=some v/\K v
def loadR(ag:Bool)(n:Nat)(a:AV)(L:SH)(K:AV->Prop):Prop:=match a with
 |.ptr b i off=>∃x r v,(b,x)∈L/\x.rows[i]? =some r/\rowLd ag n r off=some v/\K v
 |.pptr rows i off=>∃r v,rows[i]? =some r/\rowLd ag n r off=some v/\K v
 |_=>False
def storeR(n:Nat)(a v:AV)(L:SH)(K:SH->Prop):Prop:=match a with
 |.ptr b i off=>∃x r cs L',x.rows[i]? =some r/\v.cells? =some cs/\cs.length=n/\cs.all AV.one=true/\off+n<=r.length/\zt b x ⟨x.size,x.rows.set i (bL r off cs)⟩ L L'/\K L'
 |_=>False
def idxR(n:Nat)(x ix:AV)(L:SH)(K:AV->Prop):Prop:=match x with
 |.sl b j m=>∃k i y,ix=.int k i/\0<=i/\i.toNat<m/\(b,y)∈L/\y.size=n/\K (.ptr b (j+i.toNat) 0)
 |.lst rows=>∃k i r,ix=.int k i/\0<=i/\rows[i.toNat]? =some r/\r.length=n/\K (.pptr rows i.toNat 0)
 |_=>False
def idxP(len n:Nat)(x ix:AV)(K:AV->Prop):Prop:=∃k i,ix=.int k i/\0<=i/\i.toNat<len/\(match x with
 |.ptr b j off=>K (.ptr b j (off+i.toNat*n))
 |.pptr rows j off=>K (.pptr rows j (off+i.toNat*n))
 |_=>False)
def ixS(x ix:AV)(K:AV->Prop):Prop:=∃s k i b,x=.str s/\ix=.int k i/\0<=i/\s[i.toNat]? =some b/\K (.int .u8 b.toNat)
def ixA(ag:Bool)(len n:Nat)(x ix:AV)(K:AV->Prop):Prop:=∃cs k i v,x=.agg cs/\ix=.int k i/\0<=i/\i.toNat<len/\rowLd ag n cs (i.toNat*n)=some v/\K v
def ext(i:Nat)(x:AV)(K:AV->Prop):Prop:=∃vs v,x=.tup vs/\vs[i]? =some v/\K v
def nilchk(x:AV)(K:AV->Prop):Prop:=match x with
 |.ptr b i off=>K (.ptr b i off)
 |.pptr rows i off=>K (.pptr rows i off)
 |.fn f cs=>K (.fn f cs)
 |_=>False
def build(z:List AV)(parts:List (Nat×Nat×AV))(K:AV->Prop):Prop:=∃cs,fillR z parts=some cs/\K (.agg cs)
def alloc(cs:List AV)(L:SH)(K:AV->SH->Prop):Prop:=∀b,b∉L.names->K (.ptr b 0 0) ((b,⟨cs.length,[cs]⟩)::L)
def box(x:AV)(L:SH)(K:AV->SH->Prop):Prop:=∃cs,x.cells? =some cs/\cs.all AV.one=true/\∀b,b∉L.names->K (.ptr b 0 0) ((b,⟨cs.length,[cs]⟩)::L)
def bslice(n:Nat)(z:List AV)(len:Nat)(parts:List (Nat×AV))(L:SH)(K:AV->SH->Prop):Prop:=
 len*n<=2^24/\∃rows,fw n (List.replicate len z) parts=some rows/\∀b,b∉L.names->K (.sl b 0 len) ((b,⟨n,rows⟩)::L)
def mslice(n by_:Nat)(z:List AV)(l c:AV)(L:SH)(K:AV->SH->Prop):Prop:=
 ∃(k k':IntKind) (i j:Nat),l=.int k i/\c=.int k' j/\i<=j/\j<=2^62/\j*by_<=2^48/\∀b,b∉L.names->K (.sl b 0 i) ((b,⟨n,List.replicate i z⟩)::L)
def rowsR(L:SH)(n:Nat)(s:AV)(rows:List (List AV)):Prop:=match s with
 |.nils=>rows=[]
 |.emp=>rows=[]
 |.lst l=>rows=l/\∀r,l.head? =some r->r.length=n
 |.sl b i k=>∃x,(b,x)∈L/\x.size=n/\i+k<=x.rows.length/\rows=(x.rows.drop i).take k
 |_=>False
def appendR(n by_:Nat)(s x:AV)(L:SH)(K:AV->SH->Prop):Prop:=
 ∃l m,rowsR L n s l/\rowsR L n x m/\2*(l.length+m.length)*by_<=2^48/\2*(l.length+m.length)<=2^62/\(m.all λr=>r.all AV.one)=true/\
 (match s with
  |.nils=>(m.length=0->K .nils L)/\(m.length≠0->∀b,b∉L.names->K (.sl b 0 m.length) ((b,⟨n,m⟩)::L))
  |.emp=>(m.length=0->K .emp L)/\(m.length≠0->∀b,b∉L.names->K (.sl b 0 m.length) ((b,⟨n,m⟩)::L))
  |.sl b' _ _=>∃y L',fQ b' y L L'/\∀b,b∉L.names->K (.sl b 0 (l.length+m.length)) ((b,⟨n,l++m⟩)::L')
  |_=>False)
def len(x:AV)(K:AV->Prop):Prop:=∃n:Nat,Ip x=some n/\K (.int .i64 (n:Int))
def lenS(x:AV)(K:AV->Prop):Prop:=∃s,x=.str s/\K (.int .i64 (s.length:Int))
def mnx(mx:Bool)(x y:AV)(K:AV->Prop):Prop:=∃k a c,x=.int k a/\y=.int k c/\K (.int k (if mx then(if c > a then c else a)else(if c<a then c else a)))
def sliceR(n:Nat)(x:AV)(lo hi mx:Option AV)(L:SH)(K:AV->Prop):Prop:=
 ∃len l h m,Ip x=some len/\cZ lo 0=some l/\cZ hi len=some h/\cZ mx len=some m/\l<=h/\h<=m/\m<=len/\
 (match x with
  |.nils=>K .nils
  |.sl b i _=>(∃y,(b,y)∈L/\y.size=n)/\K (.sl b (i+l) (h-l))
  |.lst rows=>(mx.isSome=false/\∀r,rows.head? =some r->r.length=n)/\K (.lst ((rows.drop l).take (h-l)))
  |_=>False)
def sliceS(x:AV)(lo hi:Option AV)(K:AV->Prop):Prop:=
 ∃s l h,x=.str s/\cZ lo 0=some l/\cZ hi s.length=some h/\l<=h/\h<=s.length/\K (.str ((s.drop l).take (h-l)))
def store(n:Nat)(a v:AV)(L:SH)(K:SH->Prop):Prop:=match a with
 | .ptr b i off=>(match RM L b with
  | some x=>(match x.rows[i]?,v.cells? with
   |some r,some cs=>(cs.length=n/\cs.all AV.one=true/\off+n<=r.length)/\K (Ue L b ⟨x.size,x.rows.set i (bL r off cs)⟩)
   |_,_=>False)
  |none=>False)
 |_=>False
def slice(n:Nat)(x:AV)(lo hi mx:Option AV)(L:SH)(K:AV->Prop):Prop:=match Ip x with
 | some len=>(match cZ lo 0,cZ hi len,cZ mx len with
  | some l,some h,some m=>(l<=h/\h<=m/\m<=len)/\(match x with
   |.nils=>K .nils
   | .sl b i _=>(match RM L b with
    |some y=>y.size=n/\K (.sl b (i+l) (h-l))
    |none=>False)
   |.lst rows=>(mx.isSome=false/\∀r,rows.head? =some r->r.length=n)/\K (.lst ((rows.drop l).take (h-l)))
   |_=>False)
  |_,_,_=>False)
 |none=>False
def clearR(n:Nat)(z:List AV)(x:AV)(L:SH)(K:SH->Prop):Prop:=match x with
 |.nils=>K L
 |.sl b i k=>∃y L',y.size=n/\i+k<=y.rows.length/\zt b y ⟨y.size,y.rows.take i++List.replicate k z++y.rows.drop (i+k)⟩ L L'/\K L'
 |_=>False
def mkmap(L:SH)(K:AV->SH->Prop):Prop:=∀b,b∉L.names->K (.mp b) ((b,⟨0,[]⟩)::L)
def found(z:AV)(ok:Bool)(r:Option (Nat×AV)):AV:=match r with
 |some (_,v)=>if ok then .tup [v,.bool true]else v
 |none=>if ok then .tup [z,.bool false]else z
def lookR(z:AV)(ok:Bool)(m k:AV)(L:SH)(K:AV->Prop):Prop:=match m,k with
 |.mp b,.str s=>∃x,(b,x)∈L/\x.rows.all ue=true/\K (found z ok (iK s x.rows 0))
 |_,_=>False
def putR(s:List UInt8)(v:AV)(rows:List (List AV)):List (List AV):=match iK s rows 0 with
 |some (i,_)=>rows.set i [.str s,v]
 |none=>rows++[[.str s,v]]
def mupR(m k v:AV)(L:SH)(K:SH->Prop):Prop:=match m,k with
 |.mp b,.str s=>∃x L',x.rows.all ue=true/\v.konst=true/\zt b x ⟨x.size,putR s v x.rows⟩ L L'/\K L'
 |_,_=>False
def rngS(x:AV)(L:SH)(K:AV->SH->Prop):Prop:=∃s,x=.str s/\∀b,b∉L.names->K (.it b) ((b,⟨0,[[.str s,.int .i64 0]]⟩)::L)
def nextR(it:AV)(L:SH)(K:AV->SH->Prop):Prop:=match it with
  | .it b => ∃ x s k pos, (b, x) ∈ L /\ x.rows = [[.str s, .int k pos]]/\
      (if pos<s.length then∃L',zt b x ⟨x.size,[[.str s,.int .i64 ((pos.toNat+(Utf8.decode ⟨s.toArray⟩ pos.toNat).2:Nat):Int)]]⟩ L L'/\K (.tup [.bool true,.int .i64 pos,.int .i32 (Utf8.decode ⟨s.toArray⟩ pos.toNat).1]) L'
       else K (.tup [.bool false]) L)
  |_=>False
def zof(t:TypeId):Option (List AV):=(fa P t).bind AV.cells?
def op(o:Op)(ρ:Operand->AV)(L:SH)(K:AV->SH->Prop):Prop:=
 let k:=λv=>K v L
 match o with
 |.move x|.assign x=>K (ρ x) L
 |.pick c x y=>pick (ρ c) (ρ x) (ρ y) k
 | .alloc t=>match zof P t with
  |some cs=>alloc cs L K
  |none=>False
 |.box _ x=>box (ρ x) L K
 | .build t parts=>match P.underlying t,fa P t with
  | some (.struct fs),some (.agg z)=>if(fs.toList.all λf=>(bj P f.type).isSome)=true then
    (match ee (parts.toList.map λp=>(kX P fs p.1).map λq=>(q.1,q.2,ρ p.2))with
     |some ps=>build z ps k
     |none=>False)
   else False
  | some (.array _ e),some (.agg z)=>(match bj P e with
   |some n=>build z (parts.toList.map λp=>(p.1*n,n,ρ p.2)) k
   |none=>False)
  |_,_=>False
 | .buildSlice t len parts=>match P.underlying t with
  | some (.slice e)=>match bj P e,zof P e with
   |some n,some z=>if z.length=n/\0<n then bslice n z len (parts.toList.map λp=>(p.1,ρ p.2)) L K else False
   |_,_=>False
  |_=>False
 | .load t a=>match ff P t,bj P t with
  |some ag,some n=>loadR ag n (ρ a) L k
  |_,_=>False
 | .store t a x=>match bj P t with
  |some n=>storeR n (ρ a) (ρ x) L (K (.tup []))
  |none=>False
 |.nilCheck x=>nilchk (ρ x) k
 |.binOp op t x y _=>bin P F op t (ρ x) (ρ y) k
 |.unOp op _ x=>un op (ρ x) k
 | .convert s d x=>match P.underlying s,P.underlying d with
  |some (.int _),some (.int kd)=>conv kd (ρ x) k
  |some .string,some .string=>convS (ρ x) k
  |_,_=>False
 |.makeFunc (.func f) first cap=>if first.size=0 then K (.fn f (cap.toList.map ρ)) L else False
 | .makeSlice t l c=>match P.underlying t with
  | some (.slice e)=>match bj P e,iN P e,zof P e with
   |some n,some by_,some z=>if z.length=n/\0<n then mslice n by_ z (ρ l) (ρ c) L K else False
   |_,_,_=>False
  |_=>False
 | .slice t x lo hi mx=>if(hi.isNone&&mx.isSome)=true then False else match P.underlying t with
  | some (.slice e)=>(match bj P e with
   |some n=>sliceR n (ρ x) (lo.map ρ) (hi.map ρ) (mx.map ρ) L k
   |none=>False)
  |some .string=>if mx.isNone=true then sliceS (ρ x) (lo.map ρ) (hi.map ρ) k else False
  |_=>False
 | .fieldAddr s x f=>match P.underlying s with
  | some (.struct fs)=>match fs[f]? with
   | some f=>(match bj P f.type with
    |some n=>if n=0 then False else faddr f.offset (ρ x) k
    |none=>False)
   |none=>False
  |_=>False
 | .field s x f=>match P.underlying s with
  | some (.struct fs)=>match fs[f]? with
   | some f=>(match ff P f.type,bj P f.type with
    |some ag,some n=>fld ag n f.offset (ρ x) k
    |_,_=>False)
   |none=>False
  |_=>False
 | .indexAddr t x ix=>match P.underlying t with
  | some (.slice e)=>(match bj P e with
   |some n=>idxR n (ρ x) (ρ ix) L k
   |none=>False)
  | some (.array len e)=>(match bj P e with
   |some n=>idxP len n (ρ x) (ρ ix) k
   |none=>False)
  |_=>False
 | .index t x ix=>match P.underlying t with
  |some .string=>ixS (ρ x) (ρ ix) k
  | some (.array len e)=>(match ff P e,bj P e with
   |some ag,some n=>ixA ag len n (ρ x) (ρ ix) k
   |_,_=>False)
  |_=>False
 |.extract x i=>ext i (ρ x) k
 |.makeMap _ none=>mkmap L K
 | .lookup t m y ok=>match P.underlying t with
  | some (.map kt et)=>(match P.underlying kt,fa P et with
   |some .string,some z=>lookR z ok (ρ m) (ρ y) L k
   |_,_=>False)
  |_=>False
 | .mapUpdate t m y x=>match P.underlying t with
  | some (.map kt _)=>(match P.underlying kt with
   |some .string=>mupR (ρ m) (ρ y) (ρ x) L (K (.tup []))
   |_=>False)
  |_=>False
 | .range t x=>match P.underlying t with
  |some .string=>rngS (ρ x) L K
  |_=>False
 |.next it true=>nextR (ρ it) L K
 | .call c=>match c.callee with
  | .builtin .len=>(match c.args.toList,(c.argTypes[0]?).bind P.underlying with
   |[x],some (.slice _)=>len (ρ x) k
   |[x],some .string=>lenS (ρ x) k
   |[x],some (.array n _)=>(match ρ x with|.str _=>False|_=>K (.int .i64 n) L)
   |_,_=>False)
  | .builtin .append=>(match c.args.toList,c.argTypes.toList with
   | [s,x],[t,tx]=>(match P.underlying t,P.underlying tx with
    | some (.slice e),some (.slice _)=>(match bj P e,iN P e,zof P e with
     |some n,some by_,some z=>if z.length=n/\0<n then appendR n by_ (ρ s) (ρ x) L K else False
     |_,_,_=>False)
    |_,_=>False)
   |_,_=>False)
  | .builtin .min=>(match c.args.toList with
   |[x,y]=>mnx false (ρ x) (ρ y) k
   |_=>False)
  | .builtin .max=>(match c.args.toList with
   |[x,y]=>mnx true (ρ x) (ρ y) k
   |_=>False)
  | .builtin .clear=>(match c.args.toList,c.argTypes.toList with
   | [x],[t]=>(match P.underlying t with
    | some (.slice e)=>(match bj P e,zof P e with
     |some n,some z=>if(z.length=n/\0<n)/\z.all AV.one=true then clearR n z (ρ x) L (K (.tup []))else False
     |_,_=>False)
    |_=>False)
   |_,_=>False)
  | .value f=>(match ρ f with
   |.fn g cs=>ac P g (c.args.toList.map ρ++cs) L K
   |_=>False)
  |_=>False
 |_=>False
end
end W0
end
section
open Go.RowKit
section
variable {P:Program} {F:TypeId->Option (List TypeId)} {ρ:Operand->AV} {L:SH} {K:AV->SH->Prop} {b:Nat} {H:af}
theorem uw{t:TypeId}{B:Bool}{n u:Nat}{j:List AV}{v:AV}(D:ff P t=some B)(h2:bj P t=some n)(h:W0.rowLd B n j u=some v):i6 P t j u=some v:=by
 unfold i6;rw[D,h2];cases B with
 |true=>simpa[W0.rowLd]using h
 |false=>simpa[W0.rowLd]using h
theorem z8{place:Nat->Option (Nat×Nat)}:∀(j:List (Nat×AV)) (ps:List (Nat×Nat×AV)) (z cs:List AV),ee (j.map λp=>(place p.1).map λq=>(q.1,q.2,p.2))=some ps->W0.fillR z ps=some cs->t8 place z j=some cs
 |[],ps,z,cs,h1,h2=>by cases h1;exact h2
 | (i,v)::j,ps,z,cs,h1,h2=>by
  simp only[WS]at h1;cases hp:place i with
  |none=>rw[hp]at h1;cases h1
  |some q=>
   rw[hp]at h1;simp only[Xl,ee]at h1;split at h1
   .rename_i l B;cases h1;simp only[W0.fillR]at h2;simp only[t8,hp];split at h2
    .rename_i E D;rw[D];simp only[];split at h2
     .rename_i u;rw[if_pos u];exact z8 j l _ cs B h2
     .cases h2
    .cases h2
   .cases h1
theorem ux{α β:Type}(f:α->β):∀l:List α,ee (l.map λx=>some (f x))=some (l.map f)
 |[]=>rfl
 |x::l=>by simp only[WS,ee,ux f l]
theorem Gp{n:Nat}{s:AV}{rows:List (List AV)}(u:lV L H)(h:W0.rowsR L n s rows):gV H n s=some rows:=by
 unfold W0.rowsR at h;split at h
 .subst h;rfl
 .subst h;rfl
 .rename_i l;obtain⟨B,j⟩:=h;subst B;cases rows with
  |nil=>rfl
  |cons r l=>simp[gV,j r rfl]
 .obtain⟨x,j,E,D,rfl⟩:=h;simp[gV,u.get _ j,E,D]
 .exact h.elim
def W0.makes:Op->Bool
 |.alloc ..|.box ..|.buildSlice ..|.makeSlice ..|.makeMap ..|.range ..=>true
 | .call c=>match c.callee with
  |.builtin .append=>true
  |_=>false
 |_=>false
def Mz(P:Program)(F:TypeId->Option (List TypeId))(o:Op)(ρ:Operand->AV)(b:Nat)(L:SH)(H:af)(K:AV->SH->Prop):Prop:=
 (∃v H' L',bA P F o ρ b H=some (.val v H')/\o5 b L H L' H'/\(b∈L'.names->W0.makes o=true/\b∈am v)/\K v L')\/∃g args,bA P F o ρ b H=some (.call g args)/\ac P g args L K
theorem KZ{o:Op}{v:AV}(D:Bd H)(j:lV L H)(E:H.get b=none)(h:bA P F o ρ b H=some (.val v H))(B:K v L):Mz P F o ρ b L H K:=.inl ⟨v,H,L,h,.refl D j,λu=>absurd u (j.not_mem E),B⟩
theorem jd{o:Op}{v:AV}{x:Blk}(E:Bd H)(B:lV L H)(j:b<H.next)(G:H.get b=none)(u:W0.makes o=true/\b∈am v)(h:bA P F o ρ b H=some (.val v (H.new b x)))(D:K v ((b,x)::L)):Mz P F o ρ b L H K:=.inl ⟨v,_,_,h,.new E B j G x,λ_=>u,D⟩
theorem JY{t:TypeId}{E:Bool}{n:Nat}{a:AV}{k:AV->Prop}(G:lV L H)(D:ff P t=some E)(h2:bj P t=some n)(h:W0.loadR E n a L k):∃v,oz P H t a=some v/\k v:=by
 unfold W0.loadR at h;split at h
 .obtain⟨x,r,v,M,B,u,j⟩:=h;exact⟨v,by simp[oz,G.get _ M,B,uw D h2 u],j⟩
 .obtain⟨r,v,B,u,j⟩:=h;exact⟨v,by simp[oz,B,uw D h2 u],j⟩
 .exact h.elim
theorem Ep{o:Op}(D:Bd H)(B:lV L H)(hlt:b<H.next)(h0:H.get b=none)(h:W0.op P F o ρ L K):Mz P F o ρ b L H K:=by
 have hnb:=B.not_mem h0;have u:∀{o:Op} {v:AV} (_:Bd H) (_:lV L H) (_:bA P F o ρ b H=some (.val v H)) (_:K v L),Mz P F o ρ b L H K:=λD B h hk=>KZ D B h0 h hk
 cases o with
 |move x=>exact u D B rfl h
 |assign x=>exact u D B rfl h
 |pick c x y=>obtain⟨t,h1,h2⟩:=h;exact u D B (by simp[bA,h1]) h2
 |alloc t=>
  simp only[W0.op,W0.zof]at h;split at h
  .rename_i cs hc;exact jd D B hlt h0 ⟨rfl,by simp[am]⟩ (by simp only[bA,hc]) (h b hnb)
  .exact h.elim
 |box t x=>obtain⟨cs,h1,h2,h3⟩:=h;exact jd D B hlt h0 ⟨rfl,by simp[am]⟩ (by simp only[bA,h1,h2,if_true]) (h3 b hnb)
 |build t parts=>
  simp only[W0.op]at h;split at h
  .rename_i fs z O hz;split at h
   .rename_i hall;split at h
    .rename_i ps hps;obtain⟨cs,h1,h2⟩:=h;refine u D B ?_ h2;have:=z8 (place:=kX P fs) (parts.toList.map λp=>(p.1,ρ p.2)) ps z cs (by rw[List.map_map];exact hps) h1;simp only[bA,zM,O,hz];rw[if_pos hall,this];rfl
    .exact h.elim
   .exact h.elim
  .rename_i len e z O hz;split at h
   .rename_i n Y;obtain⟨cs,h1,h2⟩:=h;refine u D B ?_ h2;have:=z8 (place:=λi=>some (i*n,n)) (parts.toList.map λp=>(p.1,ρ p.2)) (parts.toList.map λp=>(p.1*n,n,ρ p.2)) z cs (by
     rw[List.map_map];exact ux (λp:Nat×Operand=>(p.1*n,n,ρ p.2)) parts.toList) h1
    simp only[bA,zM,O,hz,Y,XB,this];rfl
   .exact h.elim
  .exact h.elim
 |buildSlice t len parts=>
  simp only[W0.op,W0.zof]at h;split at h
  .rename_i e O;split at h
   .rename_i n z Y hz;split at h
    .rename_i hc;obtain⟨h1,rows,h2,h3⟩:=h;exact jd D B hlt h0 ⟨rfl,by simp[am]⟩ (by simp only[bA,O,Y,hz];rw[if_pos ⟨hc.1,hc.2,h1⟩,h2];rfl) (h3 b hnb)
    .exact h.elim
   .exact h.elim
  .exact h.elim
 |load t a=>
  simp only[W0.op]at h;split at h
  .rename_i ag n hag Y;obtain⟨v,E,S⟩:=JY B hag Y h;exact u D B (by simp[bA,E]) S
  .exact h.elim
 |store t a x=>
  simp only[W0.op]at h;split at h
  .rename_i n Y;unfold W0.storeR at h;split at h
   .rename_i c i off ha;obtain⟨y,r,cs,L',E,S,M,Z,g5,g6,g7⟩:=h;have hg:=B.get _ g6.mem;simp only at hg;refine .inl ⟨_,_,L',?_,.put D B g6,λhm=>absurd (g6.names▸hm) hnb,g7⟩;simp only[bA,io,ha,S,Y,hg,E];rw[if_pos ⟨M,Z,g5⟩];rfl
   .exact h.elim
  .exact h.elim
 |nilCheck x=>
  simp only[W0.op,W0.nilchk]at h;split at h
  .rename_i G;exact u D B (by simp[bA,G]) h
  .rename_i G;exact u D B (by simp[bA,G]) h
  .rename_i G;exact u D B (by simp[bA,G]) h
  .exact h.elim
 |binOp op t x y c=>obtain⟨v,h1,h2⟩:=h;exact u D B (by simp[bA,h1]) h2
 |unOp op t x=>obtain⟨v,h1,h2⟩:=h;exact u D B (by simp[bA,h1]) h2
 |convert s d x=>
  simp only[W0.op]at h;split at h
  .rename_i h1 h2;obtain⟨k',n,h3,h4⟩:=h;exact u D B (by simp[bA,FU,h1,h2,h3]) h4
  .rename_i h1 h2;obtain⟨s,h3,h4⟩:=h;exact u D B (by simp[bA,FU,h1,h2,h3]) h4
  .exact h.elim
 |makeFunc fn first cap=>
  cases fn with
  |func f=>
   simp only[W0.op]at h;split at h
   .rename_i h1;exact u D B (by simp only[bA];rw[if_pos h1]) h
   .exact h.elim
  |_=>exact h.elim
 |makeSlice t l c=>
  simp only[W0.op,W0.zof]at h;split at h
  .rename_i e O;split at h
   .rename_i n by_ z Y hby hz;split at h
    .rename_i hc;obtain⟨k,k',i,j,h1,h2,h3,h4,h5,h6⟩:=h;refine jd D B hlt h0 ⟨rfl,by simp[am]⟩ ?_ (h6 b hnb);simp only[bA,O,Y,hby,hz,h1,h2,mf];simp only[Yq,if_true,Xx];rw[if_pos ⟨hc.1,hc.2,h3,h4,h5⟩]
    .exact h.elim
   .exact h.elim
  .exact h.elim
 |slice t x lo hi mx=>
  simp only[W0.op]at h;split at h
  .exact h.elim
  .rename_i hhm;split at h
   .rename_i e O;split at h
    .rename_i n Y;obtain⟨len,l,hh,m,E,S,M,Z,g5,g6,g7,g8⟩:=h;have key:∀v,lT P (nB H (ρ x)) t (ρ x) (lo.map ρ) (hi.map ρ) (mx.map ρ)=some v->K v L->Mz P F (.slice t x lo hi mx) ρ b L H K:=λv hv hk=>
      u D B (by simp only[bA];rw[if_neg hhm,hv];rfl) hk
     split at g8
     .rename_i G;refine key _ ?_ g8;rw[G]at E;simp only[lT,O,G,E,S,M,Z];rw[if_pos ⟨⟨g5,g6,g7⟩,by rw[Y];rfl⟩]
     .rename_i c i q G;obtain⟨⟨y,k1,k2⟩,k3⟩:=g8;refine key _ ?_ k3;have hg:=B.get _ k1;simp only at hg;rw[G]at E;simp only[lT,O,G,E,S,M,Z];rw[if_pos ⟨⟨g5,g6,g7⟩,by rw[Y];rfl⟩];simp only[nB,hg,Xl,k2];rw[if_pos ⟨rfl,Y⟩]
     .rename_i rows G;obtain⟨⟨k0,k2⟩,k3⟩:=g8;refine key _ ?_ k3;rw[G]at E;simp only[lT,O,G,E,S,M,Z];rw[if_pos ⟨⟨g5,g6,g7⟩,by rw[Y];rfl⟩,if_neg (by rw[k0];simp)];cases rows with
      |nil=>simp
      |cons r rs=>simp only[Y,k2 r rfl,if_true]
     .exact g8.elim
    .exact h.elim
   .rename_i O;split at h
    .rename_i hmx;obtain⟨s,l,hh,E,S,M,Z,g5,g6⟩:=h;refine u D B ?_ g6;have:mx=none:=by simpa using hmx
     subst this;simp only[bA];rw[if_neg hhm];simp only[lT,O,E,Option.map_none];rw[show cZ (Option.map ρ lo) 0=some l from S,show cZ (Option.map ρ hi) s.length=some hh from M];simp[Z,g5]
    .exact h.elim
   .exact h.elim
 |fieldAddr s x f=>
  simp only[W0.op]at h;split at h
  .rename_i fs O;split at h
   .rename_i fl hf;split at h
    .rename_i n Y;split at h
     .exact h.elim
     .rename_i hn0;unfold W0.faddr at h;split at h
      .rename_i G;exact u D B (by simp[bA,j6,O,hf,Y,hn0,G]) h
      .rename_i G;exact u D B (by simp[bA,j6,O,hf,Y,hn0,G]) h
      .exact h.elim
    .exact h.elim
   .exact h.elim
  .exact h.elim
 |field s x f=>
  simp only[W0.op]at h;split at h
  .rename_i fs O;split at h
   .rename_i fl hf;split at h
    .rename_i ag n hag Y;obtain⟨cs,v,E,S,M⟩:=h;exact u D B (by simp[bA,Ef,O,hf,E,uw hag Y S]) M
    .exact h.elim
   .exact h.elim
  .exact h.elim
 |indexAddr t x ix=>
  simp only[W0.op]at h;split at h
  .rename_i e O;split at h
   .rename_i n Y;unfold W0.idxR at h;split at h
    .rename_i c j m G;obtain⟨k,i,y,E,S,M,Z,g5,g6⟩:=h;have hg:=B.get _ Z;simp only at hg;refine u D B ?_ g6;have hneg:¬i<0:=by omega
     simp[bA,fg,G,E,hneg,O,nB,hg,M,g5,Y]
    .rename_i rows G;obtain⟨k,i,r,E,S,M,Z,g5⟩:=h;refine u D B ?_ g5;have hneg:¬i<0:=by omega
     simp[bA,fg,G,E,hneg,O,M,Z,Y]
    .exact h.elim
   .exact h.elim
  .rename_i len e O;split at h
   .rename_i n Y;obtain⟨k,i,E,S,M,Z⟩:=h;have hneg:¬i<0:=by omega
    split at Z
    .rename_i G;exact u D B (by simp[bA,fg,G,E,hneg,O,M,Y]) Z
    .rename_i G;exact u D B (by simp[bA,fg,G,E,hneg,O,M,Y]) Z
    .exact Z.elim
   .exact h.elim
  .exact h.elim
 |index t x ix=>
  simp only[W0.op]at h;split at h
  .rename_i O;obtain⟨s,k,i,y,E,S,M,Z,g5⟩:=h;have hneg:¬i<0:=by omega
   exact u D B (by simp[bA,zN,O,E,S,hneg,Z]) g5
  .rename_i len e O;split at h
   .rename_i ag n hag Y;obtain⟨cs,k,i,v,E,S,M,Z,g5,g6⟩:=h;refine u D B ?_ g6;simp only[bA,zN,O,E,S];rw[if_pos ⟨M,Z⟩,Y];simp only[XB,uw hag Y g5];rfl
   .exact h.elim
  .exact h.elim
 |extract x i=>obtain⟨vs,v,E,S,M⟩:=h;exact u D B (by simp[bA,E,S]) M
 |call c=>
  simp only[W0.op]at h;split at h
  .rename_i hc;split at h
   .rename_i x e ha ht;obtain⟨n,E,S⟩:=h;refine u D B ?_ S;cases G:ρ x<;>rw[G]at E<;>first|(cases E;done)|simp[bA,hc,ha,bJ,G,ht,E]
   .rename_i x ha ht;obtain⟨s,E,S⟩:=h;exact u D B (by simp[bA,hc,ha,bJ,E,ht]) S
   .rename_i x n e ha ht;split at h
    .exact h.elim
    .rename_i hne;refine u D B ?_ h;cases G:ρ x<;>first|(exact absurd G (hne _))|simp[bA,hc,ha,bJ,G,ht]
   .exact h.elim
  .rename_i hc;split at h
   .rename_i s x t tx ha ht;split at h
    .rename_i e e' O hux;split at h
     .rename_i n by_ z Y hby hz;split at h
      .rename_i hcn;obtain⟨l,m,E,S,M,Z,g5,g6⟩:=h;have r1:=Gp B E;have r2:=Gp B S;have key:∀v H',dO P H b t (ρ s) (ρ x)=some (v,H')->bA P F (.call c) ρ b H=some (.val v H'):=λv H' hv=>by simp only[bA,hc,ha,WS,Xp,bJ,ht,hux,hv];rfl
       have hz':(fa P e).bind AV.cells? =some z:=hz;split at g6
       .rename_i G;by_cases hm:m.length=0
        .exact u D B (key _ _ (by rw[G]at r1 ⊢;simp only[dO,O,Y,hby,hz',r1,r2];rw[if_pos ⟨M,Z,hcn.2,hcn.1,g5⟩,if_pos hm])) (g6.1 hm)
        .exact jd D B hlt h0 ⟨by simp[W0.makes,hc],by simp[am]⟩ (key _ _ (by rw[G]at r1 ⊢;simp only[dO,O,Y,hby,hz',r1,r2];rw[if_pos ⟨M,Z,hcn.2,hcn.1,g5⟩,if_neg hm])) (g6.2 hm b hnb)
       .rename_i G;by_cases hm:m.length=0
        .exact u D B (key _ _ (by rw[G]at r1 ⊢;simp only[dO,O,Y,hby,hz',r1,r2];rw[if_pos ⟨M,Z,hcn.2,hcn.1,g5⟩,if_pos hm])) (g6.1 hm)
        .exact jd D B hlt h0 ⟨by simp[W0.makes,hc],by simp[am]⟩ (key _ _ (by rw[G]at r1 ⊢;simp only[dO,O,Y,hby,hz',r1,r2];rw[if_pos ⟨M,Z,hcn.2,hcn.1,g5⟩,if_neg hm])) (g6.2 hm b hnb)
       .rename_i b' i' k' G;obtain⟨y,L',k1,k2⟩:=g6;have f1:=o5.del (b:=b) D B k1;have hb':b≠b':=λe=>by have:=B.get _ (k1.perm.mem_iff.2 Yr);rw[<-e,h0]at this;cases this
        have f2:o5 b L' (H.put b' none) ((b,⟨n,l++m⟩)::L') ((H.put b' none).new b ⟨n,l++m⟩):=.new f1.bd f1.sub hlt (by rw[af.get_put,if_neg (λe=>hb' e.symm)];exact h0) _;exact .inl ⟨_,_,_,key _ _ (by rw[G]at r1 ⊢;simp only[dO,O,Y,hby,hz',r1,r2];rw[if_pos ⟨M,Z,hcn.2,hcn.1,g5⟩]),f1.trans f2,λ_=>⟨by simp[W0.makes,hc],by simp[am]⟩,k2 b hnb⟩
       .exact g6.elim
      .exact h.elim
     .exact h.elim
    .exact h.elim
   .exact h.elim
  .rename_i hc;split at h
   .rename_i x y ha;obtain⟨k,a,d,E,S,M⟩:=h;exact u D B (by simp[bA,hc,ha,bJ,E,S]) M
   .exact h.elim
  .rename_i hc;split at h
   .rename_i x y ha;obtain⟨k,a,d,E,S,M⟩:=h;exact u D B (by simp[bA,hc,ha,bJ,E,S]) M
   .exact h.elim
  .rename_i hc;split at h
   .rename_i x t ha ht;split at h
    .rename_i e O;split at h
     .rename_i n z Y hz;have hz':(fa P e).bind AV.cells? =some z:=hz;split at h
      .rename_i hcn;have key:∀H',gD P H t (ρ x)=some H'->bA P F (.call c) ρ b H=some (.val (.tup []) H'):=λH' hv=>by simp only[bA,hc,ha,WS,Xp,bJ,ht,hv];rfl
       unfold W0.clearR at h;split at h
       .rename_i G;exact u D B (key _ (by rw[G];simp only[gD,O,Y,hz'])) h
       .rename_i d i k G;obtain⟨y,L',E,S,M,Z⟩:=h;have hg:=B.get _ M.mem;simp only at hg;refine .inl ⟨_,_,L',key _ ?_,.put D B M,λhm=>absurd (M.names▸hm) hnb,Z⟩;rw[G];simp only[gD,O,Y,hz',hg];rw[if_pos ⟨⟨E,hcn.1.1⟩,⟨hcn.1.2,S⟩,hcn.2⟩]
       .exact h.elim
      .exact h.elim
     .exact h.elim
    .exact h.elim
   .exact h.elim
  .rename_i f hc;split at h
   .rename_i g cs hf;exact .inr ⟨g,_,by simp[bA,hc,hf],h⟩
   .exact h.elim
  .exact h.elim
 |makeMap t r=>
  cases r with
  |none=>exact jd D B hlt h0 ⟨rfl,by simp[am]⟩ rfl (h b hnb)
  |some r=>exact h.elim
 |lookup t m k ok=>
  simp only[W0.op]at h;split at h
  .rename_i kt et O;split at h
   .rename_i z hk hz;unfold W0.lookR at h;split at h
    .rename_i c s hm hks;obtain⟨x,E,S,M⟩:=h;have hg:=B.get _ E;simp only at hg;refine u D B ?_ M;simp only[bA,kY,O,hm,hks,hk,hz,hg];rw[if_pos S];rfl
    .exact h.elim
   .exact h.elim
  .exact h.elim
 |mapUpdate t m k x=>
  simp only[W0.op]at h;split at h
  .rename_i kt et O;split at h
   .rename_i hk;unfold W0.mupR at h;split at h
    .rename_i c s hm hks;obtain⟨y,L',E,S,M,Z⟩:=h;have hg:=B.get _ M.mem;simp only at hg;refine .inl ⟨_,_,L',?_,.put D B M,λhm=>absurd (M.names▸hm) hnb,Z⟩;simp only[bA,gk,O,hm,hks,hk,hg];rw[if_pos ⟨E,S⟩];rfl
    .exact h.elim
   .exact h.elim
  .exact h.elim
 |range t x=>
  simp only[W0.op]at h;split at h
  .rename_i O;obtain⟨s,G,h1⟩:=h;exact jd D B hlt h0 ⟨rfl,by simp[am]⟩ (by simp only[bA,O,G]) (h1 b hnb)
  .exact h.elim
 |next it s=>
  cases s with
  |false=>exact h.elim
  |true=>
   simp only[W0.op]at h;unfold W0.nextR at h;split at h
   .rename_i c hi;obtain⟨x,s,k,pos,E,S,M⟩:=h;have hg:=B.get _ E;simp only at hg;split at M
    .rename_i hp;obtain⟨L',Z,g5⟩:=M;refine .inl ⟨_,_,L',?_,.put D B Z,λhm=>absurd (Z.names▸hm) hnb,g5⟩;simp only[bA,jI,hi,hg,S];rw[if_pos hp];rfl
    .rename_i hp;refine u D B ?_ M;simp only[bA,jI,hi,hg,S];rw[if_neg hp];rfl
   .exact h.elim
 |_=>exact h.elim
end
end
end Go.Proofs.YtfcfhjadaknphaaGreatDoor.Am
section
namespace Go.Proofs.YtfcfhjadaknphaaGreatDoor
open Go.ChangeShapes Go.WideShapes Go.ChangeAt Go.RowKit
def elemWc:Elem Tryz.prog 29 147 (.agg #[.string ⟨#[]⟩,.int .i64 0,.int .i64 0,.bool false,.int .i64 0]) 5 48:=elem_mk Tryz.underlying29 (by kernel_rfl) rfl YG
def cloneWc_any(A:Option Addr)(n c:Nat)(xs:List Value)(w:World)(G:Flat w 5 A n xs)(O:∀x∈xs,x.oneCell'=true)(hn:n*48<=140737488355328)(M:A=none->n=0):
  Calls Tryz.prog 59 #[.slice A n c] w λe w'=>∃v,e=.returned v/\w'.ownsRow w.heap.size 147 5 v n xs/\Below w.heap.size w w':=by
 have D:=Lib.hid G;have Y:=Lib.hid O;clear G O;have Z:=λ(W:World) (a:Option Addr) (l c:Nat)=>Lib.run_eql_slice_nil (P:=Tryz.prog) W 29 147 a l c 0 0 Tryz.underlying29;cases A with
 |none=>
  obtain rfl:n=0:=M rfl;have E:xs=[]:=Xy (by have:=D.out.1;simpa using this);have Hx:=Lib.hid E;clear E D Y
  go_enter Tryz.func59,Tryz.ntmps59
  go_wp2_with fail
  go_ret
  exact⟨_,rfl,by rw[Hx.out];exact Yc _ _ _ _,Below.refl _ _⟩
 |some a=>
  clear M;have S:Hid ((w.alloc (.cells #[] 147)).ownsRow w.heap.size 147 5 (.slice (some ⟨w.heap.size,0,none⟩) 0 0) 0 []):=Lib.hid (X4 w #[] 0 (Fd _) (by simp[maxLen]) YF)
  go_enter Tryz.func59,Tryz.ntmps59
  go_wp2_with (at_builtin;go_must (refine wpList_app rfl (.tmp 5) (.tmp 6) rfl elemWc w.heap.size _ 0 [] rfl S.out (some a) n c xs rfl (D.out.kept ((Below.refl _ _).alloc (Fd _) _)) Y.out (by simp only[maxLen];omega) YC YF ?_);intro v1 w1 j u)
  have B:=((Below.refl w.heap.size w).alloc (Fd _) _).grown u YF (own_from S.out)
  go_wp2_with fail
  go_ret
  exact⟨_,rfl,by simpa using j,B⟩
def elemWl:Elem Tryz.prog 30 150 (.agg #[.string ⟨#[]⟩,.bool false]) 2 24:=elem_mk Tryz.underlying30 (by kernel_rfl) rfl YG
def cloneWl_any(A:Option Addr)(n c:Nat)(xs:List Value)(w:World)(G:Flat w 2 A n xs)(O:∀x∈xs,x.oneCell'=true)(hn:n*24<=140737488355328)(M:A=none->n=0):
  Calls Tryz.prog 60 #[.slice A n c] w λe w'=>∃v,e=.returned v/\w'.ownsRow w.heap.size 150 2 v n xs/\Below w.heap.size w w':=by
 have D:=Lib.hid G;have Y:=Lib.hid O;clear G O;have Z:=λ(W:World) (a:Option Addr) (l c:Nat)=>Lib.run_eql_slice_nil (P:=Tryz.prog) W 30 150 a l c 0 0 Tryz.underlying30;cases A with
 |none=>
  obtain rfl:n=0:=M rfl;have E:xs=[]:=Xy (by have:=D.out.1;simpa using this);have Hx:=Lib.hid E;clear E D Y
  go_enter Tryz.func60,Tryz.ntmps60
  go_wp2_with fail
  go_ret
  exact⟨_,rfl,by rw[Hx.out];exact Yc _ _ _ _,Below.refl _ _⟩
 |some a=>
  clear M;have S:Hid ((w.alloc (.cells #[] 150)).ownsRow w.heap.size 150 2 (.slice (some ⟨w.heap.size,0,none⟩) 0 0) 0 []):=Lib.hid (X4 w #[] 0 (Fd _) (by simp[maxLen]) YF)
  go_enter Tryz.func60,Tryz.ntmps60
  go_wp2_with (at_builtin;go_must (refine wpList_app rfl (.tmp 5) (.tmp 6) rfl elemWl w.heap.size _ 0 [] rfl S.out (some a) n c xs rfl (D.out.kept ((Below.refl _ _).alloc (Fd _) _)) Y.out (by simp only[maxLen];omega) YC YF ?_);intro v1 w1 j u)
  have B:=((Below.refl w.heap.size w).alloc (Fd _) _).grown u YF (own_from S.out)
  go_wp2_with fail
  go_ret
  exact⟨_,rfl,by simpa using j,B⟩
def elemWd:Elem Tryz.prog 31 153 (.agg #[.string ⟨#[]⟩,.int .i64 0]) 2 24:=elem_mk Tryz.underlying31 (by kernel_rfl) rfl YG
def cloneWd_any(A:Option Addr)(n c:Nat)(xs:List Value)(w:World)(G:Flat w 2 A n xs)(O:∀x∈xs,x.oneCell'=true)(hn:n*24<=140737488355328)(M:A=none->n=0):
  Calls Tryz.prog 61 #[.slice A n c] w λe w'=>∃v,e=.returned v/\w'.ownsRow w.heap.size 153 2 v n xs/\Below w.heap.size w w':=by
 have D:=Lib.hid G;have Y:=Lib.hid O;clear G O;have Z:=λ(W:World) (a:Option Addr) (l c:Nat)=>Lib.run_eql_slice_nil (P:=Tryz.prog) W 31 153 a l c 0 0 Tryz.underlying31;cases A with
 |none=>
  obtain rfl:n=0:=M rfl;have E:xs=[]:=Xy (by have:=D.out.1;simpa using this);have Hx:=Lib.hid E;clear E D Y
  go_enter Tryz.func61,Tryz.ntmps61
  go_wp2_with fail
  go_ret
  exact⟨_,rfl,by rw[Hx.out];exact Yc _ _ _ _,Below.refl _ _⟩
 |some a=>
  clear M;have S:Hid ((w.alloc (.cells #[] 153)).ownsRow w.heap.size 153 2 (.slice (some ⟨w.heap.size,0,none⟩) 0 0) 0 []):=Lib.hid (X4 w #[] 0 (Fd _) (by simp[maxLen]) YF)
  go_enter Tryz.func61,Tryz.ntmps61
  go_wp2_with (at_builtin;go_must (refine wpList_app rfl (.tmp 5) (.tmp 6) rfl elemWd w.heap.size _ 0 [] rfl S.out (some a) n c xs rfl (D.out.kept ((Below.refl _ _).alloc (Fd _) _)) Y.out (by simp only[maxLen];omega) YC YF ?_);intro v1 w1 j u)
  have B:=((Below.refl w.heap.size w).alloc (Fd _) _).grown u YF (own_from S.out)
  go_wp2_with fail
  go_ret
  exact⟨_,rfl,by simpa using j,B⟩
def elemWs:Elem Tryz.prog 33 157 (.agg #[.int .i64 0,.int .i64 0,.int .i64 0]) 3 24:=elem_mk Tryz.underlying33 (by kernel_rfl) rfl YG
def cloneWs_any(A:Option Addr)(n c:Nat)(xs:List Value)(w:World)(G:Flat w 3 A n xs)(O:∀x∈xs,x.oneCell'=true)(hn:n*24<=140737488355328)(M:A=none->n=0):
  Calls Tryz.prog 63 #[.slice A n c] w λe w'=>∃v,e=.returned v/\w'.ownsRow w.heap.size 157 3 v n xs/\Below w.heap.size w w':=by
 have D:=Lib.hid G;have Y:=Lib.hid O;clear G O;have Z:=λ(W:World) (a:Option Addr) (l c:Nat)=>Lib.run_eql_slice_nil (P:=Tryz.prog) W 33 157 a l c 0 0 Tryz.underlying33;cases A with
 |none=>
  obtain rfl:n=0:=M rfl;have E:xs=[]:=Xy (by have:=D.out.1;simpa using this);have Hx:=Lib.hid E;clear E D Y
  go_enter Tryz.func63,Tryz.ntmps63
  go_wp2_with fail
  go_ret
  exact⟨_,rfl,by rw[Hx.out];exact Yc _ _ _ _,Below.refl _ _⟩
 |some a=>
  clear M;have S:Hid ((w.alloc (.cells #[] 157)).ownsRow w.heap.size 157 3 (.slice (some ⟨w.heap.size,0,none⟩) 0 0) 0 []):=Lib.hid (X4 w #[] 0 (Fd _) (by simp[maxLen]) YF)
  go_enter Tryz.func63,Tryz.ntmps63
  go_wp2_with (at_builtin;go_must (refine wpList_app rfl (.tmp 5) (.tmp 6) rfl elemWs w.heap.size _ 0 [] rfl S.out (some a) n c xs rfl (D.out.kept ((Below.refl _ _).alloc (Fd _) _)) Y.out (by simp only[maxLen];omega) YC YF ?_);intro v1 w1 j u)
  have B:=((Below.refl w.heap.size w).alloc (Fd _) _).grown u YF (own_from S.out)
  go_wp2_with fail
  go_ret
  exact⟨_,rfl,by simpa using j,B⟩
def elemWt:Elem Tryz.prog 32 9 (.string ⟨#[]⟩) 1 16:=elem_mk Tryz.underlying32 (by kernel_rfl) rfl YG
def cloneWt_any(A:Option Addr)(n c:Nat)(xs:List Value)(w:World)(G:Flat w 1 A n xs)(O:∀x∈xs,x.oneCell'=true)(hn:n*16<=140737488355328)(M:A=none->n=0):
  Calls Tryz.prog 62 #[.slice A n c] w λe w'=>∃v,e=.returned v/\w'.ownsRow w.heap.size 9 1 v n xs/\Below w.heap.size w w':=by
 have D:=Lib.hid G;have Y:=Lib.hid O;clear G O;have Z:=λ(W:World) (a:Option Addr) (l c:Nat)=>Lib.run_eql_slice_nil (P:=Tryz.prog) W 32 9 a l c 0 0 Tryz.underlying32;cases A with
 |none=>
  obtain rfl:n=0:=M rfl;have E:xs=[]:=Xy (by have:=D.out.1;simpa using this);have Hx:=Lib.hid E;clear E D Y
  go_enter Tryz.func62,Tryz.ntmps62
  go_wp2_with fail
  go_ret
  exact⟨_,rfl,by rw[Hx.out];exact Yc _ _ _ _,Below.refl _ _⟩
 |some a=>
  clear M;have S:Hid ((w.alloc (.cells #[] 9)).ownsRow w.heap.size 9 1 (.slice (some ⟨w.heap.size,0,none⟩) 0 0) 0 []):=Lib.hid (X4 w #[] 0 (Fd _) (by simp[maxLen]) YF)
  go_enter Tryz.func62,Tryz.ntmps62
  go_wp2_with (at_builtin;go_must (refine wpList_app rfl (.tmp 5) (.tmp 6) rfl elemWt w.heap.size _ 0 [] rfl S.out (some a) n c xs rfl (D.out.kept ((Below.refl _ _).alloc (Fd _) _)) Y.out (by simp only[maxLen];omega) YC YF ?_);intro v1 w1 j u)
  have B:=((Below.refl w.heap.size w).alloc (Fd _) _).grown u YF (own_from S.out)
  go_wp2_with fail
  go_ret
  exact⟨_,rfl,by simpa using j,B⟩
end Go.Proofs.YtfcfhjadaknphaaGreatDoor
end
section
namespace Go.Proofs.YtfcfhjadaknphaaGreatDoor
open Go.ChangeShapes Go.WideShapes Go.ChangeAt Go.RowKit
def elemI:Elem Tryz.prog 59 3 (.int .i64 0) 1 8:=elem_mk Tryz.underlying59 (by kernel_rfl) rfl YG
def cloneI_any(A:Option Addr)(n c:Nat)(xs:List Value)(w:World)(G:Flat w 1 A n xs)(O:∀x∈xs,x.oneCell'=true)(hn:n*8<=140737488355328)(M:A=none->n=0):
  Calls Tryz.prog 162 #[.slice A n c] w λe w'=>∃v,e=.returned v/\w'.ownsRow w.heap.size 3 1 v n xs/\Below w.heap.size w w':=by
 have D:=Lib.hid G;have Y:=Lib.hid O;clear G O;have Z:=λ(W:World) (a:Option Addr) (l c:Nat)=>Lib.run_eql_slice_nil (P:=Tryz.prog) W 59 3 a l c 0 0 Tryz.underlying59;cases A with
 |none=>
  obtain rfl:n=0:=M rfl;have E:xs=[]:=Xy (by have:=D.out.1;simpa using this);have Hx:=Lib.hid E;clear E D Y
  go_enter Tryz.func162,Tryz.ntmps162
  go_wp2_with fail
  go_ret
  exact⟨_,rfl,by rw[Hx.out];exact Yc _ _ _ _,Below.refl _ _⟩
 |some a=>
  clear M;have S:Hid ((w.alloc (.cells #[] 3)).ownsRow w.heap.size 3 1 (.slice (some ⟨w.heap.size,0,none⟩) 0 0) 0 []):=Lib.hid (X4 w #[] 0 (Fd _) (by simp[maxLen]) YF)
  go_enter Tryz.func162,Tryz.ntmps162
  go_wp2_with (at_builtin;go_must (refine wpList_app rfl (.tmp 5) (.tmp 6) rfl elemI w.heap.size _ 0 [] rfl S.out (some a) n c xs rfl (D.out.kept ((Below.refl _ _).alloc (Fd _) _)) Y.out (by simp only[maxLen];omega) YC YF ?_);intro v1 w1 j u)
  have B:=((Below.refl w.heap.size w).alloc (Fd _) _).grown u YF (own_from S.out)
  go_wp2_with fail
  go_ret
  exact⟨_,rfl,by simpa using j,B⟩
end Go.Proofs.YtfcfhjadaknphaaGreatDoor
end
section
namespace Go.Proofs.YtfcfhjadaknphaaGreatDoor
open Go.ChangeShapes Go.WideShapes Go.ChangeAt Go.RowKit
def append_zero(t ty e:TypeId)(P:Program)(w:World)(ht:P.underlying t=some (.slice e))(j:∃i,P.info? e=some i)(A B:Option Addr)(c:Nat):(Builtin.append_ #[t,t] ty #[.slice A 0 0,.slice B 0 c]).run P w=.ok (.slice A 0 0) w:=by obtain⟨i,j⟩:=j;cases A<;>cases B<;>simp[Builtin.append_,run_underlying ht,sizeOf,typeInfo,j,Builtin.lenOf,Builtin.firstCells,loadCells,loadCellsFrom,storeCells]
def cloneI_zero(A:Option Addr)(c:Nat)(w:World):Calls Tryz.prog 162 #[.slice A 0 c] w λe w'=>∃B,e=.returned (.slice B 0 0)/\Below w.heap.size w w':=by
 have E:=λ(W:World) (a:Option Addr) (l c:Nat)=>Lib.run_eql_slice_nil (P:=Tryz.prog) W 59 3 a l c 0 0 Tryz.underlying59;cases A with
 |none=>
  go_enter Tryz.func162,Tryz.ntmps162
  go_wp2_with fail
  go_ret
  exact⟨_,rfl,Below.refl _ _⟩
 |some a=>
  have j:∃i,Tryz.prog.info? 3=some i:=Option.isSome_iff_exists.1 (show(Tryz.prog.info? 3).isSome=true by kernel_rfl);have u:=λ(W:World) (D:TypeId) (A B:Option Addr)=>append_zero 59 D 3 Tryz.prog W Tryz.underlying59 j A B c
  go_enter Tryz.func162,Tryz.ntmps162
  go_wp2_with fail
  go_ret
  exact⟨_,rfl,(Below.refl _ _).alloc (Fd _) _⟩
end Go.Proofs.YtfcfhjadaknphaaGreatDoor
end
section
namespace Go.Proofs.YtfcfhjadaknphaaGreatDoor
open Go.ChangeShapes Go.WideShapes Go.ChangeAt Go.RowKit
def elemB:Elem Tryz.prog 44 4 (.bool false) 1 1:=elem_mk Tryz.underlying44 (by kernel_rfl) rfl YG
def cloneB_any(A:Option Addr)(n c:Nat)(xs:List Value)(w:World)(G:Flat w 1 A n xs)(O:∀x∈xs,x.oneCell'=true)(hn:n*1<=140737488355328)(M:A=none->n=0):
  Calls Tryz.prog 185 #[.slice A n c] w λe w'=>∃v,e=.returned v/\w'.ownsRow w.heap.size 4 1 v n xs/\Below w.heap.size w w':=by
 have D:=Lib.hid G;have Y:=Lib.hid O;clear G O;have Z:=λ(W:World) (a:Option Addr) (l c:Nat)=>Lib.run_eql_slice_nil (P:=Tryz.prog) W 44 4 a l c 0 0 Tryz.underlying44;cases A with
 |none=>
  obtain rfl:n=0:=M rfl;have E:xs=[]:=Xy (by have:=D.out.1;simpa using this);have Hx:=Lib.hid E;clear E D Y
  go_enter Tryz.func185,Tryz.ntmps185
  go_wp2_with fail
  go_ret
  exact⟨_,rfl,by rw[Hx.out];exact Yc _ _ _ _,Below.refl _ _⟩
 |some a=>
  clear M;have S:Hid ((w.alloc (.cells #[] 4)).ownsRow w.heap.size 4 1 (.slice (some ⟨w.heap.size,0,none⟩) 0 0) 0 []):=Lib.hid (X4 w #[] 0 (Fd _) (by simp[maxLen]) YF)
  go_enter Tryz.func185,Tryz.ntmps185
  go_wp2_with (at_builtin;go_must (refine wpList_app rfl (.tmp 5) (.tmp 6) rfl elemB w.heap.size _ 0 [] rfl S.out (some a) n c xs rfl (D.out.kept ((Below.refl _ _).alloc (Fd _) _)) Y.out (by simp only[maxLen];omega) YC YF ?_);intro v1 w1 j u)
  have B:=((Below.refl w.heap.size w).alloc (Fd _) _).grown u YF (own_from S.out)
  go_wp2_with fail
  go_ret
  exact⟨_,rfl,by simpa using j,B⟩
end Go.Proofs.YtfcfhjadaknphaaGreatDoor
end
section
namespace Go.Proofs.YtfcfhjadaknphaaGreatDoor
open Go.ChangeShapes Go.WideShapes Go.ChangeAt Go.RowKit
def elemT:Elem Tryz.prog 45 172 (.agg #[.int .i64 0,.int .i64 0,.bool false]) 3 24:=elem_mk Tryz.underlying45 (by kernel_rfl) rfl YG
def cloneT_any(A:Option Addr)(n c:Nat)(xs:List Value)(w:World)(G:Flat w 3 A n xs)(O:∀x∈xs,x.oneCell'=true)(hn:n*24<=140737488355328)(M:A=none->n=0):
  Calls Tryz.prog 186 #[.slice A n c] w λe w'=>∃v,e=.returned v/\w'.ownsRow w.heap.size 172 3 v n xs/\Below w.heap.size w w':=by
 have D:=Lib.hid G;have Y:=Lib.hid O;clear G O;have Z:=λ(W:World) (a:Option Addr) (l c:Nat)=>Lib.run_eql_slice_nil (P:=Tryz.prog) W 45 172 a l c 0 0 Tryz.underlying45;cases A with
 |none=>
  obtain rfl:n=0:=M rfl;have E:xs=[]:=Xy (by have:=D.out.1;simpa using this);have Hx:=Lib.hid E;clear E D Y
  go_enter Tryz.func186,Tryz.ntmps186
  go_wp2_with fail
  go_ret
  exact⟨_,rfl,by rw[Hx.out];exact Yc _ _ _ _,Below.refl _ _⟩
 |some a=>
  clear M;have S:Hid ((w.alloc (.cells #[] 172)).ownsRow w.heap.size 172 3 (.slice (some ⟨w.heap.size,0,none⟩) 0 0) 0 []):=Lib.hid (X4 w #[] 0 (Fd _) (by simp[maxLen]) YF)
  go_enter Tryz.func186,Tryz.ntmps186
  go_wp2_with (at_builtin;go_must (refine wpList_app rfl (.tmp 5) (.tmp 6) rfl elemT w.heap.size _ 0 [] rfl S.out (some a) n c xs rfl (D.out.kept ((Below.refl _ _).alloc (Fd _) _)) Y.out (by simp only[maxLen];omega) YC YF ?_);intro v1 w1 j u)
  have B:=((Below.refl w.heap.size w).alloc (Fd _) _).grown u YF (own_from S.out)
  go_wp2_with fail
  go_ret
  exact⟨_,rfl,by simpa using j,B⟩
end Go.Proofs.YtfcfhjadaknphaaGreatDoor
end
section
namespace Go.Proofs.YtfcfhjadaknphaaGreatDoor
open Go.ChangeShapes Go.WideShapes Go.ChangeAt Go.RowKit
def elemJ:Elem Tryz.prog 48 2 (.int .i64 0) 1 8:=elem_mk Tryz.underlying48 (by kernel_rfl) rfl YG
def cloneJ_any(A:Option Addr)(n c:Nat)(xs:List Value)(w:World)(G:Flat w 1 A n xs)(O:∀x∈xs,x.oneCell'=true)(hn:n*8<=140737488355328)(M:A=none->n=0):
  Calls Tryz.prog 161 #[.slice A n c] w λe w'=>∃v,e=.returned v/\w'.ownsRow w.heap.size 2 1 v n xs/\Below w.heap.size w w':=by
 have D:=Lib.hid G;have Y:=Lib.hid O;clear G O;have Z:=λ(W:World) (a:Option Addr) (l c:Nat)=>Lib.run_eql_slice_nil (P:=Tryz.prog) W 48 2 a l c 0 0 Tryz.underlying48;cases A with
 |none=>
  obtain rfl:n=0:=M rfl;have E:xs=[]:=Xy (by have:=D.out.1;simpa using this);have Hx:=Lib.hid E;clear E D Y
  go_enter Tryz.func161,Tryz.ntmps161
  go_wp2_with fail
  go_ret
  exact⟨_,rfl,by rw[Hx.out];exact Yc _ _ _ _,Below.refl _ _⟩
 |some a=>
  clear M;have S:Hid ((w.alloc (.cells #[] 2)).ownsRow w.heap.size 2 1 (.slice (some ⟨w.heap.size,0,none⟩) 0 0) 0 []):=Lib.hid (X4 w #[] 0 (Fd _) (by simp[maxLen]) YF)
  go_enter Tryz.func161,Tryz.ntmps161
  go_wp2_with (at_builtin;go_must (refine wpList_app rfl (.tmp 5) (.tmp 6) rfl elemJ w.heap.size _ 0 [] rfl S.out (some a) n c xs rfl (D.out.kept ((Below.refl _ _).alloc (Fd _) _)) Y.out (by simp only[maxLen];omega) YC YF ?_);intro v1 w1 j u)
  have B:=((Below.refl w.heap.size w).alloc (Fd _) _).grown u YF (own_from S.out)
  go_wp2_with fail
  go_ret
  exact⟨_,rfl,by simpa using j,B⟩
end Go.Proofs.YtfcfhjadaknphaaGreatDoor
end
