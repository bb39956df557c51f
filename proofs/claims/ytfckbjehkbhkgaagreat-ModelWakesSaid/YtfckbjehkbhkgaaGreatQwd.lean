/- part -/
import Derived.Test.YtfckbjehkbhkgaaGreatQwc
import Derived.WalkSpells
import Derived.Deep.DeepMust
set_option linter.all false
set_option maxRecDepth 100000
set_option maxHeartbeats 0
namespace Go.Proofs.YtfckbjehkbhkgaaGreat.Am
section
open Go.RowKit
abbrev SH:=List (Nat×Blk)
abbrev SH.names(L:SH):List Nat:=L.map Prod.fst
structure mf(L:SH)(H:ah):Prop where
 nd:L.names.Nodup
 get:∀p∈L,H.get p.1=some p.2
structure Fr(B:Nat)(L:SH)(H:ah)(L':SH)(H':ah):Prop where
 next:H.next<=H'.next
 bd:Bd H'
 sub:mf L' H'
 keep:∀b x,H.get b=some x->b∉L.names->H'.get b=some x/\b∉L'.names
 dom:∀b,b<B->H.get b=none->H'.get b=none
 fresh:∀b,b∈L'.names->b<B->b∈L.names
theorem mf.mem{L:SH}{H:ah}(h:mf L H){b:Nat}(j:b∈L.names):∃x,(b,x)∈L/\H.get b=some x:=by obtain⟨p,hp,rfl⟩:=abP.1 j;exact⟨p.2,hp,h.get p hp⟩
theorem mf.congr{L:SH}{H H':ah}(h:mf L H)(j:∀b,H'.get b=H.get b):mf L H':=⟨h.nd,λp hp=>by rw[j];exact h.get p hp⟩
theorem Fr.refl{B:Nat}{L:SH}{H:ah}(j:Bd H)(h:mf L H):Fr B L H L H:=⟨Fd _,j,h,λ_ _ D u=>⟨D,u⟩,λ_ _ h=>h,λ_ h _=>h⟩
theorem Fr.trans{B M:Nat}{L G L'':SH}{H H' H'':ah}(h:Fr B L H G H')(k:Fr M G H' L'' H'')(E:B<=M):Fr B L H L'' H'' where
 next:=abe h.next k.next
 bd:=k.bd
 sub:=k.sub
 keep:=λb x u j=>by obtain⟨S,O⟩:=h.keep b x u j;exact k.keep b x S O
 dom:=λb D N=>k.dom b (abk D E) (h.dom b D N)
 fresh:=λb u j=>h.fresh b (k.fresh b u (abk j E)) j
theorem Fr.low{B D:Nat}{L u:SH}{H H':ah}(h:Fr D L H u H')(j:B<=D):Fr B L H u H':=
 ⟨h.next,h.bd,h.sub,h.keep,λb E=>h.dom b (abk E j),λb M G=>h.fresh b M (abk G j)⟩
theorem mf.perm{L j:SH}{H:ah}(h:mf L H)(hp:L.Perm j):mf j H:=⟨(hp.map Prod.fst).nodup_iff.1 h.nd,λp u=>h.get p (hp.mem_iff.2 u)⟩
theorem mf.left{K R:SH}{H:ah}(h:mf (K++R) H):mf K H:=⟨by have:=h.nd;unfold SH.names at *;rw[ST]at this;exact(acy.1 this).1,λp hp=>h.get p (abR _ hp)⟩
theorem mf.right{K R:SH}{H:ah}(h:mf (K++R) H):mf R H:=⟨by have:=h.nd;unfold SH.names at *;rw[ST]at this;exact(acy.1 this).2.1,λp hp=>h.get p (aaY _ hp)⟩
theorem mf.disj{K R:SH}{H:ah}(h:mf (K++R) H){b:Nat}(j:b∈K.names)(h2:b∈R.names):False:=by have:=h.nd;unfold SH.names at *;rw[ST]at this;exact(acy.1 this).2.2 b j b h2 rfl
theorem Fr.frame{B:Nat}{K G R L:SH}{H H':ah}(h:Fr B K H G H')(O:L.Perm (K++R))(S:mf L H):Fr B L H (G++R) H':=by
 have D:=S.perm O;have M:∀p∈R,H'.get p.1=some p.2/\p.1∉G.names:=λp hp=>
  h.keep p.1 p.2 (D.right.get p hp) (λj=>D.disj j (abE hp))
 have N:∀b,b∈L.names↔b∈K.names\/b∈R.names:=λb=>by rw[(O.map Prod.fst).mem_iff,ST,aak]
 refine⟨h.next,h.bd,⟨?_,λp hp=>?_⟩,λb x u E=>?_,h.dom,λb u E=>?_⟩
 .unfold SH.names;rw[ST,acy];refine⟨h.sub.nd,D.right.nd,λa ha b Z Y=>?_⟩;subst Y;obtain⟨p,hp,rfl⟩:=abP.1 Z;exact(M p hp).2 ha
 .rcases aak.1 hp with hp|hp
  .exact h.sub.get p hp
  .exact(M p hp).1
 .rw[N]at E;have h3:b∉K.names:=λj=>E (.inl j)
  obtain⟨a1,a2⟩:=h.keep b x u h3;refine⟨a1,λj=>?_⟩;unfold SH.names at j;rw[ST,aak]at j;rcases j with j|j
  .exact a2 j
  .exact E (.inr j)
 .unfold SH.names at u;rw[ST,aak]at u;rw[N];rcases u with u|u
  .exact .inl (h.fresh b u E)
  .exact .inr u
section
variable {P:Program} {F:TypeId->Option (List TypeId)} {w w':World} {σ σ':bO} {T T':Nat->Prop}
theorem bC.shrink{a:AV}{v:Value}(h:bC w σ T a v)(hT:∀c,T' c->T c):bC w σ T' a v:=by
 induction h with
 |int k n=>exact .int k n
 |bool b=>exact .bool b
 |str s=>exact .str s
 |nilp=>exact .nilp
 |ptr b i G E h hp=>exact .ptr b i G E h hp
 |mp b E h Z Y=>exact .mp b E h Z Y
 |it b E h Z Y=>exact .it b E h Z Y
 |pptr j i G b o sz D h B=>exact .pptr j i G b o sz (D.shrink hT) B
 |nils=>exact .nils
 |emp a=>exact .emp a
 |sl b i n E a u h hp S N ha=>exact .sl b i n E a u h hp S N ha
 |lst0 a u N=>exact .lst0 a u N
 |lst j b o sz u D S N h B=>exact .lst j b o sz u (D.shrink hT) S N B
 |agg O M D h B=>exact .agg O M D B
 |tup O M D h B=>exact .tup O M D B
 |fn f O M D h B=>exact .fn f O M D B
 |nilf=>exact .nilf
 |junk v=>exact .junk v
theorem xC.shrink{x:Blk}{B:de}{cs:Array Value}{e:TypeId}(h:xC w σ T x B cs e)(D:∀c,T' c->T c):xC w σ T' x B cs e:=
 ⟨h.size,h.block,h.even,h.room,λi r j a u M G E=>(h.rep i r j a u M G E).shrink D⟩
theorem lE.shrink{x:Blk}{j:de}{cs:Array Value}{e:TypeId}(h:lE w σ T x j cs e)(u:∀c,T' c->T c):lE w σ T' x j cs e:=⟨λhp=>(h.1 hp).shrink u,h.2⟩
theorem aX.less{H H':ah}(h:∀b x,H'.get b=some x->H.get b=some x)(c:Nat)(j:aX σ H' c):aX σ H c:=by
 rcases j with j|⟨b,x,u,E,D,B⟩
 .exact .inl j
 .exact .inr ⟨b,x,u,h b x E,D,B⟩
theorem bJ.less{H H':ah}(u:bJ w σ H)(h:∀b x,H'.get b=some x->H.get b=some x)(S:H.next<=H'.next):bJ w σ H' where
 named:=λb j G=>abk (u.named b j G) S
 lt:=u.lt
 live:=λb x G=>by obtain⟨j,Z,e,D,B⟩:=u.live b x (h b x G);exact⟨j,Z,e,D,B.shrink (aX.less h)⟩
 apart:=λc N=>⟨(u.apart c N).1,λ⟨b,x,j,D,B,Y⟩=>(u.apart c N).2 ⟨b,x,j,h b x D,B,Y⟩⟩
 inj:=λb O x M j E D B=>u.inj b O x M j E (h b x D) (h O M B)
 glob:=u.glob.less (aX.less h)
def YA(τ:List AV)(H:ah)(τ1:List AV)(H1:ah):Prop:=
 H.next<=H1.next/\(∀b x,H1.get b=some x->H.get b=some x)/\∀(w:World) (σ:bO) (a:Act),bJ w σ H->dC w σ (aX σ H) τ a->dC w σ (aX σ H1) τ1 a
variable {c c1 c2:Code} {τ τ1 τ2:List AV} {H H1 H2:ah} {e:Ex}
theorem dQ.shift(h:dQ P c τ H e τ1 H1)(k:YA τ1 H1 τ2 H2):dQ P c τ H e τ2 H2:=by refine⟨abe h.1 k.1,λw σ a G u Q M=>h.2 w σ a G u Q λD w' B=>M D w' ?_⟩;obtain⟨σ',t,r,j,m⟩:=B;exact⟨σ',k.2.2 w' σ' D r t,r.less k.2.1 k.1,⟨j.os,j.tape,j.output,j.size,j.keep,j.shape,j.sig,j.eqfr,j.frame,λc E=>j.own c (aX.less k.2.1 c E)⟩,m⟩
theorem dQ.seq(h:dQ P c1 τ H .normal τ1 H1)(k:dQ P c2 τ1 H1 e τ2 H2):dQ P (.seq c1 c2) τ H e τ2 H2:=by refine⟨abe h.1 k.1,λw σ a O B Q S=>wp_seq (h.2 w σ a O B _ λa' w' D=>?_)⟩;obtain⟨u,G,M,Y,N⟩:=D;exact k.2 w' u a' M G Q λZ E j=>S Z E (j.trans Y N h.1)
theorem dQ.seq_out(h:dQ P c1 τ H e τ1 H1)(D:e≠.normal):dQ P (.seq c1 c2) τ H e τ1 H1:=by
 refine⟨h.1,λw σ a E u Q B=>wp_seq (h.2 w σ a E u _ λM w' j=>?_)⟩;cases e with
 |normal=>exact absurd rfl D
 |exit G=>exact B _ _ j
 |ret=>exact B _ _ j
theorem dQ.cond{x:Operand}{t:Bool}(D:lj τ x=.bool t)(h:dQ P (if t then c1 else c2) τ H e τ1 H1):dQ P (.cond x c1 c2) τ H e τ1 H1:=by refine⟨h.1,λw σ a B j Q E=>wp_cond (t:=t) ?_ (h.2 w σ a B j Q E)⟩;have:=j.eval B.glob x;rw[D]at this;generalize a.eval x=u at this;cases this;rfl
def Ex.leave(id:Nat):Ex->Ex
 |.exit id'=>if id'=id then .normal else .exit id'
 |e=>e
theorem dQ.block{B:Nat}(h:dQ P c τ H e τ1 H1):dQ P (.block B c) τ H (e.leave B) τ1 H1:=by
 refine⟨h.1,λw σ a G D Q M=>wp_block (h.2 w σ a G D _ λN w' E=>?_)⟩;have:=M N w' E;cases e with
 |normal=>exact this
 |ret=>exact this
 |exit u=>
  simp only[Jc,Exit.inBlock];simp only[Ex.leave]at this;by_cases j:u=B
  .simp only[j,if_true]at this ⊢;exact this
  .simp only[j,if_false]at this ⊢;exact this
theorem me.next{n:Nat}(h:dQ P c τ H .normal τ1 H1)(k:me P n c τ1 H1 e τ2 H2):me P (n+1) c τ H e τ2 H2:=by
 refine⟨abe h.1 k.1,λw σ a O B Q S=>?_⟩;rw[rounds_succ];refine h.2 w σ a O B _ λa' w' D=>?_
 obtain⟨u,G,M,Y,N⟩:=D;exact k.2 w' u a' M G Q λZ E j=>S Z E (j.trans Y N h.1)
theorem me.out(h:dQ P c τ H e τ1 H1)(D:e≠.normal):me P 1 c τ H e τ1 H1:=by
 refine⟨h.1,λw σ a E u Q B=>?_⟩;rw[rounds_succ];refine h.2 w σ a E u _ λM w' j=>?_
 cases e with
 |normal=>exact absurd rfl D
 |exit G=>exact B _ _ j
 |ret=>exact B _ _ j
theorem me.code{n:Nat}(h:me P n c τ H e τ1 H1):dQ P (.loop c) τ H e τ1 H1:=
 ⟨h.1,λw σ a u j Q B=>wp_loop_rounds n (h.2 w σ a u j Q B)⟩
def dD(P:Program)(c:Code)(τ:List AV)(L:SH)(Q:Ex->List AV->SH->Prop):Prop:=
 ∀H,Bd H->mf L H->∃e τ' H' L',dQ P c τ H e τ' H'/\Fr H.next L H L' H'/\Q e τ' L'
def ac(P:Program)(f:FuncId)(args:List AV)(L:SH)(Q:AV->SH->Prop):Prop:=
 (∃fn c,P.funcs[f]? =some fn/\fn.body=some c)/\∀H,Bd H->mf L H->∃v H' L',p7 P f args H v H'/\Fr H.next L H L' H'/\Q v L'
variable {L:SH} {Q Q2:Ex->List AV->SH->Prop}
theorem dD.mono(h:dD P c τ L Q)(D:∀e j u,Q e j u->Q2 e j u):dD P c τ L Q2:=λH E B=>by obtain⟨e,j,O,u,N,M,G⟩:=h H E B;exact⟨e,j,O,u,N,M,D _ _ _ G⟩
theorem ac.mono{f:FuncId}{args:List AV}{R R2:AV->SH->Prop}(h:ac P f args L R)(B:∀v j,R v j->R2 v j):ac P f args L R2:=⟨h.1,λH D u=>by
 obtain⟨v,N,j,M,G,E⟩:=h.2 H D u;exact⟨v,N,j,M,G,B _ _ E⟩⟩
theorem ac.frame{f:FuncId}{args:List AV}{K R:SH}{R1 R2:AV->SH->Prop}(h:ac P f args K R1)(B:L.Perm (K++R))(D:∀v j,R1 v j->R2 v (j++R)):ac P f args L R2:=⟨h.1,λH E u=>by
 obtain⟨v,O,j,N,M,G⟩:=h.2 H E (u.perm B).left;exact⟨v,O,j++R,N,M.frame B u,D _ _ G⟩⟩
theorem dD.stop(e:Ex)(u:∀H,dQ P c τ H e τ H)(h:Q e τ L):dD P c τ L Q:=λH B j=>⟨e,τ,H,L,u H,.refl B j,h⟩
theorem dD.skip(h:Q .normal τ L):dD P .skip τ L Q:=.stop .normal (λH=>⟨Fd _,λw σ a u j Q B=>wp_skip (B _ _ (.refl u j))⟩) h
theorem dD.exit{j:Nat}(h:Q (.exit j) τ L):dD P (.exit j) τ L Q:=.stop (.exit j) (λH=>⟨Fd _,λw σ a B u Q D=>wp_exit (D _ _ (.refl B u))⟩) h
theorem dD.ret(h:Q .ret τ L):dD P .ret τ L Q:=.stop .ret (λH=>⟨Fd _,λw σ a u j Q B=>wp_ret (B _ _ (.refl u j))⟩) h
theorem dD.label{l:Nat}(h:Q .normal τ L):dD P (.label l) τ L Q:=.stop .normal (λH=>⟨Fd _,λw σ a u j Q B=>wp_label (B _ _ (.refl u j))⟩) h
theorem dD.seq(h:dD P c1 τ L λe u G=>match e with|.normal=>dD P c2 u G Q|e=>Q e u G):dD P (.seq c1 c2) τ L Q:=λH Y S=>by
 obtain⟨e,τ1,H1,E,D,j,B⟩:=h H Y S;cases e with
 |normal=>obtain⟨e,τ2,H2,Z,O,N,M⟩:=B H1 j.bd j.sub;exact⟨e,τ2,H2,Z,D.seq O,j.trans N j.next,M⟩
 |exit id=>exact⟨_,τ1,H1,E,D.seq_out acQ,j,B⟩
 |ret=>exact⟨_,τ1,H1,E,D.seq_out acQ,j,B⟩
theorem dD.cond{x:Operand}{t:Bool}(u:lj τ x=.bool t)(h:dD P (if t then c1 else c2) τ L Q):dD P (.cond x c1 c2) τ L Q:=λH B j=>by obtain⟨e,τ1,H1,M,G,E,D⟩:=h H B j;exact⟨e,τ1,H1,M,G.cond u,E,D⟩
theorem dD.block{u:Nat}(h:dD P c τ L λe j O=>Q (e.leave u) j O):dD P (.block u c) τ L Q:=λH D B=>by obtain⟨e,τ1,H1,N,M,G,E⟩:=h H D B;exact⟨_,τ1,H1,N,M.block,G,E⟩
theorem dD.loop(I:Nat->List AV->SH->Prop)(hs:∀n τ L,I n τ L->dD P c τ L λe j B=>match e with|.normal=>∃m,m<n/\I m j B|e=>Q e j B)(n:Nat)(h0:I n τ L):dD P (.loop c) τ L Q:=by
 have M:∀n τ L,I n τ L->∀H,Bd H->mf L H->∃k e j G B,me P k c τ H e j G/\Fr H.next L H B G/\Q e j B:=by
  intro n
  induction n using Nat.strongRecOn with
  |_ n ih=>
   intro τ L hI H S N;obtain⟨e,τ1,H1,Y,E,u,D⟩:=hs n τ L hI H S N;cases e with
   |normal=>obtain⟨m,hm,O⟩:=D;obtain⟨k,e,τ2,H2,L2,k1,k2,Z⟩:=ih m hm τ1 Y O H1 u.bd u.sub;exact⟨k+1,e,τ2,H2,L2,.next E k1,u.trans k2 u.next,Z⟩
   |exit id=>exact⟨1,_,τ1,H1,Y,.out E acQ,u,D⟩
   |ret=>exact⟨1,_,τ1,H1,Y,.out E acQ,u,D⟩
 intro H S N;obtain⟨k,e,j,G,B,E,u,D⟩:=M n τ L h0 H S N;exact⟨e,j,G,B,E.code,u,D⟩
def Dim(τ τ1:List AV):Prop:=τ1.length=τ.length/\∀(i:Nat) (x:AV),τ1[i]? =some x->x=.junk\/τ[i]? =some x
theorem Dim.tmps{T:Nat->Prop}{a:Act}(h:Dim τ τ1)(ht:dC w σ T τ a):dC w σ T τ1 a:=by
 refine⟨⟨by rw[h.1];exact ht.1.1,λi x u D B=>?_⟩,ht.2⟩;rcases h.2 i x D with rfl|j
 .exact .junk _
 .exact ht.1.2 i x u j B
theorem dD.dim(E:Dim τ τ1)(h:dD P c τ1 L Q):dD P c τ L Q:=λH N D=>by obtain⟨e,j,Z,Y,B,S,O⟩:=h H N D;exact⟨e,j,Z,Y,⟨B.1,λw σ a G u Q M=>B.2 w σ a G (E.tmps u) Q M⟩,S,O⟩
end
end
section
open Go.RowKit
inductive Bx (b:Nat) (x x':Blk):SH->SH->Prop where
 |here (L:SH):Bx b x x' ((b,x)::L) ((b,x')::L)
 |there (p:Nat×Blk) {L L':SH}:Bx b x x' L L'->Bx b x x' (p::L) (p::L')
inductive dF (b:Nat) (x:Blk):SH->SH->Prop where
 |here (L:SH):dF b x ((b,x)::L) L
 |there (p:Nat×Blk) {L L':SH}:dF b x L L'->dF b x (p::L) (p::L')
theorem Bx.mem{b:Nat}{x x':Blk}{L L':SH}(h:Bx b x x' L L'):(b,x)∈L:=by
 induction h with
 |here L=>simp
 |there p h j=>simp[j]
theorem Bx.names{b:Nat}{x x':Blk}{L L':SH}(h:Bx b x x' L L'):L'.names=L.names:=by
 induction h with
 |here L=>rfl
 |there p h j=>simp only[aai,j]
theorem Bx.get{b:Nat}{x x':Blk}{L L':SH}(h:Bx b x x' L L')(hn:L.names.Nodup):∀p∈L',p=(b,x')\/(p∈L/\p.1≠b):=by
 induction h with
 |here L=>
  intro p hp;rcases aaj.1 hp with rfl|hp
  .exact .inl rfl
  .refine .inr ⟨by simp[hp],λj=>?_⟩;simp only[aai,abG]at hn;exact hn.1 (j▸abE hp)
 |there q h u=>
  intro p hp;simp only[aai,abG]at hn;rcases aaj.1 hp with rfl|hp
  .refine .inr ⟨acQ,λj=>hn.1 ?_⟩;rw[j];exact abE (f:=Prod.fst) h.mem
  .rcases u hn.2 p hp with rfl|⟨D,B⟩
   .exact .inl rfl
   .exact .inr ⟨by simp[D],B⟩
theorem dF.perm{b:Nat}{x:Blk}{L L':SH}(h:dF b x L L'):L.Perm ((b,x)::L'):=by
 induction h with
 |here L=>exact .refl _
 |there p h j=>exact(j.cons p).trans (.swap _ _ _)
def Wm:SH->Nat->Option Blk
 |[],_=>none
 |(c,x)::L,b=>if c=b then some x else Wm L b
def YB:SH->Nat->Blk->SH
 |[],_,_=>[]
 |(c,x)::L,b,y=>if c=b then(c,y)::L else(c,x)::YB L b y
structure pI(b:Nat)(L:SH)(H:ah)(L':SH)(H':ah):Prop where
 next:H'.next=H.next
 bd:Bd H'
 sub:mf L' H'
 keep:∀c x,H.get c=some x->c∉L.names->H'.get c=some x/\c∉L'.names
 dom:∀c,c≠b->H.get c=none->H'.get c=none
 fresh:∀c,c∈L'.names->c=b\/c∈L.names
theorem pI.refl{b:Nat}{L:SH}{H:ah}(hb:Bd H)(hs:mf L H):pI b L H L H:=⟨rfl,hb,hs,λ_ _ u j=>⟨u,j⟩,λ_ _ h=>h,λ_ h=>.inr h⟩
theorem mf.not_mem{L:SH}{H:ah}(hs:mf L H){b:Nat}(h:H.get b=none):b∉L.names:=λhb=>by obtain⟨x,_,j⟩:=hs.mem hb;rw[h]at j;cases j
theorem pI.new{b:Nat}{L:SH}{H:ah}(hb:Bd H)(hs:mf L H)(E:b<H.next)(h0:H.get b=none)(x:Blk):pI b L H ((b,x)::L) (H.new b x) where
 next:=rfl
 bd:=λc hc=>by have B:H.next<=c:=hc;rw[ah.get_new,if_neg acN];exact hb c B
 sub:=⟨by simp only[aai,abG];exact⟨hs.not_mem h0,hs.nd⟩,λp hp=>by
  rcases aaj.1 hp with rfl|hp
  .rw[ah.get_new,if_pos rfl]
  .have:=hs.get p hp;rw[ah.get_new,if_neg]
   .exact this
   .intro u;rw[<-u,h0]at this;cases this⟩
 keep:=λc y D G=>by
  have j:b≠c:=λu=>by rw[<-u,h0]at D;cases D
  refine⟨by rw[ah.get_new,if_neg j];exact D,λhm=>?_⟩;simp only[aai,aaj]at hm;rcases hm with hm|hm
  .exact j hm.symm
  .exact G hm
 dom:=λc hc h=>by rw[ah.get_new,if_neg (λe=>hc e.symm)];exact h
 fresh:=λc hc=>by simpa using hc
theorem pI.put{b c:Nat}{L L':SH}{H:ah}{x x':Blk}(hb:Bd H)(hs:mf L H)(u:Bx c x x' L L'):pI b L H L' (H.put c (some x')) where
 next:=rfl
 bd:=λd D=>by have B:H.next<=d:=D;have j:=hs.get _ u.mem;rw[ah.get_put,if_neg (λe=>by subst e;rw[hb _ B]at j;cases j)];exact hb d B
 sub:=⟨by rw[u.names];exact hs.nd,λp hp=>by
  rcases u.get hs.nd p hp with rfl|⟨j,E⟩
  .rw[ah.get_put,if_pos rfl]
  .rw[ah.get_put,if_neg (λe=>E e.symm)];exact hs.get p j⟩
 keep:=λd y j E=>by
  have G:c≠d:=λe=>E (e▸abE (f:=Prod.fst) u.mem)
  exact⟨by rw[ah.get_put,if_neg G];exact j,by rw[u.names];exact E⟩
 dom:=λd _ h=>by
  rw[ah.get_put,if_neg]
  .exact h
  .intro e;have j:=hs.get _ u.mem;rw[e,h]at j;cases j
 fresh:=λd D=>by rw[u.names]at D;exact .inr D
theorem pI.del{b c:Nat}{L L':SH}{H:ah}{x:Blk}(hb:Bd H)(hs:mf L H)(G:dF c x L L'):pI b L H L' (H.put c none):=by
 have u:mf ((c,x)::L') H:=hs.perm G.perm;have hn:∀d,d∈L.names↔d=c\/d∈L'.names:=λd=>by rw[(G.perm.map Prod.fst).mem_iff];simp
 have j:=u.nd;simp only[aai,abG]at j;refine⟨rfl,λd D=>?_,⟨j.2,λp hp=>?_⟩,λd y M E=>?_,λd _ h=>?_,λd D=>.inr ((hn d).2 (.inr D))⟩
 .have B:H.next<=d:=D;rw[ah.get_put];split
  .rfl
  .exact hb d B
 .rw[ah.get_put,if_neg (λ(e:c=p.1)=>j.1 (e▸abE (f:=Prod.fst) hp))];exact u.get p (by simp[hp])
 .rw[hn]at E;refine⟨by rw[ah.get_put,if_neg (λe=>E (.inl e.symm))];exact M,λh=>E (.inr h)⟩
 .rw[ah.get_put];split
  .rfl
  .exact h
theorem pI.trans{b:Nat}{L L' L'':SH}{H H' H'':ah}(h:pI b L H L' H')(k:pI b L' H' L'' H''):pI b L H L'' H'' where
 next:=k.next.trans h.next
 bd:=k.bd
 sub:=k.sub
 keep:=λc x j u=>by obtain⟨B,a2⟩:=h.keep c x j u;exact k.keep c x B a2
 dom:=λc hc h0=>k.dom c hc (h.dom c hc h0)
 fresh:=λc hc=>by
  rcases k.fresh c hc with j|j
  .exact .inl j
  .exact h.fresh c j
namespace W0
def rowLd(ag:Bool)(n:Nat)(row:List AV)(off:Nat):Option AV:=
 if ag then(if off+n<=row.length then some (.agg ((row.drop off).take n))else none)else row[off]?
def fillR(cells:List AV):List (Nat×Nat×AV)->Option (List AV)
 |[]=>some cells
 | (off,size,v)::rest=>match v.cells? with
  |some cs=>if cs.length=size/\off+size<=cells.length/\cs.all AV.one then fillR (aR cells off cs) rest else none
  |none=>none
section
variable (P:Program) (F:TypeId->Option (List TypeId))
def opt(x:Option AV)(K:AV->Prop):Prop:=∃v,x=some v/\K v
def pick(c x y:AV)(K:AV->Prop):Prop:=∃t,c=.bool t/\K (if t then x else y)
def un(op:UnOp)(x:AV)(K:AV->Prop):Prop:=opt (unA op x) K
def bin(op:BinOp)(t:TypeId)(x y:AV)(K:AV->Prop):Prop:=opt (iS P F op t x y) K
def conv(k:IntKind)(x:AV)(K:AV->Prop):Prop:=∃k' n,x=.int k' n/\K (.int k (k.wrap n))
def convS(x:AV)(K:AV->Prop):Prop:=∃s,x=.str s/\K (.str s)
def faddr(off:Nat)(x:AV)(K:AV->Prop):Prop:=match x with
 |.ptr b i o=>K (.ptr b i (o+off))
 |.pptr rows i o=>K (.pptr rows i (o+off))
 |_=>False
def fld(ag:Bool)(n off:Nat)(x:AV)(K:AV->Prop):Prop:=∃cs v,x=.agg cs/\rowLd ag n cs off=some v/\K v
def loadR(ag:Bool)(n:Nat)(a:AV)(L:SH)(K:AV->Prop):Prop:=match a with
 |.ptr b i off=>∃x r v,(b,x)∈L/\x.rows[i]? =some r/\rowLd ag n r off=some v/\K v
 |.pptr rows i off=>∃r v,rows[i]? =some r/\rowLd ag n r off=some v/\K v
 |_=>False
def storeR(n:Nat)(a v:AV)(L:SH)(K:SH->Prop):Prop:=match a with
 |.ptr b i off=>∃x r cs L',x.rows[i]? =some r/\v.cells? =some cs/\cs.length=n/\cs.all AV.one=true/\off+n<=r.length/\Bx b x ⟨x.size,x.rows.set i (aR r off cs)⟩ L L'/\K L'
 |_=>False
def idxR(n:Nat)(x ix:AV)(L:SH)(K:AV->Prop):Prop:=match x with
 |.sl b j m=>∃k i y,ix=.int k i/\0<=i/\i.toNat<m/\(b,y)∈L/\y.size=n/\K (.ptr b (j+i.toNat) 0)
 |.lst rows=>∃k i r,ix=.int k i/\0<=i/\rows[i.toNat]? =some r/\r.length=n/\K (.pptr rows i.toNat 0)
 |_=>False
def idxP(len n:Nat)(x ix:AV)(K:AV->Prop):Prop:=∃k i,ix=.int k i/\0<=i/\i.toNat<len/\(match x with
 |.ptr b j off=>K (.ptr b j (off+i.toNat*n))
 |.pptr rows j off=>K (.pptr rows j (off+i.toNat*n))
 |_=>False)
def ixS(x ix:AV)(K:AV->Prop):Prop:=∃s k i b,x=.str s/\ix=.int k i/\0<=i/\s[i.toNat]? =some b/\K (.int .u8 b.toNat)
def ixA(ag:Bool)(len n:Nat)(x ix:AV)(K:AV->Prop):Prop:=∃cs k i v,x=.agg cs/\ix=.int k i/\0<=i/\i.toNat<len/\rowLd ag n cs (i.toNat*n)=some v/\K v
def ext(i:Nat)(x:AV)(K:AV->Prop):Prop:=∃vs v,x=.tup vs/\vs[i]? =some v/\K v
def nilchk(x:AV)(K:AV->Prop):Prop:=match x with
 |.ptr b i off=>K (.ptr b i off)
 |.pptr rows i off=>K (.pptr rows i off)
 |.fn f cs=>K (.fn f cs)
 |_=>False
def build(z:List AV)(parts:List (Nat×Nat×AV))(K:AV->Prop):Prop:=∃cs,fillR z parts=some cs/\K (.agg cs)
def alloc(cs:List AV)(L:SH)(K:AV->SH->Prop):Prop:=∀b,b∉L.names->K (.ptr b 0 0) ((b,⟨cs.length,[cs]⟩)::L)
def box(x:AV)(L:SH)(K:AV->SH->Prop):Prop:=∃cs,x.cells? =some cs/\cs.all AV.one=true/\∀b,b∉L.names->K (.ptr b 0 0) ((b,⟨cs.length,[cs]⟩)::L)
def bslice(n:Nat)(z:List AV)(len:Nat)(parts:List (Nat×AV))(L:SH)(K:AV->SH->Prop):Prop:=
 len*n<=2^24/\∃rows,fK n (List.replicate len z) parts=some rows/\∀b,b∉L.names->K (.sl b 0 len) ((b,⟨n,rows⟩)::L)
def mslice(n by_:Nat)(z:List AV)(l c:AV)(L:SH)(K:AV->SH->Prop):Prop:=
 ∃(k k':IntKind) (i j:Nat),l=.int k i/\c=.int k' j/\i<=j/\j<=2^62/\j*by_<=2^48/\∀b,b∉L.names->K (.sl b 0 i) ((b,⟨n,List.replicate i z⟩)::L)
def rowsR(L:SH)(n:Nat)(s:AV)(rows:List (List AV)):Prop:=match s with
 |.nils=>rows=[]
 |.emp=>rows=[]
 |.lst l=>rows=l/\∀r,l.head? =some r->r.length=n
 |.sl b i k=>∃x,(b,x)∈L/\x.size=n/\i+k<=x.rows.length/\rows=(x.rows.drop i).take k
 |_=>False
def appendR(n by_:Nat)(s x:AV)(L:SH)(K:AV->SH->Prop):Prop:=
 ∃l m,rowsR L n s l/\rowsR L n x m/\2*(l.length+m.length)*by_<=2^48/\2*(l.length+m.length)<=2^62/\(m.all λr=>r.all AV.one)=true/\
 (match s with
  |.nils=>(m.length=0->K .nils L)/\(m.length≠0->∀b,b∉L.names->K (.sl b 0 m.length) ((b,⟨n,m⟩)::L))
  |.emp=>(m.length=0->K .emp L)/\(m.length≠0->∀b,b∉L.names->K (.sl b 0 m.length) ((b,⟨n,m⟩)::L))
  |.sl b' _ _=>∃y L',dF b' y L L'/\∀b,b∉L.names->K (.sl b 0 (l.length+m.length)) ((b,⟨n,l++m⟩)::L')
  |_=>False)
def len(x:AV)(K:AV->Prop):Prop:=∃n:Nat,LC x=some n/\K (.int .i64 (n:Int))
def lenS(x:AV)(K:AV->Prop):Prop:=∃s,x=.str s/\K (.int .i64 (s.length:Int))
def mnx(mx:Bool)(x y:AV)(K:AV->Prop):Prop:=∃k a c,x=.int k a/\y=.int k c/\K (.int k (if mx then(if c > a then c else a)else(if c<a then c else a)))
def sliceR(n:Nat)(x:AV)(lo hi mx:Option AV)(L:SH)(K:AV->Prop):Prop:=
 ∃len l h m,LC x=some len/\cE lo 0=some l/\cE hi len=some h/\cE mx len=some m/\l<=h/\h<=m/\m<=len/\
 (match x with
  |.nils=>K .nils
  |.sl b i _=>(∃y,(b,y)∈L/\y.size=n)/\K (.sl b (i+l) (h-l))
  |.lst rows=>(mx.isSome=false/\∀r,rows.head? =some r->r.length=n)/\K (.lst ((rows.drop l).take (h-l)))
  |_=>False)
def sliceS(x:AV)(lo hi:Option AV)(K:AV->Prop):Prop:=
 ∃s l h,x=.str s/\cE lo 0=some l/\cE hi s.length=some h/\l<=h/\h<=s.length/\K (.str ((s.drop l).take (h-l)))
def store(n:Nat)(a v:AV)(L:SH)(K:SH->Prop):Prop:=match a with
 | .ptr b i off=>(match Wm L b with
  | some x=>(match x.rows[i]?,v.cells? with
   |some r,some cs=>(cs.length=n/\cs.all AV.one=true/\off+n<=r.length)/\K (YB L b ⟨x.size,x.rows.set i (aR r off cs)⟩)
   |_,_=>False)
  |none=>False)
 |_=>False
def slice(n:Nat)(x:AV)(lo hi mx:Option AV)(L:SH)(K:AV->Prop):Prop:=match LC x with
 | some len=>(match cE lo 0,cE hi len,cE mx len with
  | some l,some h,some m=>(l<=h/\h<=m/\m<=len)/\(match x with
   |.nils=>K .nils
   | .sl b i _=>(match Wm L b with
    |some y=>y.size=n/\K (.sl b (i+l) (h-l))
    |none=>False)
   |.lst rows=>(mx.isSome=false/\∀r,rows.head? =some r->r.length=n)/\K (.lst ((rows.drop l).take (h-l)))
   |_=>False)
  |_,_,_=>False)
 |none=>False
def clearR(n:Nat)(z:List AV)(x:AV)(L:SH)(K:SH->Prop):Prop:=match x with
 |.nils=>K L
 |.sl b i k=>∃y L',y.size=n/\i+k<=y.rows.length/\Bx b y ⟨y.size,y.rows.take i++List.replicate k z++y.rows.drop (i+k)⟩ L L'/\K L'
 |_=>False
def mkmap(L:SH)(K:AV->SH->Prop):Prop:=∀b,b∉L.names->K (.mp b) ((b,⟨0,[]⟩)::L)
def found(z:AV)(ok:Bool)(r:Option (Nat×AV)):AV:=match r with
 |some (_,v)=>if ok then .tup [v,.bool true]else v
 |none=>if ok then .tup [z,.bool false]else z
def lookR(z:AV)(ok:Bool)(m k:AV)(L:SH)(K:AV->Prop):Prop:=match m,k with
 |.mp b,.str s=>∃x,(b,x)∈L/\x.rows.all FU=true/\K (found z ok (pV s x.rows 0))
 |_,_=>False
def putR(s:List UInt8)(v:AV)(rows:List (List AV)):List (List AV):=match pV s rows 0 with
 |some (i,_)=>rows.set i [.str s,v]
 |none=>rows++[[.str s,v]]
def mupR(m k v:AV)(L:SH)(K:SH->Prop):Prop:=match m,k with
 |.mp b,.str s=>∃x L',x.rows.all FU=true/\v.konst=true/\Bx b x ⟨x.size,putR s v x.rows⟩ L L'/\K L'
 |_,_=>False
def rngS(x:AV)(L:SH)(K:AV->SH->Prop):Prop:=∃s,x=.str s/\∀b,b∉L.names->K (.it b) ((b,⟨0,[[.str s,.int .i64 0]]⟩)::L)
def nextR(it:AV)(L:SH)(K:AV->SH->Prop):Prop:=match it with
  | .it b => ∃ x s k pos, (b, x) ∈ L /\ x.rows = [[.str s, .int k pos]]/\
      (if pos<s.length then∃L',Bx b x ⟨x.size,[[.str s,.int .i64 ((pos.toNat+(Utf8.decode ⟨s.toArray⟩ pos.toNat).2:Nat):Int)]]⟩ L L'/\K (.tup [.bool true,.int .i64 pos,.int .i32 (Utf8.decode ⟨s.toArray⟩ pos.toNat).1]) L'
       else K (.tup [.bool false]) L)
  |_=>False
def zof(t:TypeId):Option (List AV):=(fB P t).bind AV.cells?
def op(o:Op)(ρ:Operand->AV)(L:SH)(K:AV->SH->Prop):Prop:=
 let k:=λv=>K v L
 match o with
 |.move x|.assign x=>K (ρ x) L
 |.pick c x y=>pick (ρ c) (ρ x) (ρ y) k
 | .alloc t=>match zof P t with
  |some cs=>alloc cs L K
  |none=>False
 |.box _ x=>box (ρ x) L K
 | .build t parts=>match P.underlying t,fB P t with
  | some (.struct fs),some (.agg z)=>if(fs.toList.all λf=>(bk P f.type).isSome)=true then
    (match cX (parts.toList.map λp=>(lz P fs p.1).map λq=>(q.1,q.2,ρ p.2))with
     |some ps=>build z ps k
     |none=>False)
   else False
  | some (.array _ e),some (.agg z)=>(match bk P e with
   |some n=>build z (parts.toList.map λp=>(p.1*n,n,ρ p.2)) k
   |none=>False)
  |_,_=>False
 | .buildSlice t len parts=>match P.underlying t with
  | some (.slice e)=>match bk P e,zof P e with
   |some n,some z=>if z.length=n/\0<n then bslice n z len (parts.toList.map λp=>(p.1,ρ p.2)) L K else False
   |_,_=>False
  |_=>False
 | .load t a=>match fE P t,bk P t with
  |some ag,some n=>loadR ag n (ρ a) L k
  |_,_=>False
 | .store t a x=>match bk P t with
  |some n=>storeR n (ρ a) (ρ x) L (K (.tup []))
  |none=>False
 |.nilCheck x=>nilchk (ρ x) k
 |.binOp op t x y _=>bin P F op t (ρ x) (ρ y) k
 |.unOp op _ x=>un op (ρ x) k
 | .convert s d x=>match P.underlying s,P.underlying d with
  |some (.int _),some (.int kd)=>conv kd (ρ x) k
  |some .string,some .string=>convS (ρ x) k
  |_,_=>False
 |.makeFunc (.func f) first cap=>if first.size=0 then K (.fn f (cap.toList.map ρ)) L else False
 | .makeSlice t l c=>match P.underlying t with
  | some (.slice e)=>match bk P e,iR P e,zof P e with
   |some n,some by_,some z=>if z.length=n/\0<n then mslice n by_ z (ρ l) (ρ c) L K else False
   |_,_,_=>False
  |_=>False
 | .slice t x lo hi mx=>if(hi.isNone&&mx.isSome)=true then False else match P.underlying t with
  | some (.slice e)=>(match bk P e with
   |some n=>sliceR n (ρ x) (lo.map ρ) (hi.map ρ) (mx.map ρ) L k
   |none=>False)
  |some .string=>if mx.isNone=true then sliceS (ρ x) (lo.map ρ) (hi.map ρ) k else False
  |_=>False
 | .fieldAddr s x f=>match P.underlying s with
  | some (.struct fs)=>match fs[f]? with
   | some f=>(match bk P f.type with
    |some n=>if n=0 then False else faddr f.offset (ρ x) k
    |none=>False)
   |none=>False
  |_=>False
 | .field s x f=>match P.underlying s with
  | some (.struct fs)=>match fs[f]? with
   | some f=>(match fE P f.type,bk P f.type with
    |some ag,some n=>fld ag n f.offset (ρ x) k
    |_,_=>False)
   |none=>False
  |_=>False
 | .indexAddr t x ix=>match P.underlying t with
  | some (.slice e)=>(match bk P e with
   |some n=>idxR n (ρ x) (ρ ix) L k
   |none=>False)
  | some (.array len e)=>(match bk P e with
   |some n=>idxP len n (ρ x) (ρ ix) k
   |none=>False)
  |_=>False
 | .index t x ix=>match P.underlying t with
  |some .string=>ixS (ρ x) (ρ ix) k
  | some (.array len e)=>(match fE P e,bk P e with
   |some ag,some n=>ixA ag len n (ρ x) (ρ ix) k
   |_,_=>False)
  |_=>False
 |.extract x i=>ext i (ρ x) k
 |.makeMap _ none=>mkmap L K
 | .lookup t m y ok=>match P.underlying t with
  | some (.map kt et)=>(match P.underlying kt,fB P et with
   |some .string,some z=>lookR z ok (ρ m) (ρ y) L k
   |_,_=>False)
  |_=>False
 | .mapUpdate t m y x=>match P.underlying t with
  | some (.map kt _)=>(match P.underlying kt with
   |some .string=>mupR (ρ m) (ρ y) (ρ x) L (K (.tup []))
   |_=>False)
  |_=>False
 | .range t x=>match P.underlying t with
  |some .string=>rngS (ρ x) L K
  |_=>False
 |.next it true=>nextR (ρ it) L K
 | .call c=>match c.callee with
  | .builtin .len=>(match c.args.toList,(c.argTypes[0]?).bind P.underlying with
   |[x],some (.slice _)=>len (ρ x) k
   |[x],some .string=>lenS (ρ x) k
   |[x],some (.array n _)=>(match ρ x with|.str _=>False|_=>K (.int .i64 n) L)
   |_,_=>False)
  | .builtin .append=>(match c.args.toList,c.argTypes.toList with
   | [s,x],[t,tx]=>(match P.underlying t,P.underlying tx with
    | some (.slice e),some (.slice _)=>(match bk P e,iR P e,zof P e with
     |some n,some by_,some z=>if z.length=n/\0<n then appendR n by_ (ρ s) (ρ x) L K else False
     |_,_,_=>False)
    |_,_=>False)
   |_,_=>False)
  | .builtin .min=>(match c.args.toList with
   |[x,y]=>mnx false (ρ x) (ρ y) k
   |_=>False)
  | .builtin .max=>(match c.args.toList with
   |[x,y]=>mnx true (ρ x) (ρ y) k
   |_=>False)
  | .builtin .clear=>(match c.args.toList,c.argTypes.toList with
   | [x],[t]=>(match P.underlying t with
    | some (.slice e)=>(match bk P e,zof P e with
     |some n,some z=>if(z.length=n/\0<n)/\z.all AV.one=true then clearR n z (ρ x) L (K (.tup []))else False
     |_,_=>False)
    |_=>False)
   |_,_=>False)
  | .value f=>(match ρ f with
   |.fn g cs=>ac P g (c.args.toList.map ρ++cs) L K
   |_=>False)
  |_=>False
 |_=>False
end
end W0
end
section
open Go.RowKit
section
variable {P:Program} {F:TypeId->Option (List TypeId)} {ρ:Operand->AV} {L:SH} {K:AV->SH->Prop} {b:Nat} {H:ah}
theorem vA{t:TypeId}{B:Bool}{n u:Nat}{j:List AV}{v:AV}(D:fE P t=some B)(h2:bk P t=some n)(h:W0.rowLd B n j u=some v):jg P t j u=some v:=by
 unfold jg;rw[D,h2];cases B with
 |true=>simpa[W0.rowLd]using h
 |false=>simpa[W0.rowLd]using h
theorem By{place:Nat->Option (Nat×Nat)}:∀(j:List (Nat×AV)) (ps:List (Nat×Nat×AV)) (z cs:List AV),cX (j.map λp=>(place p.1).map λq=>(q.1,q.2,p.2))=some ps->W0.fillR z ps=some cs->vc place z j=some cs
 |[],ps,z,cs,h1,h2=>by cases h1;exact h2
 | (i,v)::j,ps,z,cs,h1,h2=>by
  simp only[aai]at h1;cases hp:place i with
  |none=>rw[hp]at h1;cases h1
  |some q=>
   rw[hp]at h1;simp only[abp,cX]at h1;split at h1
   .rename_i l B;cases h1;simp only[W0.fillR]at h2;simp only[vc,hp];split at h2
    .rename_i E D;rw[D];simp only[];split at h2
     .rename_i u;rw[if_pos u];exact By j l _ cs B h2
     .cases h2
    .cases h2
   .cases h1
theorem vC{α β:Type}(f:α->β):∀l:List α,cX (l.map λx=>some (f x))=some (l.map f)
 |[]=>rfl
 |x::l=>by simp only[aai,cX,vC f l]
theorem Jq{n:Nat}{s:AV}{rows:List (List AV)}(u:mf L H)(h:W0.rowsR L n s rows):hY H n s=some rows:=by
 unfold W0.rowsR at h;split at h
 .subst h;rfl
 .subst h;rfl
 .rename_i l;obtain⟨B,j⟩:=h;subst B;cases rows with
  |nil=>rfl
  |cons r l=>simp[hY,j r rfl]
 .obtain⟨x,j,E,D,rfl⟩:=h;simp[hY,u.get _ j,E,D]
 .exact h.elim
def W0.makes:Op->Bool
 |.alloc ..|.box ..|.buildSlice ..|.makeSlice ..|.makeMap ..|.range ..=>true
 | .call c=>match c.callee with
  |.builtin .append=>true
  |_=>false
 |_=>false
def Qu(P:Program)(F:TypeId->Option (List TypeId))(o:Op)(ρ:Operand->AV)(b:Nat)(L:SH)(H:ah)(K:AV->SH->Prop):Prop:=
 (∃v H' L',bu P F o ρ b H=some (.val v H')/\pI b L H L' H'/\(b∈L'.names->W0.makes o=true/\b∈ai v)/\K v L')\/∃g args,bu P F o ρ b H=some (.call g args)/\ac P g args L K
theorem OO{o:Op}{v:AV}(D:Bd H)(j:mf L H)(E:H.get b=none)(h:bu P F o ρ b H=some (.val v H))(B:K v L):Qu P F o ρ b L H K:=.inl ⟨v,H,L,h,.refl D j,λu=>absurd u (j.not_mem E),B⟩
theorem jr{o:Op}{v:AV}{x:Blk}(E:Bd H)(B:mf L H)(j:b<H.next)(G:H.get b=none)(u:W0.makes o=true/\b∈ai v)(h:bu P F o ρ b H=some (.val v (H.new b x)))(D:K v ((b,x)::L)):Qu P F o ρ b L H K:=.inl ⟨v,_,_,h,.new E B j G x,λ_=>u,D⟩
theorem Nx{t:TypeId}{E:Bool}{n:Nat}{a:AV}{k:AV->Prop}(G:mf L H)(D:fE P t=some E)(h2:bk P t=some n)(h:W0.loadR E n a L k):∃v,ph P H t a=some v/\k v:=by
 unfold W0.loadR at h;split at h
 .obtain⟨x,r,v,M,B,u,j⟩:=h;exact⟨v,by simp[ph,G.get _ M,B,vA D h2 u],j⟩
 .obtain⟨r,v,B,u,j⟩:=h;exact⟨v,by simp[ph,B,vA D h2 u],j⟩
 .exact h.elim
theorem G6{o:Op}(D:Bd H)(B:mf L H)(hlt:b<H.next)(h0:H.get b=none)(h:W0.op P F o ρ L K):Qu P F o ρ b L H K:=by
 have hnb:=B.not_mem h0;have u:∀{o:Op} {v:AV} (_:Bd H) (_:mf L H) (_:bu P F o ρ b H=some (.val v H)) (_:K v L),Qu P F o ρ b L H K:=λD B h hk=>OO D B h0 h hk
 cases o with
 |move x=>exact u D B rfl h
 |assign x=>exact u D B rfl h
 |pick c x y=>obtain⟨t,h1,h2⟩:=h;exact u D B (by simp[bu,h1]) h2
 |alloc t=>
  simp only[W0.op,W0.zof]at h;split at h
  .rename_i cs hc;exact jr D B hlt h0 ⟨rfl,by simp[ai]⟩ (by simp only[bu,hc]) (h b hnb)
  .exact h.elim
 |box t x=>obtain⟨cs,h1,h2,h3⟩:=h;exact jr D B hlt h0 ⟨rfl,by simp[ai]⟩ (by simp only[bu,h1,h2,if_true]) (h3 b hnb)
 |build t parts=>
  simp only[W0.op]at h;split at h
  .rename_i fs z N hz;split at h
   .rename_i hall;split at h
    .rename_i ps hps;obtain⟨cs,h1,h2⟩:=h;refine u D B ?_ h2;have:=By (place:=lz P fs) (parts.toList.map λp=>(p.1,ρ p.2)) ps z cs (by rw[List.map_map];exact hps) h1;simp only[bu,Bg,N,hz];rw[if_pos hall,this];rfl
    .exact h.elim
   .exact h.elim
  .rename_i len e z N hz;split at h
   .rename_i n S;obtain⟨cs,h1,h2⟩:=h;refine u D B ?_ h2;have:=By (place:=λi=>some (i*n,n)) (parts.toList.map λp=>(p.1,ρ p.2)) (parts.toList.map λp=>(p.1*n,n,ρ p.2)) z cs (by
     rw[List.map_map];exact vC (λp:Nat×Operand=>(p.1*n,n,ρ p.2)) parts.toList) h1
    simp only[bu,Bg,N,hz,S,abQ,this];rfl
   .exact h.elim
  .exact h.elim
 |buildSlice t len parts=>
  simp only[W0.op,W0.zof]at h;split at h
  .rename_i e N;split at h
   .rename_i n z S hz;split at h
    .rename_i hc;obtain⟨h1,rows,h2,h3⟩:=h;exact jr D B hlt h0 ⟨rfl,by simp[ai]⟩ (by simp only[bu,N,S,hz];rw[if_pos ⟨hc.1,hc.2,h1⟩,h2];rfl) (h3 b hnb)
    .exact h.elim
   .exact h.elim
  .exact h.elim
 |load t a=>
  simp only[W0.op]at h;split at h
  .rename_i ag n hag S;obtain⟨v,E,O⟩:=Nx B hag S h;exact u D B (by simp[bu,E]) O
  .exact h.elim
 |store t a x=>
  simp only[W0.op]at h;split at h
  .rename_i n S;unfold W0.storeR at h;split at h
   .rename_i c i off ha;obtain⟨y,r,cs,L',E,O,M,Y,g5,g6,g7⟩:=h;have hg:=B.get _ g6.mem;simp only at hg;refine .inl ⟨_,_,L',?_,.put D B g6,λhm=>absurd (g6.names▸hm) hnb,g7⟩;simp only[bu,iy,ha,O,S,hg,E];rw[if_pos ⟨M,Y,g5⟩];rfl
   .exact h.elim
  .exact h.elim
 |nilCheck x=>
  simp only[W0.op,W0.nilchk]at h;split at h
  .rename_i G;exact u D B (by simp[bu,G]) h
  .rename_i G;exact u D B (by simp[bu,G]) h
  .rename_i G;exact u D B (by simp[bu,G]) h
  .exact h.elim
 |binOp op t x y c=>obtain⟨v,h1,h2⟩:=h;exact u D B (by simp[bu,h1]) h2
 |unOp op t x=>obtain⟨v,h1,h2⟩:=h;exact u D B (by simp[bu,h1]) h2
 |convert s d x=>
  simp only[W0.op]at h;split at h
  .rename_i h1 h2;obtain⟨k',n,h3,h4⟩:=h;exact u D B (by simp[bu,IW,h1,h2,h3]) h4
  .rename_i h1 h2;obtain⟨s,h3,h4⟩:=h;exact u D B (by simp[bu,IW,h1,h2,h3]) h4
  .exact h.elim
 |makeFunc fn first cap=>
  cases fn with
  |func f=>
   simp only[W0.op]at h;split at h
   .rename_i h1;exact u D B (by simp only[bu];rw[if_pos h1]) h
   .exact h.elim
  |_=>exact h.elim
 |makeSlice t l c=>
  simp only[W0.op,W0.zof]at h;split at h
  .rename_i e N;split at h
   .rename_i n by_ z S hby hz;split at h
    .rename_i hc;obtain⟨k,k',i,j,h1,h2,h3,h4,h5,h6⟩:=h;refine jr D B hlt h0 ⟨rfl,by simp[ai]⟩ ?_ (h6 b hnb);simp only[bu,N,S,hby,hz,h1,h2,gQ];simp only[Int.natCast_nonneg,if_true,abw];rw[if_pos ⟨hc.1,hc.2,h3,h4,h5⟩]
    .exact h.elim
   .exact h.elim
  .exact h.elim
 |slice t x lo hi mx=>
  simp only[W0.op]at h;split at h
  .exact h.elim
  .rename_i hhm;split at h
   .rename_i e N;split at h
    .rename_i n S;obtain⟨len,l,hh,m,E,O,M,Y,g5,g6,g7,g8⟩:=h;have key:∀v,md P (n0 H (ρ x)) t (ρ x) (lo.map ρ) (hi.map ρ) (mx.map ρ)=some v->K v L->Qu P F (.slice t x lo hi mx) ρ b L H K:=λv hv hk=>
      u D B (by simp only[bu];rw[if_neg hhm,hv];rfl) hk
     split at g8
     .rename_i G;refine key _ ?_ g8;rw[G]at E;simp only[md,N,G,E,O,M,Y];rw[if_pos ⟨⟨g5,g6,g7⟩,by rw[S];rfl⟩]
     .rename_i c i q G;obtain⟨⟨y,k1,k2⟩,k3⟩:=g8;refine key _ ?_ k3;have hg:=B.get _ k1;simp only at hg;rw[G]at E;simp only[md,N,G,E,O,M,Y];rw[if_pos ⟨⟨g5,g6,g7⟩,by rw[S];rfl⟩];simp only[n0,hg,abp,k2];rw[if_pos ⟨rfl,S⟩]
     .rename_i rows G;obtain⟨⟨k0,k2⟩,k3⟩:=g8;refine key _ ?_ k3;rw[G]at E;simp only[md,N,G,E,O,M,Y];rw[if_pos ⟨⟨g5,g6,g7⟩,by rw[S];rfl⟩,if_neg (by rw[k0];simp)];cases rows with
      |nil=>simp
      |cons r rs=>simp only[S,k2 r rfl,if_true]
     .exact g8.elim
    .exact h.elim
   .rename_i N;split at h
    .rename_i hmx;obtain⟨s,l,hh,E,O,M,Y,g5,g6⟩:=h;refine u D B ?_ g6;have:mx=none:=by simpa using hmx
     subst this;simp only[bu];rw[if_neg hhm];simp only[md,N,E,Option.map_none];rw[show cE (Option.map ρ lo) 0=some l from O,show cE (Option.map ρ hi) s.length=some hh from M];simp[Y,g5]
    .exact h.elim
   .exact h.elim
 |fieldAddr s x f=>
  simp only[W0.op]at h;split at h
  .rename_i fs N;split at h
   .rename_i fl hf;split at h
    .rename_i n S;split at h
     .exact h.elim
     .rename_i hn0;unfold W0.faddr at h;split at h
      .rename_i G;exact u D B (by simp[bu,kB,N,hf,S,hn0,G]) h
      .rename_i G;exact u D B (by simp[bu,kB,N,hf,S,hn0,G]) h
      .exact h.elim
    .exact h.elim
   .exact h.elim
  .exact h.elim
 |field s x f=>
  simp only[W0.op]at h;split at h
  .rename_i fs N;split at h
   .rename_i fl hf;split at h
    .rename_i ag n hag S;obtain⟨cs,v,E,O,M⟩:=h;exact u D B (by simp[bu,GW,N,hf,E,vA hag S O]) M
    .exact h.elim
   .exact h.elim
  .exact h.elim
 |indexAddr t x ix=>
  simp only[W0.op]at h;split at h
  .rename_i e N;split at h
   .rename_i n S;unfold W0.idxR at h;split at h
    .rename_i c j m G;obtain⟨k,i,y,E,O,M,Y,g5,g6⟩:=h;have hg:=B.get _ Y;simp only at hg;refine u D B ?_ g6;have hneg:¬i<0:=by omega
     simp[bu,fF,G,E,hneg,N,n0,hg,M,g5,S]
    .rename_i rows G;obtain⟨k,i,r,E,O,M,Y,g5⟩:=h;refine u D B ?_ g5;have hneg:¬i<0:=by omega
     simp[bu,fF,G,E,hneg,N,M,Y,S]
    .exact h.elim
   .exact h.elim
  .rename_i len e N;split at h
   .rename_i n S;obtain⟨k,i,E,O,M,Y⟩:=h;have hneg:¬i<0:=by omega
    split at Y
    .rename_i G;exact u D B (by simp[bu,fF,G,E,hneg,N,M,S]) Y
    .rename_i G;exact u D B (by simp[bu,fF,G,E,hneg,N,M,S]) Y
    .exact Y.elim
   .exact h.elim
  .exact h.elim
 |index t x ix=>
  simp only[W0.op]at h;split at h
  .rename_i N;obtain⟨s,k,i,y,E,O,M,Y,g5⟩:=h;have hneg:¬i<0:=by omega
   exact u D B (by simp[bu,Bh,N,E,O,hneg,Y]) g5
  .rename_i len e N;split at h
   .rename_i ag n hag S;obtain⟨cs,k,i,v,E,O,M,Y,g5,g6⟩:=h;refine u D B ?_ g6;simp only[bu,Bh,N,E,O];rw[if_pos ⟨M,Y⟩,S];simp only[abQ,vA hag S g5];rfl
   .exact h.elim
  .exact h.elim
 |extract x i=>obtain⟨vs,v,E,O,M⟩:=h;exact u D B (by simp[bu,E,O]) M
 |call c=>
  simp only[W0.op]at h;split at h
  .rename_i hc;split at h
   .rename_i x e ha ht;obtain⟨n,E,O⟩:=h;refine u D B ?_ O;cases G:ρ x<;>rw[G]at E<;>first|(cases E;done)|simp[bu,hc,ha,bE,G,ht,E]
   .rename_i x ha ht;obtain⟨s,E,O⟩:=h;exact u D B (by simp[bu,hc,ha,bE,E,ht]) O
   .rename_i x n e ha ht;split at h
    .exact h.elim
    .rename_i hne;refine u D B ?_ h;cases G:ρ x<;>first|(exact absurd G (hne _))|simp[bu,hc,ha,bE,G,ht]
   .exact h.elim
  .rename_i hc;split at h
   .rename_i s x t tx ha ht;split at h
    .rename_i e e' N hux;split at h
     .rename_i n by_ z S hby hz;split at h
      .rename_i Z;obtain⟨l,m,E,O,M,Y,g5,g6⟩:=h;have r1:=Jq B E;have r2:=Jq B O;have key:∀v H',eh P H b t (ρ s) (ρ x)=some (v,H')->bu P F (.call c) ρ b H=some (.val v H'):=λv H' hv=>by simp only[bu,hc,ha,aai,abF,bE,ht,hux,hv];rfl
       have hz':(fB P e).bind AV.cells? =some z:=hz;split at g6
       .rename_i G;by_cases hm:m.length=0
        .exact u D B (key _ _ (by rw[G]at r1 ⊢;simp only[eh,N,S,hby,hz',r1,r2];rw[if_pos ⟨M,Y,Z.2,Z.1,g5⟩,if_pos hm])) (g6.1 hm)
        .exact jr D B hlt h0 ⟨by simp[W0.makes,hc],by simp[ai]⟩ (key _ _ (by rw[G]at r1 ⊢;simp only[eh,N,S,hby,hz',r1,r2];rw[if_pos ⟨M,Y,Z.2,Z.1,g5⟩,if_neg hm])) (g6.2 hm b hnb)
       .rename_i G;by_cases hm:m.length=0
        .exact u D B (key _ _ (by rw[G]at r1 ⊢;simp only[eh,N,S,hby,hz',r1,r2];rw[if_pos ⟨M,Y,Z.2,Z.1,g5⟩,if_pos hm])) (g6.1 hm)
        .exact jr D B hlt h0 ⟨by simp[W0.makes,hc],by simp[ai]⟩ (key _ _ (by rw[G]at r1 ⊢;simp only[eh,N,S,hby,hz',r1,r2];rw[if_pos ⟨M,Y,Z.2,Z.1,g5⟩,if_neg hm])) (g6.2 hm b hnb)
       .rename_i b' i' k' G;obtain⟨y,L',k1,k2⟩:=g6;have f1:=pI.del (b:=b) D B k1;have hb':b≠b':=λe=>by have:=B.get _ (k1.perm.mem_iff.2 acJ);rw[<-e,h0]at this;cases this
        have f2:pI b L' (H.put b' none) ((b,⟨n,l++m⟩)::L') ((H.put b' none).new b ⟨n,l++m⟩):=.new f1.bd f1.sub hlt (by rw[ah.get_put,if_neg (λe=>hb' e.symm)];exact h0) _;exact .inl ⟨_,_,_,key _ _ (by rw[G]at r1 ⊢;simp only[eh,N,S,hby,hz',r1,r2];rw[if_pos ⟨M,Y,Z.2,Z.1,g5⟩]),f1.trans f2,λ_=>⟨by simp[W0.makes,hc],by simp[ai]⟩,k2 b hnb⟩
       .exact g6.elim
      .exact h.elim
     .exact h.elim
    .exact h.elim
   .exact h.elim
  .rename_i hc;split at h
   .rename_i x y ha;obtain⟨k,a,d,E,O,M⟩:=h;exact u D B (by simp[bu,hc,ha,bE,E,O]) M
   .exact h.elim
  .rename_i hc;split at h
   .rename_i x y ha;obtain⟨k,a,d,E,O,M⟩:=h;exact u D B (by simp[bu,hc,ha,bE,E,O]) M
   .exact h.elim
  .rename_i hc;split at h
   .rename_i x t ha ht;split at h
    .rename_i e N;split at h
     .rename_i n z S hz;have hz':(fB P e).bind AV.cells? =some z:=hz;split at h
      .rename_i Z;have key:∀H',gM P H t (ρ x)=some H'->bu P F (.call c) ρ b H=some (.val (.tup []) H'):=λH' hv=>by simp only[bu,hc,ha,aai,abF,bE,ht,hv];rfl
       unfold W0.clearR at h;split at h
       .rename_i G;exact u D B (key _ (by rw[G];simp only[gM,N,S,hz'])) h
       .rename_i d i k G;obtain⟨y,L',E,O,M,Y⟩:=h;have hg:=B.get _ M.mem;simp only at hg;refine .inl ⟨_,_,L',key _ ?_,.put D B M,λhm=>absurd (M.names▸hm) hnb,Y⟩;rw[G];simp only[gM,N,S,hz',hg];rw[if_pos ⟨⟨E,Z.1.1⟩,⟨Z.1.2,O⟩,Z.2⟩]
       .exact h.elim
      .exact h.elim
     .exact h.elim
    .exact h.elim
   .exact h.elim
  .rename_i f hc;split at h
   .rename_i g cs hf;exact .inr ⟨g,_,by simp[bu,hc,hf],h⟩
   .exact h.elim
  .exact h.elim
 |makeMap t r=>
  cases r with
  |none=>exact jr D B hlt h0 ⟨rfl,by simp[ai]⟩ rfl (h b hnb)
  |some r=>exact h.elim
 |lookup t m k ok=>
  simp only[W0.op]at h;split at h
  .rename_i kt et N;split at h
   .rename_i z hk hz;unfold W0.lookR at h;split at h
    .rename_i c s hm hks;obtain⟨x,E,O,M⟩:=h;have hg:=B.get _ E;simp only at hg;refine u D B ?_ M;simp only[bu,lB,N,hm,hks,hk,hz,hg];rw[if_pos O];rfl
    .exact h.elim
   .exact h.elim
  .exact h.elim
 |mapUpdate t m k x=>
  simp only[W0.op]at h;split at h
  .rename_i kt et N;split at h
   .rename_i hk;unfold W0.mupR at h;split at h
    .rename_i c s hm hks;obtain⟨y,L',E,O,M,Y⟩:=h;have hg:=B.get _ M.mem;simp only at hg;refine .inl ⟨_,_,L',?_,.put D B M,λhm=>absurd (M.names▸hm) hnb,Y⟩;simp only[bu,gy,N,hm,hks,hk,hg];rw[if_pos ⟨E,O⟩];rfl
    .exact h.elim
   .exact h.elim
  .exact h.elim
 |range t x=>
  simp only[W0.op]at h;split at h
  .rename_i N;obtain⟨s,G,h1⟩:=h;exact jr D B hlt h0 ⟨rfl,by simp[ai]⟩ (by simp only[bu,N,G]) (h1 b hnb)
  .exact h.elim
 |next it s=>
  cases s with
  |false=>exact h.elim
  |true=>
   simp only[W0.op]at h;unfold W0.nextR at h;split at h
   .rename_i c hi;obtain⟨x,s,k,pos,E,O,M⟩:=h;have hg:=B.get _ E;simp only at hg;split at M
    .rename_i hp;obtain⟨L',Y,g5⟩:=M;refine .inl ⟨_,_,L',?_,.put D B Y,λhm=>absurd (Y.names▸hm) hnb,g5⟩;simp only[bu,jN,hi,hg,O];rw[if_pos hp];rfl
    .rename_i hp;refine u D B ?_ M;simp only[bu,jN,hi,hg,O];rw[if_neg hp];rfl
   .exact h.elim
 |_=>exact h.elim
end
end
end Go.Proofs.YtfckbjehkbhkgaaGreat.Am
section
namespace Go.Proofs.YtfckbjehkbhkgaaGreat
open Go.ChangeShapes Go.WideShapes Go.ChangeAt Go.RowKit
def elemB:Elem Tryz.prog 35 4 (.bool false) 1 1:=elem_mk Tryz.underlying35 (by kernel_rfl) rfl acR
def cloneB_any(A:Option Addr)(n c:Nat)(xs:List Value)(w:World)(G:Flat w 1 A n xs)(N:∀x∈xs,x.oneCell'=true)(hn:n*1<=140737488355328)(M:A=none->n=0):
  Calls Tryz.prog 51 #[.slice A n c] w λe w'=>∃v,e=.returned v/\w'.ownsRow w.heap.size 4 1 v n xs/\Below w.heap.size w w':=by
 have D:=Lib.hid G;have S:=Lib.hid N;clear G N;have Y:=λ(W:World) (a:Option Addr) (l c:Nat)=>Lib.run_eql_slice_nil (P:=Tryz.prog) W 35 4 a l c 0 0 Tryz.underlying35;cases A with
 |none=>
  obtain rfl:n=0:=M rfl;have E:xs=[]:=ace (by have:=D.out.1;simpa using this);have Z:=Lib.hid E;clear E D S
  go_enter Tryz.func51,Tryz.ntmps51
  go_wp2_with fail
  go_ret
  exact⟨_,rfl,by rw[Z.out];exact World.ownsRow_nil _ _ _ _,Below.refl _ _⟩
 |some a=>
  clear M;have O:Hid ((w.alloc (.cells #[] 4)).ownsRow w.heap.size 4 1 (.slice (some ⟨w.heap.size,0,none⟩) 0 0) 0 []):=Lib.hid (World.ownsRow_made w #[] 0 (Fd _) (by simp[maxLen]) acQ)
  go_enter Tryz.func51,Tryz.ntmps51
  go_wp2_with (at_builtin;go_must (refine wpList_app rfl (.tmp 5) (.tmp 6) rfl elemB w.heap.size _ 0 [] rfl O.out (some a) n c xs rfl (D.out.kept ((Below.refl _ _).alloc (Fd _) _)) S.out (by simp only[maxLen];omega) acN acQ ?_);intro v1 w1 j u)
  have B:=((Below.refl w.heap.size w).alloc (Fd _) _).grown u acQ (own_from O.out)
  go_wp2_with fail
  go_ret
  exact⟨_,rfl,by simpa using j,B⟩
end Go.Proofs.YtfckbjehkbhkgaaGreat
end
section
namespace Go.Proofs.YtfckbjehkbhkgaaGreat
open Go.ChangeShapes Go.WideShapes Go.ChangeAt Go.RowKit
def elemT:Elem Tryz.prog 36 111 (.agg #[.int .i64 0,.int .i64 0,.bool false]) 3 24:=elem_mk Tryz.underlying36 (by kernel_rfl) rfl acR
def cloneT_any(A:Option Addr)(n c:Nat)(xs:List Value)(w:World)(G:Flat w 3 A n xs)(N:∀x∈xs,x.oneCell'=true)(hn:n*24<=140737488355328)(M:A=none->n=0):
  Calls Tryz.prog 69 #[.slice A n c] w λe w'=>∃v,e=.returned v/\w'.ownsRow w.heap.size 111 3 v n xs/\Below w.heap.size w w':=by
 have D:=Lib.hid G;have S:=Lib.hid N;clear G N;have Y:=λ(W:World) (a:Option Addr) (l c:Nat)=>Lib.run_eql_slice_nil (P:=Tryz.prog) W 36 111 a l c 0 0 Tryz.underlying36;cases A with
 |none=>
  obtain rfl:n=0:=M rfl;have E:xs=[]:=ace (by have:=D.out.1;simpa using this);have Z:=Lib.hid E;clear E D S
  go_enter Tryz.func69,Tryz.ntmps69
  go_wp2_with fail
  go_ret
  exact⟨_,rfl,by rw[Z.out];exact World.ownsRow_nil _ _ _ _,Below.refl _ _⟩
 |some a=>
  clear M;have O:Hid ((w.alloc (.cells #[] 111)).ownsRow w.heap.size 111 3 (.slice (some ⟨w.heap.size,0,none⟩) 0 0) 0 []):=Lib.hid (World.ownsRow_made w #[] 0 (Fd _) (by simp[maxLen]) acQ)
  go_enter Tryz.func69,Tryz.ntmps69
  go_wp2_with (at_builtin;go_must (refine wpList_app rfl (.tmp 5) (.tmp 6) rfl elemT w.heap.size _ 0 [] rfl O.out (some a) n c xs rfl (D.out.kept ((Below.refl _ _).alloc (Fd _) _)) S.out (by simp only[maxLen];omega) acN acQ ?_);intro v1 w1 j u)
  have B:=((Below.refl w.heap.size w).alloc (Fd _) _).grown u acQ (own_from O.out)
  go_wp2_with fail
  go_ret
  exact⟨_,rfl,by simpa using j,B⟩
end Go.Proofs.YtfckbjehkbhkgaaGreat
end
section
namespace Go.Proofs.YtfckbjehkbhkgaaGreat
open Go.ChangeShapes Go.WideShapes Go.ChangeAt Go.RowKit
def elemC:Elem Tryz.prog 46 80 (.agg #[.int .i64 0,.bool false]) 2 16:=elem_mk Tryz.underlying46 (by kernel_rfl) rfl acR
def cloneC_any(A:Option Addr)(n c:Nat)(xs:List Value)(w:World)(G:Flat w 2 A n xs)(N:∀x∈xs,x.oneCell'=true)(hn:n*16<=140737488355328)(M:A=none->n=0):
  Calls Tryz.prog 50 #[.slice A n c] w λe w'=>∃v,e=.returned v/\w'.ownsRow w.heap.size 80 2 v n xs/\Below w.heap.size w w':=by
 have D:=Lib.hid G;have S:=Lib.hid N;clear G N;have Y:=λ(W:World) (a:Option Addr) (l c:Nat)=>Lib.run_eql_slice_nil (P:=Tryz.prog) W 46 80 a l c 0 0 Tryz.underlying46;cases A with
 |none=>
  obtain rfl:n=0:=M rfl;have E:xs=[]:=ace (by have:=D.out.1;simpa using this);have Z:=Lib.hid E;clear E D S
  go_enter Tryz.func50,Tryz.ntmps50
  go_wp2_with fail
  go_ret
  exact⟨_,rfl,by rw[Z.out];exact World.ownsRow_nil _ _ _ _,Below.refl _ _⟩
 |some a=>
  clear M;have O:Hid ((w.alloc (.cells #[] 80)).ownsRow w.heap.size 80 2 (.slice (some ⟨w.heap.size,0,none⟩) 0 0) 0 []):=Lib.hid (World.ownsRow_made w #[] 0 (Fd _) (by simp[maxLen]) acQ)
  go_enter Tryz.func50,Tryz.ntmps50
  go_wp2_with (at_builtin;go_must (refine wpList_app rfl (.tmp 5) (.tmp 6) rfl elemC w.heap.size _ 0 [] rfl O.out (some a) n c xs rfl (D.out.kept ((Below.refl _ _).alloc (Fd _) _)) S.out (by simp only[maxLen];omega) acN acQ ?_);intro v1 w1 j u)
  have B:=((Below.refl w.heap.size w).alloc (Fd _) _).grown u acQ (own_from O.out)
  go_wp2_with fail
  go_ret
  exact⟨_,rfl,by simpa using j,B⟩
end Go.Proofs.YtfckbjehkbhkgaaGreat
end
