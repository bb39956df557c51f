/- A part of the proof; the statement is proved in the last part. -/
import Derived.Test.YtdnpdghlggbklaaGreatDoorQsc
set_option linter.unusedSimpArgs false
set_option linter.unusedVariables false
namespace Go.Proofs.YtdnpdghlggbklaaGreatDoor.Am
section
section
variable {P:Program} {F:TypeId→Option (List TypeId)} {call:FuncId→List AV→ac→Option (AV×ac)} {ops:Array Oper} {base:Nat} {τ0:List AV} {H0:ac}
theorem KX(rf:cZ P F call ops base τ0 H0)(L:Nat→Bool):H0.next≤Gx P F call ops base τ0 H0 L:=by
 unfold Gx;split
 ·rename_i j hj;exact rf.le (j+1) (CZ hj)
 ·exact VL _
theorem zh{L:Nat→Bool}{i c:Nat}(h:cL (fQ P F call ops base τ0 H0 i) c=false):hget P F call ops base τ0 H0 (iQ L i) c=hget P F call ops base τ0 H0 L c:=by have hl:cu (λj=>iQ L i j&&cL (fQ P F call ops base τ0 H0 j) c) ops.size=cu (λj=>L j&&cL (fQ P F call ops base τ0 H0 j) c) ops.size:=my (p:=λj=>cL (fQ P F call ops base τ0 H0 j) c) h;unfold hget;rw[hl]
theorem H9{L:Nat→Bool}{i c:Nat}(nx:Next ops L i)(h:cL (fQ P F call ops base τ0 H0 i) c=true)(hl:∀j,j<ops.size→j≠i→touched (fQ P F call ops base τ0 H0 j) c→i<j→((bT ops.toList []).getD j 0).testBit i=true):hget P F call ops base τ0 H0 (iQ L i) c=(ep P F call ops base τ0 H0 (i+1)).2.get c:=by
 have hw:cu (λj=>iQ L i j&&cL (fQ P F call ops base τ0 H0 j) c) ops.size=some i:=zg (p:=λj=>cL (fQ P F call ops base τ0 H0 j) c) nx.lt nx.not h λj hj hne ht hlt=>nx.behind hj (hl j hj hne (sI.1 ht) hlt)
 unfold hget;rw[hw]
theorem M7(fit:Fit P F)(hs:ed P call)(hch:∀f args H v H',Bd H→call f args H=some (v,H')→A4 H H')(run:lB P F call ops base τ0 H0)(rf:cZ P F call ops base τ0 H0)(hst:mz ops)(hb:base+ops.size=H0.next)
  {w0:World} {σ0:bb} {L:Nat→Bool} {i:Nat} {a:Act} {w:World} (nx:Next ops L i) (h:Tl P F call ops base τ0 H0 w0 σ0 L a w) {Q:Exit→Act→World→Prop}:wpOp P ops Q i (Tl P F call ops base τ0 H0 w0 σ0 (iQ L i)) a w:=by
 obtain⟨σ,K,hW,hK,hn,hsz,hdf,hrep,hE0,hnm,hfr⟩:=h;have hi:=nx.lt;obtain⟨o,ho⟩:∃o,ops[i]? =some o:=⟨_,Wc hi⟩;obtain⟨hu,hwt⟩:=M6 run rf hst nx ho;have htm:=Ts rf hsz hdf hrep;have hbi:σ (base+i)=none:=hfr i hi nx.not;have hKb:K.get (base+i)=none:=by
  cases hg:K.get (base+i)with
  |none=>rfl
  |some x=>obtain⟨pl,_,_,h1,_⟩:=hW.live _ x hg;rw[hbi]at h1;cases h1
 have hSb:(ep P F call ops base τ0 H0 i).2.get (base+i)=none:=rf.fresh i i (VL _) hi;have hlt:base+i<K.next:=by have:=KX rf L;rw[hn];omega
 have hfresh:∀{σ':bb},(∀c pl,σ' c=some pl→σ c=some pl∨c=base+i∨K.next≤c)→∀j,j<ops.size→iQ L i j=false→σ' (base+j)=none:=λ{σ'} hσ j hj hLj=>by
  have hji:j≠i:=by rintro rfl;simp[iQ]at hLj
  have hL:L j=false:=by simpa[iQ,hji]using hLj
  cases hg:σ' (base+j)with
  |none=>rfl
  |some pl=>
   have hge:=KX rf L;rcases hσ _ pl hg with h1|h1|h1
   ·rw[hfr j hj hL]at h1;cases h1
   ·omega
   ·omega
 have hstep:=run.step i hi;unfold bu at hstep;rw[ho]at hstep;simp only[]at hstep;unfold wpOp;rw[ho];simp only[];split at hstep
 ·rename_i hwant;rw[←hwt]at hwant;rw[if_pos (iO htm hwant)];left;unfold Oper.wp;split at hstep
  ·rename_i v H' hop;simp only[VU,Prod.mk.injEq]at hstep;obtain⟨e1,e2,e3⟩:=hstep;obtain⟨q1,q2,q3⟩:=KV (P:=P) (F:=F) hu (base+i) (ep P F call ops base τ0 H0 i).2;have hop2:aK P F o.op (jT (tl P F call ops base τ0 H0 L)) (base+i) (ep P F call ops base τ0 H0 i).2=some (.val v H'):=by rw[←q1];exact hop
   have hreads:∀c,c∈aE o.op (jT (tl P F call ops base τ0 H0 L))→∃x,(ep P F call ops base τ0 H0 i).2.get c=some x∧∀j,j<ops.size→j≠i→touched (fQ P F call ops base τ0 H0 j) c→(j<i→((bT ops.toList []).getD i 0).testBit j=true)∧(i<j→((bT ops.toList []).getD j 0).testBit i=true):=λc hc=>by obtain⟨x,hx⟩:=H6 hop2 hc;exact⟨x,hx,M4 run rf hi e3.symm (by show c∈aE o.op (jT (ep P F call ops base τ0 H0 i).1);rw[q2];exact hc) hx⟩
   have hr:∀c∈aE o.op (jT (tl P F call ops base τ0 H0 L)),K.get c=(ep P F call ops base τ0 H0 i).2.get c:=λc hc=>by obtain⟨x,_,h1⟩:=hreads c hc;rw[hK];exact KW run rf nx h1
   obtain⟨K',l1,l2,l3⟩:=LT hop2 K hr (by rw[hKb,hSb]);obtain⟨v',w',σ',h1,h2,h3,h4,h5⟩:=FM fit hW hbi hlt (o:=o) (htm.eval hW.glob) l1;have htouch:∀c,cL (fQ P F call ops base τ0 H0 i) c=true↔(c∈aC o.op (jT (tl P F call ops base τ0 H0 L))∨c=base+i):=λc=>by rw[←e3,←q3];simp[cL]
   have hinv:Tl P F call ops base τ0 H0 w0 σ0 (iQ L i) (a.put o.dst v') w':=by
    obtain⟨t1,t2⟩:=C0 run rf hst nx ho e1.symm h2 hsz hrep (λx u hxu=>hxu.mono h4);refine⟨σ',K',h3,λc=>?_,?_,t1,by cases o.dst<;>exact hdf,t2,hE0.trans h4,λc pl hc=>?_,hfresh (λc pl hc=>?_)⟩
    ·rw[l3];cases ht:cL (fQ P F call ops base τ0 H0 i) c with
     |true=>
      have hc:=(htouch c).1 ht;rw[if_pos hc,H9 nx ht,←e2]
      ·rfl
      ·intro j hj hne hjt hlt';rcases hc with hc|hc
       ·obtain⟨x,_,h6⟩:=hreads c (vW hc);exact(h6 j hj hne hjt).2 hlt'
       ·obtain⟨y,hy,hyt⟩:=hjt;rcases run.free j i _ y hlt' hj e3.symm hy with h6|h6
        ·exact h6
        ·exfalso;have fr:=ez h6;rcases hyt with t|t|⟨t3,t4,_⟩
         ·exact fr.mw c (by simp[hc]) t
         ·have:=((rf.chg j hj).made y hy).1 c t;omega
         ·have:=((rf.chg j hj).made y hy).2 t3;have:=rf.le j Xr;omega
     |false=>rw[if_neg (λhc=>by rw[(htouch c).2 hc]at ht;cases ht),zh ht,hK]
    ·rw[l2,hn];have:hC (fQ P F call ops base τ0 H0 i)=false:=by rw[←e3];rfl
     have hl:cu (λj=>iQ L i j&&hC (fQ P F call ops base τ0 H0 j)) ops.size=cu (λj=>L j&&hC (fQ P F call ops base τ0 H0 j)) ops.size:=my (p:=λj=>hC (fQ P F call ops base τ0 H0 j)) this;unfold Gx;rw[hl]
    ·rcases h5 c pl hc with h6|h6
     ·exact hnm c pl h6
     ·exact .inr Xr
    ·rcases h5 c pl hc with h6|h6
     ·exact .inl h6
     ·exact .inr (.inl h6)
   rcases h1 with h1|⟨h1,rfl⟩
   ·rw[h1];exact hinv
   ·rw[h1];exact hinv
  ·rename_i f args hop;split at hstep
   ·rename_i v H1 hcall;simp only[VU,Prod.mk.injEq]at hstep;obtain⟨e1,e2,e3⟩:=hstep;obtain⟨q1,q2,q3⟩:=KV (P:=P) (F:=F) hu (base+i) (ep P F call ops base τ0 H0 i).2;have hop2:aK P F o.op (jT (tl P F call ops base τ0 H0 L)) (base+i) (ep P F call ops base τ0 H0 i).2=some (.call f args):=by rw[←q1];exact hop
    have hopK:=CX hop2 K;obtain⟨fn,cd,hf,hbd⟩:=hs.body _ _ _ _ _ hcall;obtain⟨vs,g1,g2⟩:=HV fit (o:=o) (b:=base+i) (htm.eval hW.glob) hopK hf hbd;have hHg:=gZ base ((bT ops.toList []).getD i 0) i (ep P F call ops base τ0 H0 i).2;have hHn:=(fE base ((bT ops.toList []).getD i 0) i (ep P F call ops base τ0 H0 i).2).1;generalize hHc:dh base ((bT ops.toList []).getD i 0) i (ep P F call ops base τ0 H0 i).2=Hh at hcall e3 hHg hHn;have hbdc:Bd ({Hh with log:=[]}:ac):=λd hd=>by
     show Hh.get d=none;rw[hHg];split
     ·rfl
     ·exact rf.bd i Xr d (by rw[←hHn];exact hd)
    have hcg:A4 ({Hh with log:=[]}:ac) H1:=hch _ _ _ _ _ hbdc hcall;generalize hHc2:({Hh with log:=[]}:ac)=Hc at hcall hcg hbdc;have hHg:∀c,Hc.get c=if(∃j,j<i∧((bT ops.toList []).getD i 0).testBit j=false∧c=base+j)then none else(ep P F call ops base τ0 H0 i).2.get c:=λc=>by rw[←hHc2];exact hHg c
    have hHn:Hc.next=(ep P F call ops base τ0 H0 i).2.next:=by rw[←hHc2];exact hHn
    have hHh:∀c,Hh.get c=Hc.get c:=λc=>by rw[←hHc2];rfl
    have htouch:∀c,cL (fQ P F call ops base τ0 H0 i) c=true↔((c∈H1.log∧(Hc.get c).isSome=true)∨((ep P F call ops base τ0 H0 i).2.next≤c∧c<H1.next)):=λc=>by rw[←e3];simp[cL,hHh]
    have hKn:K.next=(ep P F call ops base τ0 H0 i).2.next:=by
     rw[hn,JS run i Xr,Gx,oW (p:=λj=>hC (fQ P F call ops base τ0 H0 j)) hi nx.not];intro j hj hne hcj;cases hx:fQ P F call ops base τ0 H0 j with
     |none=>rw[hx]at hcj;cases hcj
     |some x=>
      rw[hx]at hcj;refine⟨λhl=>?_,λhl=>?_⟩
      ·rcases run.free i j x _ hl hi hx e3.symm with h6|h6
       ·exact nx.before h6
       ·have:=(ez h6).cc hcj;cases this
      ·rcases run.free j i _ x hl hj e3.symm hx with h6|h6
       ·exact nx.behind hj h6
       ·have:=(ez h6).cc rfl;have h7:x.isCall=true:=hcj;rw[h7]at this;cases this
    have hsub:∀c x,Hc.get c=some x→K.get c=some x:=λc x hx=>by
     rw[hHg]at hx;split at hx
     ·cases hx
     ·rename_i hnh;rw[hK,KW run rf nx ?_]
      ·exact hx
      ·intro j hj hne ht;obtain⟨y,hy,hyt⟩:=ht;refine⟨λhl=>?_,λhl=>?_⟩
       ·cases hbit:((bT ops.toList []).getD i 0).testBit j with
        |true=>rfl
        |false=>
         exfalso;rcases run.free i j y _ hl hi hy e3.symm with h6|h6
         ·rw[hbit]at h6;cases h6
         ·have fr:=ez h6;rcases hyt with t|t|⟨t3,_,_⟩
          ·exact fr.wc rfl c t
          ·exact hnh ⟨j,hl,hbit,((rf.chg j hj).made y hy).1 c t⟩
          ·have:=fr.cc t3;cases this
       ·rcases later run rf hl hj e3.symm hy ⟨y,hy,hyt⟩ hx with h6|⟨fr,h6|⟨_,h6⟩⟩
        ·exact h6
        ·exact absurd h6 (fr.cw rfl c)
        ·exact h6.elim
    have hnK:Hc.next=K.next:=by rw[hHn,hKn]
    have hWc:=hW.part hsub (by rw[hnK];exact VL _);rw[g1];refine(hs.ok _ _ _ _ _ hcall w (σ.part K Hc) vs hWc ⟨g2.1,λq x u hx hu=>by rw[vV hsub];exact aT.sig (σ:=σ) (σ':=σ.part K Hc) rfl (g2.2 q x u hx hu)⟩).mono ?_;rintro e w' ⟨v',σ',rfl,k1,k2,k3,k4⟩;have hK1:=hcg.next;obtain⟨K',hK'n,hK'g⟩:∃K':ac,K'.next=H1.next∧∀c,K'.get c=if cL (fQ P F call ops base τ0 H0 i) c=true then H1.get c else K.get c:=by
     refine⟨{FQ H1 (H1.log.filter (λc=>(Hc.get c).isSome)++List.range' K.next (H1.next-K.next)) K with next:=H1.next},rfl,λc=>?_⟩;show(FQ H1 _ K).get c=_;rw[H7];have:c∈(H1.log.filter (λc=>(Hc.get c).isSome)++List.range' K.next (H1.next-K.next))↔cL (fQ P F call ops base τ0 H0 i) c=true:=by
      rw[htouch,VY,Xc,List.mem_range'_1,hKn];constructor
      ·rintro(h6|h6)
       ·exact .inl h6
       ·exact .inr Xr
      ·rintro(h6|h6)
       ·exact .inl h6
       ·exact .inr Xr
     by_cases ht:cL (fQ P F call ops base τ0 H0 i) c=true
     ·rw[if_pos (this.2 ht),if_pos ht]
     ·rw[if_neg (λh6=>ht (this.1 h6)),if_neg ht]
    have hbd1:Bd H1:=hcg.bd hbdc;have hform:∀c,K'.get c=if Hc.get c=none∧c<K.next then K.get c else H1.get c:=λc=>by
     rw[hK'g];by_cases ht:cL (fQ P F call ops base τ0 H0 i) c=true
     ·rw[if_pos ht,if_neg];rintro⟨h6,h7⟩;rcases(htouch c).1 ht with⟨_,h8⟩|⟨h8,_⟩
      ·rw[h6]at h8;cases h8
      ·omega
     ·rw[if_neg ht];split
      ·rfl
      ·rename_i hnn;cases hg:Hc.get c with
       |some x=>
        have hcl:c∉H1.log:=λh6=>ht ((htouch c).2 (.inl ⟨h6,by rw[hg];rfl⟩))
        have hcn:c<Hc.next:=by
         rcases VO c Hc.next with h6|h6
         ·exact h6
         ·rw[hbdc c h6]at hg;cases hg
        rw[hcg.keep c hcn hcl,hg];exact hsub c x hg
       |none=>
        have hcn:K.next≤c:=by
         rcases VO c K.next with h6|h6
         ·exact absurd ⟨hg,h6⟩ hnn
         ·exact h6
        have hc1:H1.next≤c:=by
         rcases VO c H1.next with h6|h6
         ·exact absurd ((htouch c).2 (.inr ⟨by rw[←hKn];exact hcn,h6⟩)) ht
         ·exact h6
        rw[hbd1 c hc1];cases hg2:K.get c with
        |none=>rfl
        |some x=>obtain⟨pl,_,_,h6,_⟩:=hW.live c x hg2;have:=hW.named c pl h6;omega
    obtain⟨z1,z2,z3⟩:=hW.whole hsub hnK k2 k3 hcg.dom hform (by rw[hK'n];exact VL _);obtain⟨t1,t2⟩:=C0 run rf hst nx ho (v:=v) (v':=v') (w':=w') (σ':=⟨σ'.map,σ.fr⟩) (T':=aH ⟨σ'.map,σ.fr⟩ K') e1.symm (by rw[z3];exact aT.sig (σ:=σ') (σ':=⟨σ'.map,σ.fr⟩) rfl k1) hsz hrep (λx u hxu=>hxu.mono z2);refine(⟨⟨σ'.map,σ.fr⟩,K',z1,λc=>?_,?_,t1,by cases o.dst<;>exact hdf,t2,hE0.trans z2,λc pl hc=>?_,hfresh (λc pl hc=>?_)⟩:Tl P F call ops base τ0 H0 w0 σ0 (iQ L i) (a.put o.dst v') w')
    ·rw[hK'g];cases ht:cL (fQ P F call ops base τ0 H0 i) c with
     |true=>
      have hnhid:¬ ∃j,j<i∧((bT ops.toList []).getD i 0).testBit j=false∧c=base+j:=by
       intro hh;rcases(htouch c).1 ht with⟨_,h8⟩|⟨h8,_⟩
       ·rw[hHg,if_pos hh]at h8;cases h8
       ·obtain⟨j,hj,_,rfl⟩:=hh;have:=rf.le i Xr;omega
      rw[if_pos rfl,H9 nx ht,←e2]
      ·show H1.get c=(iA _ _ _ _ _).get c;rw[lz,if_neg hnhid]
      ·intro j hj hne hjt hl;obtain⟨y,hy,hyt⟩:=hjt;rcases run.free j i _ y hl hj e3.symm hy with h6|h6
       ·exact h6
       ·exfalso;have fr:=ez h6;rcases hyt with t|t|⟨t3,_,_⟩
        ·exact fr.cw rfl c t
        ·have hcj:=((rf.chg j hj).made y hy).1 c t;rcases(htouch c).1 ht with⟨_,h8⟩|⟨h8,_⟩
         ·rw[hHg,if_neg hnhid,hcj,rf.fresh i j Xr hj]at h8;cases h8
         ·have:=rf.le i Xr;omega
        ·have h7:=fr.cc rfl;rw[t3]at h7;cases h7
     |false=>rw[if_neg Xu,zh ht,hK]
    ·rw[hK'n];have hcb:hC (fQ P F call ops base τ0 H0 i)=true:=by rw[←e3];rfl
     have hl:cu (λj=>iQ L i j&&hC (fQ P F call ops base τ0 H0 j)) ops.size=some i:=zg (p:=λj=>hC (fQ P F call ops base τ0 H0 j)) hi nx.not hcb (λj hj hne hcj hl=>by
      cases hx:fQ P F call ops base τ0 H0 j with
      |none=>rw[hx]at hcj;cases hcj
      |some x=>
       rw[hx]at hcj;rcases run.free j i _ x hl hj e3.symm hx with h6|h6
       ·exact nx.behind hj h6
       ·have:=(ez h6).cc rfl;have h7:x.isCall=true:=hcj;rw[h7]at this;cases this)
     unfold Gx;rw[hl];simp only[];rw[←e2];exact(gF _ _ _ _ _).1.symm
    ·rcases k4 c pl hc with h6|h6
     ·exact hnm c pl h6
     ·exact .inr (by have:=rf.le i Xr;omega)
    ·rcases k4 c pl hc with h6|h6
     ·exact .inl h6
     ·exact .inr (.inr Xr)
   ·cases hstep
  ·cases hstep
 ·rename_i hwant;rw[←hwt]at hwant;rw[if_neg (by rw[iO htm hwant];simp)];simp only[VU,Prod.mk.injEq]at hstep;obtain⟨e1,e2,e3⟩:=hstep;obtain⟨t1,t2⟩:=C0 run rf hst nx ho e1.symm lx hsz hrep (λx u hxu=>hxu);have ht:∀c,cL (fQ P F call ops base τ0 H0 i) c=false:=λc=>by rw[←e3];rfl
  refine⟨σ,K,hW,λc=>by rw[zh (ht c),hK],?_,t1,by cases o.dst<;>exact hdf,t2,hE0,hnm,hfresh (λc pl hc=>.inl hc)⟩;rw[hn];have:hC (fQ P F call ops base τ0 H0 i)=false:=by rw[←e3];rfl
  have hl:cu (λj=>iQ L i j&&hC (fQ P F call ops base τ0 H0 j)) ops.size=cu (λj=>L j&&hC (fQ P F call ops base τ0 H0 j)) ops.size:=my (p:=λj=>hC (fQ P F call ops base τ0 H0 j)) this;unfold Gx;rw[hl]
 ·cases hstep
end
end
section
def vX(ops:Array Oper):Prop:=∀(i:Nat) (o:Oper),ops[i]? =some o→∀e∈o.after.toList,Region.binds .any e=true→e.on<i
def j8:Code→Prop
 |.region _ ops draw=>draw=true→mz ops∧vX ops
 |.seq a b=>j8 a∧j8 b
 |.cond _ a b=>j8 a∧j8 b
 |.block _ b=>j8 b
 |.loop b=>j8 b
 |_=>True
section
variable {P:Program} {F:TypeId→Option (List TypeId)} {call:FuncId→List AV→ac→Option (AV×ac)} {ops:Array Oper} {base:Nat} {τ0:List AV} {H0:ac}
theorem mA(hs:ed P call){before:List Nat}:∀(l:List Nat) (τ τ':List AV) (H K:ac) (rs rs':List rU),eb P F call ops base before l τ H rs=some (τ',K,rs')→H.next≤K.next
 |[],τ,τ',H,K,rs,rs',h=>by cases h;exact VL _
 | i::l,τ,τ',H,K,rs,rs',h=>by
  have key:∀{mask τ1 H1 r},bu P F call ops base i mask τ H=some (τ1,H1,r)→H.next≤H1.next:=λ{mask τ1 H1 r} hd=>by
   unfold bu at hd;split at hd
   ·cases hd
   ·split at hd
    ·split at hd
     ·rename_i hop;cases hd;have:=CT hop;exact Nat.le_of_eq this.symm
     ·split at hd
      ·rename_i hcall;cases hd;have:=hs.next _ _ _ _ _ hcall;show H.next≤(iA _ _ _ _ _).next
       rw[(gF _ _ _ _ _).1];have h2:=(fE base mask i H).1;simp only[]at this;omega
      ·cases hd
     ·cases hd
    ·cases hd;exact VL _
    ·cases hd
  unfold eb at h;split at h
  ·rename_i hd;exact V2 (key hd) (mA hs l _ _ _ _ _ _ h)
  ·rename_i hd;split at h
   ·exact V2 (key hd) (mA hs l _ _ _ _ _ _ h)
   ·cases h
  ·cases h
def cnt(L:Nat→Bool):Nat→Nat
 |0=>0
 |k+1=>cnt L k+(if L k then 0 else 1)
theorem Ia{L:Nat→Bool}:∀{n:Nat},cnt L n=0→∀i,i<n→L i=true
 | n+1,h,i,hi=>by
  unfold cnt at h;rcases WY (Nat.le_of_lt_succ hi)with rfl|hlt
  ·cases hL:L i with
   |true=>rfl
   |false=>rw[hL]at h;simp at h
  ·exact Ia Xr i hlt
theorem FR{L M:Nat→Bool}:∀{n:Nat},(∀i,i<n→L i=M i)→cnt L n=cnt M n
 |0,_=>rfl
 |n+1,h=>by rw[cnt,cnt,FR λi hi=>h i Xr,h n Xr]
theorem KY{L:Nat→Bool}{i:Nat}(hL:L i=false):∀{n:Nat},i<n→cnt (iQ L i) n+1=cnt L n
 | n+1,hi=>by
  unfold cnt;rcases WY (Nat.le_of_lt_succ hi)with rfl|hlt
  ·rw[FR (M:=L) λj hj=>by simp[iQ,show¬j=i by omega]];simp[iQ,hL]
  ·have:=KY hL hlt;have e:iQ L i n=L n:=by simp[iQ,show¬n=i by omega]
   rw[e];omega
theorem FS:∀n,cnt (λ_=>false) n=n
 |0=>rfl
 |n+1=>by simp[cnt,FS n]
theorem FT{L:Nat→Bool}:∀n,(∀i,i<n→L i=true)∨∃i,i<n∧L i=false∧∀j,j<i→L j=true
 |0=>.inl λi hi=>by omega
 | n+1=>by
  rcases FT (L:=L) n with h|⟨i,h1,h2,h3⟩
  ·by_cases hL:L n=true
   ·left;intro i hi;rcases WY (Nat.le_of_lt_succ hi)with rfl|hlt
    ·exact hL
    ·exact h i hlt
   ·exact .inr ⟨n,Xr,by simpa using hL,h⟩
  ·exact .inr ⟨i,Xr,h2,h3⟩
theorem zj{l:Array Bool}{i:Nat}(hi:i<l.size):l.getD i true=l.getD i false:=by simp[Array.getD,hi]
theorem LX(fit:Fit P F)(hs:ed P call)(hch:∀f args H v H',Bd H→call f args H=some (v,H')→A4 H H')(run:lB P F call ops base τ0 H0)(rf:cZ P F call ops base τ0 H0)(hst:mz ops)(hed:vX ops)(hb:base+ops.size=H0.next)
  {w0:World} {σ0:bb} {Q:Exit→Act→World→Prop} (hQ:∀a w,Tl P F call ops base τ0 H0 w0 σ0 (λi=>decide (i<ops.size)) a w→Q .normal a w) :
  ∀(fuel:Nat) (listed:Array Bool) (a:Act) (w:World),listed.size=ops.size→Gw ops (λi=>listed.getD i false)→cnt (λi=>listed.getD i false) ops.size≤fuel→
   Tl P F call ops base τ0 H0 w0 σ0 (λi=>listed.getD i false) a w→wpAny P .any ops Q fuel listed a w:=by
 intro fuel
 induction fuel with
 |zero=>
  intro listed a w hsz hcl hf hI;have hall:=Ia (by omega:cnt (λi=>listed.getD i false) ops.size=0);unfold wpAny;refine⟨?_,?_⟩
  ·unfold Region.ready;rw[List.filter_eq_nil_iff];intro i hi;rw[WI]at hi;have:=hall i hi;rw[zj Xr,this];simp
  ·refine hQ a w ?_;have e:(λi=>listed.getD i false)=λi=>decide (i<ops.size):=by
    funext i;by_cases hi:i<ops.size
    ·rw[hall i hi];simp[hi]
    ·simp[Array.getD,hsz,hi]
   rw[←e];exact hI
 |succ fuel ih=>
  intro listed a w hsz hcl hf hI;unfold wpAny;refine⟨λhr=>?_,λi hi=>?_⟩
  ·rcases FT (L:=λi=>listed.getD i false) ops.size with hall|⟨i,h1,h2,h3⟩
   ·refine hQ a w ?_;have e:(λi=>listed.getD i false)=λi=>decide (i<ops.size):=by
     funext i;by_cases hi:i<ops.size
     ·rw[hall i hi];simp[hi]
     ·simp[Array.getD,hsz,hi]
    rw[←e];exact hI
   ·exfalso;unfold Region.ready at hr;rw[List.filter_eq_nil_iff]at hr;have ho:ops[i]? =some ops[i]:=Wc h1;refine hr i (by rw[WI];exact h1) ?_;rw[zj Xr,ho];rw[h2];simp only[Bool.not_false,Bool.true_and,Wb,Xh];rw[Array.all_eq_true_iff_forall_mem];intro e he;cases hbn:Region.binds .any e with
    |false=>rfl
    |true=>have:=h3 e.on (hed i _ ho e (by rw[Array.mem_toList_iff];exact he) hbn);rw[this];rfl
  ·unfold Region.ready at hi;rw[Xc,WI]at hi;obtain⟨hi1,hi2⟩:=hi;obtain⟨o,ho⟩:∃o,ops[i]? =some o:=⟨_,Wc hi1⟩;rw[V5,ho]at hi2;obtain⟨hi2,hi3⟩:=hi2;have hnot:listed.getD i false=false:=by rw[←zj Xr];simpa using hi2
   simp only[Wb,Xh]at hi3;rw[Array.all_eq_true_iff_forall_mem]at hi3;have nx:Next ops (λi=>listed.getD i false) i:=⟨hi1,hnot,hcl,λo' ho' e he hbn=>by
    rw[ho]at ho';cases ho';have:=hi3 e (by rw[←Array.mem_toList_iff];exact he);rw[hbn]at this;simpa using this⟩
   have eL:(λj=>(listed.setIfInBounds i true).getD j false)=iQ (λj=>listed.getD j false) i:=by
    funext j;unfold iQ;by_cases hj:j=i
    ·subst hj;rw[if_pos rfl];simp[Array.getD,show j<listed.size by omega]
    ·rw[if_neg hj];by_cases hjl:j<listed.size
     ·simp[Array.getD,hjl,show¬i=j by omega]
     ·simp[Array.getD,hjl]
   refine wpOp_mono (λa' w' hI'=>?_) (M7 fit hs hch run rf hst hb nx hI);refine ih _ a' w' (by simpa using hsz) ?_ ?_ (by rw[eL];exact hI')
   ·rw[eL];intro j oj hoj hLj e he hbn;unfold iQ at hLj ⊢;split
    ·rfl
    ·split at hLj
     ·rename_i _ hji;subst hji;exact nx.edges oj hoj e he hbn
     ·exact hcl j oj hoj hLj e he hbn
   ·rw[eL];have:=KY (L:=λj=>listed.getD j false) hnot hi1;omega
theorem C1(fit:Fit P F)(hs:ed P call)(hch:∀f args H v H',Bd H→call f args H=some (v,H')→A4 H H')(hst:mz ops)(hed:vX ops){τ τ':List AV}{H H':ac}(h:du P F call ops true τ H=some (τ',H')):
  H.next≤H'.next∧∀(id:Nat) (w:World) (σ:bb) (a:Act),aW w σ H→cv w σ (aH σ H) τ a→∀Q:Exit→Act→World→Prop,(∀a' w',rX w σ H τ' H' a' w'→Q .normal a' w')→(Code.region id ops true).wp P Q a w:=by
 simp only[du,if_true]at h;split at h
 ·rename_i τq K rs hd;cases h;refine⟨V2 (Wk _ _) (mA hs _ _ _ _ _ _ _ hd),λid w σ a hW hτ Q hQ=>?_⟩;have hbd:Bd H:=λb hb=>by
   cases hg:H.get b with
   |none=>rfl
   |some x=>obtain⟨pl,_,_,h1,_⟩:=hW.live b x hg;have:=hW.named b pl h1;omega
  have hn:H.next+ops.size=({H with next:=H.next+ops.size}:ac).next:=rfl
  have hg0:∀b,({H with next:=H.next+ops.size}:ac).get b=H.get b:=λ_=>rfl
  have hW0:aW w σ {H with next:=H.next+ops.size}:=hW.congr hg0 (Wk _ _);have ho0:aH σ {H with next:=H.next+ops.size}=aH σ H:=aH.congr hg0;generalize hH0:({H with next:=H.next+ops.size}:ac)=H0 at hd hn hg0 hW0 ho0;have hbd0:Bd H0:=λb hb=>by rw[hg0];exact hbd b Xr
  rw[List.range_eq_range']at hd;obtain⟨a1,a2,a3⟩:=M3 (P:=P) (F:=F) (call:=call) (ops:=ops) (base:=H.next) (τ0:=τ) (H0:=H0) ops.size 0 [] rs τ' K hd (λj x hj=>by omega);simp only[WG]at a1 a2 a3;have run:lB P F call ops H.next τ H0:=⟨λi hi=>a1 i (WF _) hi,λi j x r hji hi hx hr=>a2 i j x r (WF _) hi hji hx hr⟩;have rf:=LV hch run hbd0 hn (λj hj=>by rw[hg0];exact hbd _ (Wk _ _));have hnone:∀(p:Nat→Bool) n,cu (λj=>false&&p j) n=none:=λp n=>by rw[sH (k:=0) (WF _) (λi _ _=>by simp)];rfl
  have hall:∀(p:Nat→Bool) n,cu (λj=>decide (j<n)&&p j) n=cu p n:=λp n=>j7 λi hi=>by simp[hi]
  refine wp_region_any fit.order (LX (w0:=w) (σ0:=σ) fit hs hch run rf hst hed hn ?_ ops.size _ a _ Xu ?_ ?_ ?_)
  ·intro a' w' hI;obtain⟨σ',K',k1,k2,k3,k4,k5,k6,k7,k8,_⟩:=hI;have eS:(ep P F call ops H.next τ H0 ops.size)=(τ',K):=a3.symm;have hget':∀c,K'.get c=K.get c:=λc=>by have:=JR run rf c ops.size (VL _);rw[eS]at this;rw[k2,hget,hall];exact this.symm
   have hnx:K'.next=K.next:=by have:=JS run ops.size (VL _);rw[eS]at this;rw[k3,Gx,hall];exact this.symm
   have htg:∀t,oX P F call ops H.next τ H0 (λi=>decide (i<ops.size)) t=τ'[t]? :=λt=>by have:=JQ run t ops.size (VL _);rw[eS]at this;rw[oX,hall];exact this.symm
   have hlen:τ'.length=τ.length:=by have:=rf.len ops.size (VL _);rw[eS]at this;exact this
   have hoK:aH σ' ({K with log:=rs.flatMap (·.writes)++K.log}:ac)=aH σ' K':=aH.congr λb=>(hget' b).symm
   refine hQ a' w' ⟨σ',⟨⟨by simp[hlen,k4],λt x u hx hu=>?_⟩,k5⟩,k1.congr (λb=>(hget' b).symm) (by rw[hnx];exact VL _),by rw[hoK,←ho0];exact k7,λc pl hc=>k8 c pl hc⟩;rw[hoK];exact k6 t x u (by rw[htg];exact hx) (by rw[←V9];exact hu)
  ·intro i o ho hL;simp[Array.getD]at hL
  ·have:(λi=>(Array.replicate ops.size false).getD i false)=λ_=>false:=by funext i;simp[Array.getD]
   rw[this,FS];exact VL _
  ·have:(λi=>(Array.replicate ops.size false).getD i false)=λ_=>false:=by funext i;simp[Array.getD]
   rw[this];refine⟨σ,H0,hW0.same rfl rfl rfl rfl,λc=>by rw[hget,hnone],by rw[Gx,hnone],by have:=hτ.1.1;simpa using this.symm,hτ.2,λt x u hx hu=>?_,el.same σ _ rfl rfl rfl rfl,λc pl hc=>.inl hc,λi hi _=>?_⟩
   ·rw[oX,hnone]at hx;have:=hτ.1.2 t x u hx (by rw[V9];exact hu);rw[←ho0]at this;have e:el w σ (aH σ H0) {w with drawn:=w.drawn+1} σ (aH σ H0):=el.same σ _ rfl rfl rfl rfl;exact this.mono e
   ·cases hg:σ (H.next+i)with
    |none=>rfl
    |some pl=>have:=hW.named _ pl hg;omega
 ·cases h
def kJ(P:Program)(n:Nat)(c:Code)(τ:List AV)(H:ac)(e:Ex)(τ':List AV)(H':ac):Prop:=
 H.next≤H'.next∧∀(w:World) (σ:bb) (a:Act),aW w σ H→cv w σ (aH σ H) τ a→∀Q:Exit→Act→World→Prop,(∀a' w',rX w σ H τ' H' a' w'→Q (HX e) a' w')→Code.rounds P c Q n a w
end
end
section
open Go.RowKit
def KZ(ops:Array Oper):Bool:=
 let M:=bT ops.toList []
 let N:=ops.toList.map λo=>(o.dst,ik ops o)
 (List.range ops.size).all λi=>(List.range i).all λj=>
  (M.getD i 0).testBit j ||
  (match N[i]?,N[j]? with
   |some (di,ni),some (dj,nj)=>(match dj with|some t=>!ni.contains t|none=>true)&&(match di with|some t=>!nj.contains t|none=>true)
   |_,_=>true)
def Gy(ops:Array Oper):Bool:=(List.range ops.size).all λi=>match ops[i]? with
 |some o=>o.after.toList.all λe=>!Region.binds .any e||decide (e.on<i)
 |none=>true
def jb:Code→Bool
 |.region _ ops draw=>!draw||(KZ ops&&Gy ops)
 |.seq a b=>jb a&&jb b
 |.cond _ a b=>jb a&&jb b
 |.block _ b=>jb b
 |.loop b=>jb b
 |_=>true
theorem Ib{ops:Array Oper}(h:KZ ops=true):mz ops:=by
 intro i j oi oj hji hoi hoj;have hi:i<ops.size:=(W3.1 hoi).1;unfold KZ at h;simp only[V0,WI]at h;have h1:=h i hi j hji;have ei:(ops.toList.map λo=>(o.dst,ik ops o))[i]? =some (oi.dst,ik ops oi):=by rw[VZ,V9,hoi];rfl
 have ej:(ops.toList.map λo=>(o.dst,ik ops o))[j]? =some (oj.dst,ik ops oj):=by rw[VZ,V9,hoj];rfl
 rw[ei,ej]at h1;simp only[Xl,V5]at h1;rcases h1 with h1|⟨h1,h2⟩
 ·exact .inl h1
 ·right;refine⟨λt ht=>?_,λt ht=>?_⟩
  ·rw[ht]at h1;simpa using h1
  ·rw[ht]at h2;simpa using h2
theorem FU{ops:Array Oper}(h:Gy ops=true):vX ops:=by intro i o ho e he hb;have hi:i<ops.size:=(W3.1 ho).1;unfold Gy at h;simp only[V0,WI]at h;have h1:=h i hi;rw[ho]at h1;simp only[V0]at h1;have:=h1 e he;rw[hb]at this;simpa using this
theorem gG:∀(c:Code),jb c=true→j8 c
 | .region _ ops draw,h=>λhd=>by subst hd;simp only[jb,Bool.not_true,Bool.false_or,V5]at h;exact⟨Ib h.1,FU h.2⟩
 |.seq a b,h=>by simp only[jb,V5]at h;exact⟨gG a h.1,gG b h.2⟩
 |.cond _ a b,h=>by simp only[jb,V5]at h;exact⟨gG a h.1,gG b h.2⟩
 |.block _ b,h=>gG b h
 |.loop b,h=>gG b h
 |.skip,_=>trivial
 |.rangeFunc ..,_=>trivial
 |.exit _,_=>trivial
 |.scope _,_=>trivial
 |.label _,_=>trivial
 |.goto _,_=>trivial
 |.ret,_=>trivial
 |.refuse _,_=>trivial
def Ic (fn : Func) : Bool := (fn.name != "runtime.NumGoroutine") && (match fn.body with | some c => jb c | none => true)
theorem QL {P : Program} (h : P.funcs.toList.all Ic = true) : (∀ (g : Nat) (fn : Func), P.funcs[g]? = some fn → fn.name ≠ "runtime.NumGoroutine") ∧ ∀ (g : Nat) (fn : Func) (c : Code), P.funcs[g]? = some fn → fn.body = some c → j8 c := by
 rw[V0]at h;have key:∀(g:Nat) (fn:Func),P.funcs[g]? =some fn→Ic fn=true:=λg fn hg=>h fn (by rw[Array.mem_toList_iff];exact Array.mem_of_getElem? hg)
 refine⟨λg fn hg=>?_,λg fn c hg hc=>?_⟩
 ·have:=key g fn hg;simp only[Ic,V5]at this;simpa using this.1
 ·have:=key g fn hg;simp only[Ic,V5,hc]at this;exact gG c this.2
end
section
open Go.RowKit
inductive aX:AV→Prop where
 |int (k:IntKind) (n:Int):aX (.int k n)
 |bool (b:Bool):aX (.bool b)
 |str (s:List UInt8):aX (.str s)
 |nilp:aX .nilp
 |nils:aX .nils
 |emp:aX .emp
 |nilf:aX .nilf
 |junk:aX .junk
 |lst (rows:List (List AV)) (h:∀(i:Nat) (r:List AV) (j:Nat) (a:AV),rows[i]? =some r→r[j]? =some a→aX a):aX (.lst rows)
 |agg (cs:List AV) (h:∀(i:Nat) (a:AV),cs[i]? =some a→aX a):aX (.agg cs)
 |tup (cs:List AV) (h:∀(i:Nat) (a:AV),cs[i]? =some a→aX a):aX (.tup cs)
 |fn (f:FuncId) (cs:List AV) (h:∀(i:Nat) (a:AV),cs[i]? =some a→aX a):aX (.fn f cs)
section
variable {P:Program} {F:TypeId→Option (List TypeId)} {w w':World} {σ σ':bb} {T T':Nat→Prop}
theorem sD.shrink{rows:List (List AV)}{b o sz:Nat}(h:sD w T rows b o sz)(hT:∀c,T' c→T c):sD w T' rows b o sz:=⟨λht=>h.out (hT b ht),h.even,h.cell,h.pos,h.ne⟩
theorem aX.rep{a:AV}(hp:aX a):∀{v:Value},aT w σ T a v→(∀c,T' c→T c)→aT w σ' T' a v:=by
 induction hp with
 |int k n=>intro v h _;cases h;exact .int k n
 |bool b=>intro v h _;cases h;exact .bool b
 |str s=>intro v h _;cases h;exact .str _
 |nilp=>intro v h _;cases h;exact .nilp
 |nils=>intro v h _;cases h;exact .nils
 |emp=>intro v h _;cases h;exact .emp _
 |nilf=>intro v h _;cases h;exact .nilf
 |junk=>intro v h _;exact .junk v
 |lst rows h ih=>
  intro v hr hT;cases hr with
  |lst0 a cap hm=>exact .lst0 a cap hm
  |lst _ b o sz cap hl hn hm hc=>exact .lst rows b o sz cap (hl.shrink hT) hn hm λi r j a u h1 h2 h3=>ih i r j a h1 h2 (hc i r j a u h1 h2 h3) hT
 |agg cs h ih=>
  intro v hr hT;cases hr with
  |agg _ vs hl hc=>exact .agg cs vs hl λi a v h1 h2=>ih i a h1 (hc i a v h1 h2) hT
 |tup cs h ih=>
  intro v hr hT;cases hr with
  |tup _ vs hl hc=>exact .tup cs vs hl λi a v h1 h2=>ih i a h1 (hc i a v h1 h2) hT
 |fn f cs h ih=>
  intro v hr hT;cases hr with
  |fn _ _ vs hl hc=>exact .fn f cs vs hl λi a v h1 h2=>ih i a h1 (hc i a v h1 h2) hT
theorem cS(b:Nat):ac.empty.get b=none:=Tr.get_leaf b
def K0(P:Program)(f:FuncId)(args:List AV)(v:AV):Prop:=
 ∀(w:World) (σ:bb) (vs:List Value),aW w σ ac.empty→eh w σ (aH σ ac.empty) args vs→Calls P f vs.toArray w λe w'=>
  ∃v' σ' H',e=.returned v'∧aT w' σ' (aH σ' H') v v'∧el w σ (aH σ ac.empty) w' σ' (aH σ' H')
theorem Tt{f:FuncId}{args:List AV}{v:AV}(hv:aX v)(ha:∀(i:Nat) (a:AV),args[i]? =some a→aX a)(h:K0 P f args v)(H:ac):oU P f args H v H:=by
 intro w σ vs hW hvs;have hown:aH ⟨λ_=>none,aH σ H⟩ ac.empty=aH σ H:=by
  funext c;apply propext;constructor
  ·rintro(h1|⟨b,x,pl,h1,_,_⟩)
   ·exact h1
   ·rw[cS]at h1;cases h1
  ·exact .inl
 have hlt:∀c,aH σ H c→c<w.heap.size:=λc hc=>by
  rcases hc with hc|⟨b,x,pl,h1,h2,rfl⟩
  ·exact(hW.apart c hc).1
  ·exact hW.lt b pl h2
 have hWe:aW w ⟨λ_=>none,aH σ H⟩ ac.empty:=⟨λb pl hb=>(by cases hb),λb pl hb=>(by cases hb),λb x hb=>(by rw[cS]at hb;cases hb),
  λc hc=>⟨hlt c hc,λ⟨b,x,pl,h1,_,_⟩=>(by rw[cS]at h1;cases h1)⟩,λb b' x x' pl pl' hb=>(by rw[cS]at hb;cases hb),by rw[hown];exact hW.glob⟩
 refine(h w _ vs hWe ⟨hvs.1,λi a u h1 h2=>(ha i a h1).rep (hvs.2 i a u h1 h2) (λc hc=>by rw[hown]at hc;exact hc)⟩).mono ?_;rintro e w' ⟨v',σ',H1,rfl,k1,k3⟩;have hE:el w σ (aH σ H) w' σ (aH σ H):=
  ⟨k3.os,k3.tape,k3.output,k3.size,λc hc hT=>k3.keep c hc (by rw[hown];exact hT),k3.shape,λ_ _ h=>h,rfl,λc hc=>k3.frame c (.inl hc),λc hc=>.inl hc⟩
 refine⟨v',σ,rfl,hv.rep k1 (λc hc=>.inl (by rw[k3.eqfr];exact hc)),⟨hW.named,λb pl hb=>V7 (hW.lt b pl hb) k3.size,λb x hb=>?_,λc hc=>⟨V7 (hW.apart c hc).1 k3.size,(hW.apart c hc).2⟩,hW.inj,hW.glob.mono hE⟩,hE,λc pl hc=>.inl hc⟩;obtain⟨pl,cs,e,h1,h2⟩:=hW.live b x hb;exact⟨pl,cs,e,h1,h2.mono hE (k3.frame _ (.inr ⟨b,x,pl,hb,h1,rfl⟩))⟩
def Gz(P:Program)(c:Code)(Q:Ex→List AV→ac→Prop)(τ:List AV)(H:ac):Prop:=
 ∀(w:World) (σ:bb) (a:Act),aW w σ H→cv w σ (aH σ H) τ a→∀Q':Exit→Act→World→Prop,
  (∀e τ' H' a' w',Q e τ' H'→H.next≤H'.next→rX w σ H τ' H' a' w'→Q' (HX e) a' w')→c.wp P Q' a w
variable {c c1 c2:Code} {Q Q2:Ex→List AV→ac→Prop} {τ:List AV} {H:ac}
theorem Gz.of_ok{e:Ex}{τ':List AV}{H':ac}(h:cF P c τ H e τ' H')(hQ:Q e τ' H'):Gz P c Q τ H:=
 λw σ a hW hτ Q' hQ'=>h.2 w σ a hW hτ Q' λa' w' haf=>hQ' e τ' H' a' w' hQ h.1 haf
def Ex.then(next:List AV→ac→Prop)(Q:Ex→List AV→ac→Prop):Ex→List AV→ac→Prop
 |.normal,τ,H=>next τ H
 |e,τ,H=>Q e τ H
theorem Gz.cond{x:Operand}{t:Bool}(hx:jT τ x=.bool t)(h:Gz P (if t then c1 else c2) Q τ H):Gz P (.cond x c1 c2) Q τ H:=by intro w σ a hW hτ Q' hQ';have hr:=hτ.eval hW.glob x;rw[hx]at hr;refine wp_cond (t:=t) ?_ (h w σ a hW hτ Q' hQ');generalize a.eval x=u at hr;cases hr;rfl
theorem Gz.exit{id:Nat}(h:Q (.exit id) τ H):Gz P (.exit id) Q τ H:=λw σ a hW hτ Q' hQ'=>wp_exit (hQ' (.exit id) τ H _ _ h (VL _) (.refl hW hτ))
theorem Gz.ret(h:Q .ret τ H):Gz P .ret Q τ H:=λw σ a hW hτ Q' hQ'=>wp_ret (hQ' .ret τ H _ _ h (VL _) (.refl hW hτ))
def Ex.inBlock(id:Nat)(Q:Ex→List AV→ac→Prop):Ex→List AV→ac→Prop
 |.exit id',τ,H=>if id'=id then Q .normal τ H else Q (.exit id') τ H
 |e,τ,H=>Q e τ H
theorem Gz.block{id:Nat}(h:Gz P c (Ex.inBlock id Q) τ H):Gz P (.block id c) Q τ H:=by
 intro w σ a hW hτ Q' hQ';refine wp_block (h w σ a hW hτ _ λe τ1 H1 a1 w1 hq hn haf=>?_);cases e with
 |normal=>exact hQ' _ _ _ _ _ hq hn haf
 |ret=>exact hQ' _ _ _ _ _ hq hn haf
 |exit id'=>
  simp only[Ex.inBlock]at hq;simp only[HX,Exit.inBlock];split
  ·rename_i he;rw[if_pos he]at hq;exact hQ' .normal _ _ _ _ hq hn haf
  ·rename_i he;rw[if_neg he]at hq;exact hQ' (.exit id') _ _ _ _ hq hn haf
theorem A5{Q':Exit→Act→World→Prop}:∀{n m:Nat} {a:Act} {w:World},n≤m→Code.rounds P c Q' n a w→Code.rounds P c Q' m a w
 |0,m,a,w,_,h=>h.elim
 | n+1,m,a,w,hm,h=>by
  obtain⟨k,rfl⟩:∃k,m=k+1:=⟨m-1,Xr⟩;rw[rounds_succ]at h ⊢;refine wp_mono h λe a' w' he=>?_
  cases e with
  |normal=>exact A5 Xr he
  |_=>exact he
theorem Gz.loop(I:Nat→List AV→ac→Prop)(hs:∀n τ H,I n τ H→Gz P c (Ex.then (λτ' H'=>∃m,m<n∧I m τ' H') Q) τ H)(n:Nat)(h0:I n τ H):Gz P (.loop c) Q τ H:=by
 have key:∀n τ H,I n τ H→∀(w:World) (σ:bb) (a:Act),aW w σ H→cv w σ (aH σ H) τ a→∀Q':Exit→Act→World→Prop,
   (∀e τ' H' a' w',Q e τ' H'→H.next≤H'.next→rX w σ H τ' H' a' w'→Q' (HX e) a' w')→Code.rounds P c Q' (n+1) a w:=by
  intro n
  induction n using Nat.strongRecOn with
  |_ n ih=>
   intro τ H hI w σ a hW hτ Q' hQ';rw[rounds_succ];refine hs n τ H hI w σ a hW hτ _ λe τ1 H1 a1 w1 hq hn haf=>?_
   cases e with
   |normal=>obtain⟨m,hm,hI1⟩:=hq;obtain⟨σ1,t1,r1,e1,m1⟩:=haf;exact A5 Xr (ih m hm τ1 H1 hI1 w1 σ1 a1 r1 t1 Q' λe2 τ2 H2 a2 w2 q2 n2 haf2=>hQ' e2 τ2 H2 a2 w2 q2 (V2 hn n2) (haf2.trans e1 m1 hn))
   |exit id=>exact hQ' _ _ _ _ _ hq hn haf
   |ret=>exact hQ' _ _ _ _ _ hq hn haf
 intro w σ a hW hτ Q' hQ';exact wp_loop_rounds (n+1) (key n τ H h0 w σ a hW hτ Q' hQ')
end
def JT:FuncId→List AV→ac→Option (AV×ac):=λ_ _ _=>none
theorem vY(P:Program):ed P JT:=⟨λ_ _ _ _ _ h=>(by cases h),λ_ _ _ _ _ h=>(by cases h),λ_ _ _ _ _ h=>(by cases h)⟩
theorem Gz.reg{P:Program}{F:TypeId→Option (List TypeId)}{call:FuncId→List AV→ac→Option (AV×ac)}(fit:Fit P F)(hs:ed P call){ops:Array Oper}{id:Nat}{Q:Ex→List AV→ac→Prop}{τ:List AV}{H:ac}{τ':List AV}{H':ac}(h:du P F call ops false τ H=some (τ',H'))(hQ:Q .normal τ' H'):Gz P (.region id ops false) Q τ H:=
 .of_ok (fP fit hs h) hQ
theorem Gz.ops{P:Program}{F:TypeId→Option (List TypeId)}{call:FuncId→List AV→ac→Option (AV×ac)}(fit:Fit P F)(hs:ed P call){ops:Array Oper}{id:Nat}{Q:Ex→List AV→ac→Prop}{τ:List AV}{H:ac}{τ':List AV}{H':ac}(h:mq P F call ops H.next (List.range ops.size) τ {H with next:=H.next+ops.size}=some (τ',H'))(hQ:Q .normal τ' H'):Gz P (.region id ops false) Q τ H:=
 .of_ok (fP fit hs (by simp only[du,Wd,if_false];exact h)) hQ
end
def gH(P:Program)(f:FuncId)(args:List AV)(v:AV):Prop:=(∀H,oU P f args H v H)∧∃fn c,P.funcs[f]? =some fn∧fn.body=some c
theorem gH.of_v{P:Program}{f:FuncId}{args:List AV}{v:AV}{fn:Func}{c:Code}(hf:P.funcs[f]? =some fn)(hb:fn.body=some c)(hv:aX v)(ha:∀(i:Nat) (a:AV),args[i]? =some a→aX a)(h:K0 P f args v):gH P f args v:=
 ⟨λH=>Tt hv ha h H,fn,c,hf,hb⟩
def vZ(f:AV→Option AV)(rows:List (List AV)):Option (List (List AV)):=cg (rows.map λr=>cg (r.map f))
def frz(K:ac):Nat→AV→Option AV
 |0,_=>none
 | d+1,a=>match a with
  | .sl b i n=>if n=0 then some (.lst [])else match K.get b with
   |some x=>if 0<x.size∧i+n≤x.rows.length then(vZ (frz K d) ((x.rows.drop i).take n)).map .lst else none
   |none=>none
  |.nils=>some (.lst [])
  |.lst rows=>(vZ (frz K d) rows).map .lst
  |.agg cs=>(cg (cs.map (frz K d))).map .agg
  |.tup cs=>(cg (cs.map (frz K d))).map .tup
  |.ptr ..=>none
  |.pptr ..=>none
  |.fn ..=>none
  |.mp ..=>none
  |.it ..=>none
  |a=>some a
theorem oY{f:AV→Option AV}{l m:List AV}(h:cg (l.map f)=some m):l.length=m.length∧∀(i:Nat) (y:AV),m[i]? =some y→∃x,l[i]? =some x∧f x=some y:=by
 obtain⟨h1,h2⟩:=iM _ _ h;refine⟨by simpa using h1,λi y hy=>?_⟩;have:=h2 i y hy;rw[VZ]at this;cases hx:l[i]? with
 |none=>rw[hx]at this;cases this
 |some x=>rw[hx]at this;exact⟨x,rfl,by simpa using this⟩
theorem A6{f:AV→Option AV}{l m:List (List AV)}(h:vZ f l=some m):l.length=m.length∧∀(i:Nat) (r':List AV),m[i]? =some r'→∃r,l[i]? =some r∧r.length=r'.length∧∀(j:Nat) (y:AV),r'[j]? =some y→∃x,r[j]? =some x∧f x=some y:=by
 obtain⟨h1,h2⟩:=iM _ _ h;refine⟨by simpa using h1,λi r' hr'=>?_⟩;have:=h2 i r' hr';rw[VZ]at this;cases hx:l[i]? with
 |none=>rw[hx]at this;cases this
 |some r=>rw[hx]at this;simp only[Wb,VU]at this;obtain⟨h3,h4⟩:=oY this;exact⟨r,rfl,h3,h4⟩
theorem wa{w:World}{σ:bb}{K:ac}(hW:aW w σ K):∀(d:Nat) (a a':AV) (v:Value),frz K d a=some a'→aT w σ (aH σ K) a v→aT w σ (aH σ ac.empty) a' v
 |0,a,a',v,h,_=>by cases h
 | d+1,a,a',v,h,hr=>by
  have hout:∀c,¬aH σ K c→¬aH σ ac.empty c:=λc hc ho=>by
   rcases ho with ho|⟨b,x,pl,h1,_,_⟩
   ·exact hc (.inl ho)
   ·rw[cS]at h1;cases h1
  cases a with
  |sl b i n=>
   simp only[frz]at h;obtain⟨pl,ad,cap,rfl,hs,hn,hm,ha⟩:=hr.sl_inv;split at h
   ·rename_i h0;cases h;rw[h0];exact .lst0 _ _ hm
   ·rename_i h0;split at h
    ·rename_i x hx;split at h
     ·rename_i hc;cases hf:vZ (frz K d) ((x.rows.drop i).take n)with
      |none=>rw[hf]at h;cases h
      |some m=>
       rw[hf]at h;cases h;obtain⟨rfl,cs,ty,hcs,hroom⟩:=ha Xr;obtain⟨pl',cs',e',g1,g2⟩:=hW.live b x hx;rw[hs]at g1;cases g1;replace g2:=g2.1 (hr.sl_ok hs);obtain⟨f1,f2⟩:=A6 hf;have hlen:m.length=n:=by rw[←f1];simp;omega
       have get:∀(q:Nat) (r:List AV),((x.rows.drop i).take n)[q]? =some r→q<n∧x.rows[i+q]? =some r:=λq r hq=>by have hq':=aA hq;rw[←f1]at hlen;rw[hlen]at hq';rw[Wj hq',WB]at hq;exact⟨hq',hq⟩
       have hnot:¬aH σ ac.empty pl.block:=λho=>by
        rcases ho with ho|⟨b',x',pl'',h1,_,_⟩
        ·exact(hW.apart _ ho).2 ⟨b,x,pl,hx,hs,rfl⟩
        ·rw[cS]at h1;cases h1
       have:=aT.lst (w:=w) (σ:=σ) (T:=aH σ ac.empty) m pl.block (pl.base+i*pl.size) pl.size cap
        ⟨hnot,λq r' hr'=>by
         obtain⟨r,k1,k2,_⟩:=f2 q r' hr';rw[←k2,g2.even _ r (get q r k1).2,g2.size],λq j hq hj=>by
         obtain⟨r,k1,k2,_⟩:=f2 q m[q] (VK hq);have hrow:=g2.row (get q r k1).2;have hj':j<r.length:=by rw[g2.even _ r (get q r k1).2,←g2.size];exact hj
         obtain⟨u,hu,_⟩:=hrow j _ (VK hj');rw[Ws,←WC]at hu;exact⟨u,hu⟩,by rw[g2.size];exact hc.1,Xr⟩ Xr hm
        (λq r' j y u hr' hy hu=>by
         obtain⟨r,k1,k2,k3⟩:=f2 q r' hr';obtain⟨z,k4,k5⟩:=k3 j y hy;obtain⟨u',hu',hz⟩:=g2.row (get q r k1).2 j z k4;rw[Ws,←WC]at hu';rw[hu]at hu';cases hu';exact wa hW d z y u k5 hz)
       rw[hlen]at this;exact this
     ·cases h
    ·cases h
  |nils=>simp only[frz]at h;cases h;cases hr;exact .lst0 _ _ (by unfold maxLen;omega)
  |lst rows=>
   simp only[frz]at h;cases hf:vZ (frz K d) rows with
   |none=>rw[hf]at h;cases h
   |some m=>
    rw[hf]at h;cases h;obtain⟨f1,f2⟩:=A6 hf;cases hr with
    |lst0 a cap hm=>
     have:m=[]:=by cases m with
      |nil=>rfl
      |cons x m=>simp at f1
     subst this;exact .lst0 a cap hm
    |lst _ b o sz cap hl hn hm hc=>
     have:=aT.lst (w:=w) (σ:=σ) (T:=aH σ ac.empty) m b o sz cap
      ⟨hout b hl.out,λq r' hr'=>by
       obtain⟨r,k1,k2,_⟩:=f2 q r' hr';rw[←k2,hl.even q r k1],λq j hq hj=>hl.cell q j Xr hj,hl.pos,by rw[←f1];exact hl.ne⟩ Xr hm
      (λq r' j y u hr' hy hu=>by
       obtain⟨r,k1,k2,k3⟩:=f2 q r' hr';obtain⟨z,k4,k5⟩:=k3 j y hy;exact wa hW d z y u k5 (hc q r j z u k1 k4 hu))
     rw[←f1]at this;exact this
  |agg cs=>
   simp only[frz]at h;cases hf:cg (cs.map (frz K d))with
   |none=>rw[hf]at h;cases h
   |some m=>
    rw[hf]at h;cases h;obtain⟨f1,f2⟩:=oY hf;cases hr with
    |agg _ vs hl hc=>
     refine .agg m vs Xr λq y u hy hu=>?_
     obtain⟨x,k1,k2⟩:=f2 q y hy;exact wa hW d x y u k2 (hc q x u k1 hu)
  |tup cs=>
   simp only[frz]at h;cases hf:cg (cs.map (frz K d))with
   |none=>rw[hf]at h;cases h
   |some m=>
    rw[hf]at h;cases h;obtain⟨f1,f2⟩:=oY hf;cases hr with
    |tup _ vs hl hc=>
     refine .tup m vs Xr λq y u hy hu=>?_
     obtain⟨x,k1,k2⟩:=f2 q y hy;exact wa hW d x y u k2 (hc q x u k1 hu)
  |int k n=>simp only[frz]at h;cases h;cases hr;exact .int k n
  |bool b=>simp only[frz]at h;cases h;cases hr;exact .bool b
  |str s=>simp only[frz]at h;cases h;cases hr;exact .str _
  |nilp=>simp only[frz]at h;cases h;cases hr;exact .nilp
  |emp=>simp only[frz]at h;cases h;cases hr;exact .emp _
  |nilf=>simp only[frz]at h;cases h;cases hr;exact .nilf
  |junk=>simp only[frz]at h;cases h;exact .junk v
  |ptr b i off=>simp[frz]at h
  |pptr rows i off=>simp[frz]at h
  |fn f cs=>simp[frz]at h
  |mp b=>simp[frz]at h
  |it b=>simp[frz]at h
section
open Go.RowKit
abbrev SH:=List (Nat×Blk)
abbrev SH.names(L:SH):List Nat:=L.map Prod.fst
structure kK(L:SH)(H:ac):Prop where
 nd:L.names.Nodup
 get:∀p∈L,H.get p.1=some p.2
structure Fr(B:Nat)(L:SH)(H:ac)(L':SH)(H':ac):Prop where
 next:H.next≤H'.next
 bd:Bd H'
 sub:kK L' H'
 keep:∀b x,H.get b=some x→b∉L.names→H'.get b=some x∧b∉L'.names
 dom:∀b,b<B→H.get b=none→H'.get b=none
 fresh:∀b,b∈L'.names→b<B→b∈L.names
theorem kK.mem{L:SH}{H:ac}(h:kK L H){b:Nat}(hb:b∈L.names):∃x,(b,x)∈L∧H.get b=some x:=by obtain⟨p,hp,rfl⟩:=Wm.1 hb;exact⟨p.2,hp,h.get p hp⟩
theorem kK.congr{L:SH}{H H':ac}(h:kK L H)(hg:∀b,H'.get b=H.get b):kK L H':=⟨h.nd,λp hp=>by rw[hg];exact h.get p hp⟩
theorem Fr.refl{B:Nat}{L:SH}{H:ac}(hb:Bd H)(h:kK L H):Fr B L H L H:=⟨VL _,hb,h,λ_ _ h1 h2=>⟨h1,h2⟩,λ_ _ h=>h,λ_ h _=>h⟩
theorem Fr.trans{B B':Nat}{L L' L'':SH}{H H' H'':ac}(h:Fr B L H L' H')(k:Fr B' L' H' L'' H'')(hB:B≤B'):Fr B L H L'' H'' where
 next:=V2 h.next k.next
 bd:=k.bd
 sub:=k.sub
 keep:=λb x h1 h2=>by obtain⟨a1,a2⟩:=h.keep b x h1 h2;exact k.keep b x a1 a2
 dom:=λb hb h0=>k.dom b (V7 hb hB) (h.dom b hb h0)
 fresh:=λb h1 h2=>h.fresh b (k.fresh b h1 (V7 h2 hB)) h2
theorem Fr.low{B B':Nat}{L L':SH}{H H':ac}(h:Fr B' L H L' H')(hB:B≤B'):Fr B L H L' H':=
 ⟨h.next,h.bd,h.sub,h.keep,λb hb=>h.dom b (V7 hb hB),λb h1 h2=>h.fresh b h1 (V7 h2 hB)⟩
theorem kK.perm{L L':SH}{H:ac}(h:kK L H)(hp:L.Perm L'):kK L' H:=⟨(hp.map Prod.fst).nodup_iff.1 h.nd,λp hq=>h.get p (hp.mem_iff.2 hq)⟩
theorem kK.left{K R:SH}{H:ac}(h:kK (K++R) H):kK K H:=⟨by have:=h.nd;unfold SH.names at *;rw[VQ]at this;exact(Xn.1 this).1,λp hp=>h.get p (WM _ hp)⟩
theorem kK.right{K R:SH}{H:ac}(h:kK (K++R) H):kK R H:=⟨by have:=h.nd;unfold SH.names at *;rw[VQ]at this;exact(Xn.1 this).2.1,λp hp=>h.get p (Wa _ hp)⟩
theorem kK.disj{K R:SH}{H:ac}(h:kK (K++R) H){b:Nat}(h1:b∈K.names)(h2:b∈R.names):False:=by have:=h.nd;unfold SH.names at *;rw[VQ]at this;exact(Xn.1 this).2.2 b h1 b h2 rfl
theorem Fr.frame{B:Nat}{K K' R L:SH}{H H':ac}(h:Fr B K H K' H')(hL:L.Perm (K++R))(hs:kK L H):Fr B L H (K'++R) H':=by
 have hs':=hs.perm hL;have hr:∀p∈R,H'.get p.1=some p.2∧p.1∉K'.names:=λp hp=>
  h.keep p.1 p.2 (hs'.right.get p hp) (λhk=>hs'.disj hk (Wl hp))
 have hn:∀b,b∈L.names↔b∈K.names∨b∈R.names:=λb=>by rw[(hL.map Prod.fst).mem_iff,VQ,VY]
 refine⟨h.next,h.bd,⟨?_,λp hp=>?_⟩,λb x h1 h2=>?_,h.dom,λb h1 h2=>?_⟩
 ·unfold SH.names;rw[VQ,Xn];refine⟨h.sub.nd,hs'.right.nd,λa ha b hb he=>?_⟩;subst he;obtain⟨p,hp,rfl⟩:=Wm.1 hb;exact(hr p hp).2 ha
 ·rcases VY.1 hp with hp|hp
  ·exact h.sub.get p hp
  ·exact(hr p hp).1
 ·rw[hn]at h2;have h3:b∉K.names:=λhk=>h2 (.inl hk)
  obtain⟨a1,a2⟩:=h.keep b x h1 h3;refine⟨a1,λhk=>?_⟩;unfold SH.names at hk;rw[VQ,VY]at hk;rcases hk with hk|hk
  ·exact a2 hk
  ·exact h2 (.inr hk)
 ·unfold SH.names at h1;rw[VQ,VY]at h1;rw[hn];rcases h1 with h1|h1
  ·exact .inl (h.fresh b h1 h2)
  ·exact .inr h1
section
variable {P:Program} {F:TypeId→Option (List TypeId)} {w w':World} {σ σ':bb} {T T':Nat→Prop}
theorem aT.shrink{a:AV}{v:Value}(h:aT w σ T a v)(hT:∀c,T' c→T c):aT w σ T' a v:=by
 induction h with
 |int k n=>exact .int k n
 |bool b=>exact .bool b
 |str s=>exact .str s
 |nilp=>exact .nilp
 |ptr b i off pl h hp=>exact .ptr b i off pl h hp
 |mp b pl h h1 h2=>exact .mp b pl h h1 h2
 |it b pl h h1 h2=>exact .it b pl h h1 h2
 |pptr rows i off b o sz hl h ih=>exact .pptr rows i off b o sz (hl.shrink hT) ih
 |nils=>exact .nils
 |emp a=>exact .emp a
 |sl b i n pl a cap h hp hn hm ha=>exact .sl b i n pl a cap h hp hn hm ha
 |lst0 a cap hm=>exact .lst0 a cap hm
 |lst rows b o sz cap hl hn hm h ih=>exact .lst rows b o sz cap (hl.shrink hT) hn hm ih
 |agg cs vs hl h ih=>exact .agg cs vs hl ih
 |tup cs vs hl h ih=>exact .tup cs vs hl ih
 |fn f cs vs hl h ih=>exact .fn f cs vs hl ih
 |nilf=>exact .nilf
 |junk v=>exact .junk v
theorem yZ.shrink{x:Blk}{pl:cl}{cs:Array Value}{e:TypeId}(h:yZ w σ T x pl cs e)(hT:∀c,T' c→T c):yZ w σ T' x pl cs e:=
 ⟨h.size,h.block,h.even,h.room,λi r j a u h1 h2 h3=>(h.rep i r j a u h1 h2 h3).shrink hT⟩
theorem j6.shrink{x:Blk}{pl:cl}{cs:Array Value}{e:TypeId}(h:j6 w σ T x pl cs e)(hT:∀c,T' c→T c):j6 w σ T' x pl cs e:=⟨λhp=>(h.1 hp).shrink hT,h.2⟩
theorem aH.less{H H':ac}(h:∀b x,H'.get b=some x→H.get b=some x)(c:Nat)(hc:aH σ H' c):aH σ H c:=by
 rcases hc with hc|⟨b,x,pl,h1,h2,h3⟩
 ·exact .inl hc
 ·exact .inr ⟨b,x,pl,h b x h1,h2,h3⟩
theorem aW.less{H H':ac}(hW:aW w σ H)(h:∀b x,H'.get b=some x→H.get b=some x)(hn:H.next≤H'.next):aW w σ H' where
 named:=λb pl hb=>V7 (hW.named b pl hb) hn
 lt:=hW.lt
 live:=λb x hb=>by obtain⟨pl,cs,e,h1,h2⟩:=hW.live b x (h b x hb);exact⟨pl,cs,e,h1,h2.shrink (aH.less h)⟩
 apart:=λc hc=>⟨(hW.apart c hc).1,λ⟨b,x,pl,h1,h2,h3⟩=>(hW.apart c hc).2 ⟨b,x,pl,h b x h1,h2,h3⟩⟩
 inj:=λb b' x x' pl pl' h1 h2=>hW.inj b b' x x' pl pl' (h b x h1) (h b' x' h2)
 glob:=hW.glob.less (aH.less h)
def Tu(τ:List AV)(H:ac)(τ1:List AV)(H1:ac):Prop:=
 H.next≤H1.next∧(∀b x,H1.get b=some x→H.get b=some x)∧∀(w:World) (σ:bb) (a:Act),aW w σ H→cv w σ (aH σ H) τ a→cv w σ (aH σ H1) τ1 a
variable {c c1 c2:Code} {τ τ1 τ2:List AV} {H H1 H2:ac} {e:Ex}
theorem cF.shift(h:cF P c τ H e τ1 H1)(k:Tu τ1 H1 τ2 H2):cF P c τ H e τ2 H2:=by refine⟨V2 h.1 k.1,λw σ a hW hτ Q hQ=>h.2 w σ a hW hτ Q λa' w' haf=>hQ a' w' ?_⟩;obtain⟨σ',t,r,e1,m⟩:=haf;exact⟨σ',k.2.2 w' σ' a' r t,r.less k.2.1 k.1,⟨e1.os,e1.tape,e1.output,e1.size,e1.keep,e1.shape,e1.sig,e1.eqfr,e1.frame,λc hc=>e1.own c (aH.less k.2.1 c hc)⟩,m⟩
theorem cF.seq(h:cF P c1 τ H .normal τ1 H1)(k:cF P c2 τ1 H1 e τ2 H2):cF P (.seq c1 c2) τ H e τ2 H2:=by refine⟨V2 h.1 k.1,λw σ a hW hτ Q hQ=>wp_seq (h.2 w σ a hW hτ _ λa' w' haf=>?_)⟩;obtain⟨σ1,t1,r1,e1,m1⟩:=haf;exact k.2 w' σ1 a' r1 t1 Q λa2 w2 haf2=>hQ a2 w2 (haf2.trans e1 m1 h.1)
theorem cF.seq_out(h:cF P c1 τ H e τ1 H1)(he:e≠.normal):cF P (.seq c1 c2) τ H e τ1 H1:=by
 refine⟨h.1,λw σ a hW hτ Q hQ=>wp_seq (h.2 w σ a hW hτ _ λa' w' haf=>?_)⟩;cases e with
 |normal=>exact absurd rfl he
 |exit id=>exact hQ _ _ haf
 |ret=>exact hQ _ _ haf
theorem cF.cond{x:Operand}{t:Bool}(hb:jT τ x=.bool t)(h:cF P (if t then c1 else c2) τ H e τ1 H1):cF P (.cond x c1 c2) τ H e τ1 H1:=by refine⟨h.1,λw σ a hW hτ Q hQ=>wp_cond (t:=t) ?_ (h.2 w σ a hW hτ Q hQ)⟩;have:=hτ.eval hW.glob x;rw[hb]at this;generalize a.eval x=u at this;cases this;rfl
def Ex.leave(id:Nat):Ex→Ex
 |.exit id'=>if id'=id then .normal else .exit id'
 |e=>e
theorem cF.block{id:Nat}(h:cF P c τ H e τ1 H1):cF P (.block id c) τ H (e.leave id) τ1 H1:=by
 refine⟨h.1,λw σ a hW hτ Q hQ=>wp_block (h.2 w σ a hW hτ _ λa' w' haf=>?_)⟩;have:=hQ a' w' haf;cases e with
 |normal=>exact this
 |ret=>exact this
 |exit id'=>
  simp only[HX,Exit.inBlock];simp only[Ex.leave]at this;by_cases hid:id'=id
  ·simp only[hid,if_true]at this ⊢;exact this
  ·simp only[hid,if_false]at this ⊢;exact this
theorem kJ.next{n:Nat}(h:cF P c τ H .normal τ1 H1)(k:kJ P n c τ1 H1 e τ2 H2):kJ P (n+1) c τ H e τ2 H2:=by
 refine⟨V2 h.1 k.1,λw σ a hW hτ Q hQ=>?_⟩;rw[rounds_succ];refine h.2 w σ a hW hτ _ λa' w' haf=>?_
 obtain⟨σ1,t1,r1,e1,m1⟩:=haf;exact k.2 w' σ1 a' r1 t1 Q λa2 w2 haf2=>hQ a2 w2 (haf2.trans e1 m1 h.1)
theorem kJ.out(h:cF P c τ H e τ1 H1)(he:e≠.normal):kJ P 1 c τ H e τ1 H1:=by
 refine⟨h.1,λw σ a hW hτ Q hQ=>?_⟩;rw[rounds_succ];refine h.2 w σ a hW hτ _ λa' w' haf=>?_
 cases e with
 |normal=>exact absurd rfl he
 |exit id=>exact hQ _ _ haf
 |ret=>exact hQ _ _ haf
theorem kJ.code{n:Nat}(h:kJ P n c τ H e τ1 H1):cF P (.loop c) τ H e τ1 H1:=
 ⟨h.1,λw σ a hW hτ Q hQ=>wp_loop_rounds n (h.2 w σ a hW hτ Q hQ)⟩
def cx(P:Program)(c:Code)(τ:List AV)(L:SH)(Q:Ex→List AV→SH→Prop):Prop:=
 ∀H,Bd H→kK L H→∃e τ' H' L',cF P c τ H e τ' H'∧Fr H.next L H L' H'∧Q e τ' L'
def af(P:Program)(f:FuncId)(args:List AV)(L:SH)(Q:AV→SH→Prop):Prop:=
 (∃fn c,P.funcs[f]? =some fn∧fn.body=some c)∧∀H,Bd H→kK L H→∃v H' L',oU P f args H v H'∧Fr H.next L H L' H'∧Q v L'
variable {L:SH} {Q Q2:Ex→List AV→SH→Prop}
theorem cx.mono(h:cx P c τ L Q)(hq:∀e τ' L',Q e τ' L'→Q2 e τ' L'):cx P c τ L Q2:=λH hb hs=>by obtain⟨e,τ',H',L',h1,h2,h3⟩:=h H hb hs;exact⟨e,τ',H',L',h1,h2,hq _ _ _ h3⟩
theorem af.mono{f:FuncId}{args:List AV}{R R2:AV→SH→Prop}(h:af P f args L R)(hq:∀v L',R v L'→R2 v L'):af P f args L R2:=⟨h.1,λH hb hs=>by
 obtain⟨v,H',L',h1,h2,h3⟩:=h.2 H hb hs;exact⟨v,H',L',h1,h2,hq _ _ h3⟩⟩
theorem af.frame{f:FuncId}{args:List AV}{K R:SH}{R1 R2:AV→SH→Prop}(h:af P f args K R1)(hL:L.Perm (K++R))(hq:∀v K',R1 v K'→R2 v (K'++R)):af P f args L R2:=⟨h.1,λH hb hs=>by
 obtain⟨v,H',K',h1,h2,h3⟩:=h.2 H hb (hs.perm hL).left;exact⟨v,H',K'++R,h1,h2.frame hL hs,hq _ _ h3⟩⟩
theorem cx.stop(e:Ex)(hc:∀H,cF P c τ H e τ H)(h:Q e τ L):cx P c τ L Q:=λH hb hs=>⟨e,τ,H,L,hc H,.refl hb hs,h⟩
theorem cx.skip(h:Q .normal τ L):cx P .skip τ L Q:=.stop .normal (λH=>⟨VL _,λw σ a hW hτ Q hQ=>wp_skip (hQ _ _ (.refl hW hτ))⟩) h
theorem cx.exit{id:Nat}(h:Q (.exit id) τ L):cx P (.exit id) τ L Q:=.stop (.exit id) (λH=>⟨VL _,λw σ a hW hτ Q hQ=>wp_exit (hQ _ _ (.refl hW hτ))⟩) h
theorem cx.ret(h:Q .ret τ L):cx P .ret τ L Q:=.stop .ret (λH=>⟨VL _,λw σ a hW hτ Q hQ=>wp_ret (hQ _ _ (.refl hW hτ))⟩) h
theorem cx.label{l:Nat}(h:Q .normal τ L):cx P (.label l) τ L Q:=.stop .normal (λH=>⟨VL _,λw σ a hW hτ Q hQ=>wp_label (hQ _ _ (.refl hW hτ))⟩) h
theorem cx.seq(h:cx P c1 τ L λe τ' L'=>match e with|.normal=>cx P c2 τ' L' Q|e=>Q e τ' L'):cx P (.seq c1 c2) τ L Q:=λH hb hs=>by
 obtain⟨e,τ1,H1,L1,h1,h2,h3⟩:=h H hb hs;cases e with
 |normal=>obtain⟨e,τ2,H2,L2,k1,k2,k3⟩:=h3 H1 h2.bd h2.sub;exact⟨e,τ2,H2,L2,h1.seq k1,h2.trans k2 h2.next,k3⟩
 |exit id=>exact⟨_,τ1,H1,L1,h1.seq_out Xu,h2,h3⟩
 |ret=>exact⟨_,τ1,H1,L1,h1.seq_out Xu,h2,h3⟩
theorem cx.cond{x:Operand}{t:Bool}(hb:jT τ x=.bool t)(h:cx P (if t then c1 else c2) τ L Q):cx P (.cond x c1 c2) τ L Q:=λH hB hs=>by obtain⟨e,τ1,H1,L1,h1,h2,h3⟩:=h H hB hs;exact⟨e,τ1,H1,L1,h1.cond hb,h2,h3⟩
theorem cx.block{id:Nat}(h:cx P c τ L λe τ' L'=>Q (e.leave id) τ' L'):cx P (.block id c) τ L Q:=λH hB hs=>by obtain⟨e,τ1,H1,L1,h1,h2,h3⟩:=h H hB hs;exact⟨_,τ1,H1,L1,h1.block,h2,h3⟩
theorem cx.loop(I:Nat→List AV→SH→Prop)(hs:∀n τ L,I n τ L→cx P c τ L λe τ' L'=>match e with|.normal=>∃m,m<n∧I m τ' L'|e=>Q e τ' L')(n:Nat)(h0:I n τ L):cx P (.loop c) τ L Q:=by
 have key:∀n τ L,I n τ L→∀H,Bd H→kK L H→∃k e τ' H' L',kJ P k c τ H e τ' H'∧Fr H.next L H L' H'∧Q e τ' L':=by
  intro n
  induction n using Nat.strongRecOn with
  |_ n ih=>
   intro τ L hI H hB hS;obtain⟨e,τ1,H1,L1,h1,h2,h3⟩:=hs n τ L hI H hB hS;cases e with
   |normal=>obtain⟨m,hm,hI1⟩:=h3;obtain⟨k,e,τ2,H2,L2,k1,k2,k3⟩:=ih m hm τ1 L1 hI1 H1 h2.bd h2.sub;exact⟨k+1,e,τ2,H2,L2,.next h1 k1,h2.trans k2 h2.next,k3⟩
   |exit id=>exact⟨1,_,τ1,H1,L1,.out h1 Xu,h2,h3⟩
   |ret=>exact⟨1,_,τ1,H1,L1,.out h1 Xu,h2,h3⟩
 intro H hB hS;obtain⟨k,e,τ',H',L',h1,h2,h3⟩:=key n τ L h0 H hB hS;exact⟨e,τ',H',L',h1.code,h2,h3⟩
def Vd(τ τ1:List AV):Prop:=τ1.length=τ.length∧∀(i:Nat) (x:AV),τ1[i]? =some x→x=.junk∨τ[i]? =some x
theorem Vd.tmps{T:Nat→Prop}{a:Act}(h:Vd τ τ1)(ht:cv w σ T τ a):cv w σ T τ1 a:=by
 refine⟨⟨by rw[h.1];exact ht.1.1,λi x u h1 h2=>?_⟩,ht.2⟩;rcases h.2 i x h1 with rfl|h3
 ·exact .junk _
 ·exact ht.1.2 i x u h3 h2
theorem cx.dim(hd:Vd τ τ1)(h:cx P c τ1 L Q):cx P c τ L Q:=λH hB hs=>by obtain⟨e,τ',H',L',h1,h2,h3⟩:=h H hB hs;exact⟨e,τ',H',L',⟨h1.1,λw σ a hW hτ Q hQ=>h1.2 w σ a hW (hd.tmps hτ) Q hQ⟩,h2,h3⟩
end
end
section
open Go.RowKit
inductive CC (b:Nat) (x x':Blk):SH→SH→Prop where
 |here (L:SH):CC b x x' ((b,x)::L) ((b,x')::L)
 |there (p:Nat×Blk) {L L':SH}:CC b x x' L L'→CC b x x' (p::L) (p::L')
inductive eI (b:Nat) (x:Blk):SH→SH→Prop where
 |here (L:SH):eI b x ((b,x)::L) L
 |there (p:Nat×Blk) {L L':SH}:eI b x L L'→eI b x (p::L) (p::L')
theorem CC.mem{b:Nat}{x x':Blk}{L L':SH}(h:CC b x x' L L'):(b,x)∈L:=by
 induction h with
 |here L=>simp
 |there p h ih=>simp[ih]
theorem CC.names{b:Nat}{x x':Blk}{L L':SH}(h:CC b x x' L L'):L'.names=L.names:=by
 induction h with
 |here L=>rfl
 |there p h ih=>simp only[VM,ih]
theorem CC.get{b:Nat}{x x':Blk}{L L':SH}(h:CC b x x' L L')(hn:L.names.Nodup):∀p∈L',p=(b,x')∨(p∈L∧p.1≠b):=by
 induction h with
 |here L=>
  intro p hp;rcases VN.1 hp with rfl|hp
  ·exact .inl rfl
  ·refine .inr ⟨by simp[hp],λhe=>?_⟩;simp only[VM,VW]at hn;exact hn.1 (he▸Wl hp)
 |there q h ih=>
  intro p hp;simp only[VM,VW]at hn;rcases VN.1 hp with rfl|hp
  ·refine .inr ⟨Xu,λhe=>hn.1 ?_⟩;rw[he];exact Wl (f:=Prod.fst) h.mem
  ·rcases ih hn.2 p hp with rfl|⟨h1,h2⟩
   ·exact .inl rfl
   ·exact .inr ⟨by simp[h1],h2⟩
theorem eI.perm{b:Nat}{x:Blk}{L L':SH}(h:eI b x L L'):L.Perm ((b,x)::L'):=by
 induction h with
 |here L=>exact .refl _
 |there p h ih=>exact(ih.cons p).trans (.swap _ _ _)
def Rq:SH→Nat→Option Blk
 |[],_=>none
 |(c,x)::L,b=>if c=b then some x else Rq L b
def Tv:SH→Nat→Blk→SH
 |[],_,_=>[]
 |(c,x)::L,b,y=>if c=b then(c,y)::L else(c,x)::Tv L b y
structure nS(b:Nat)(L:SH)(H:ac)(L':SH)(H':ac):Prop where
 next:H'.next=H.next
 bd:Bd H'
 sub:kK L' H'
 keep:∀c x,H.get c=some x→c∉L.names→H'.get c=some x∧c∉L'.names
 dom:∀c,c≠b→H.get c=none→H'.get c=none
 fresh:∀c,c∈L'.names→c=b∨c∈L.names
theorem nS.refl{b:Nat}{L:SH}{H:ac}(hb:Bd H)(hs:kK L H):nS b L H L H:=⟨rfl,hb,hs,λ_ _ h1 h2=>⟨h1,h2⟩,λ_ _ h=>h,λ_ h=>.inr h⟩
theorem kK.not_mem{L:SH}{H:ac}(hs:kK L H){b:Nat}(h:H.get b=none):b∉L.names:=λhb=>by obtain⟨x,_,hx⟩:=hs.mem hb;rw[h]at hx;cases hx
theorem nS.new{b:Nat}{L:SH}{H:ac}(hb:Bd H)(hs:kK L H)(hlt:b<H.next)(h0:H.get b=none)(x:Blk):nS b L H ((b,x)::L) (H.new b x) where
 next:=rfl
 bd:=λc hc=>by have hc':H.next≤c:=hc;rw[ac.get_new,if_neg Xr];exact hb c hc'
 sub:=⟨by simp only[VM,VW];exact⟨hs.not_mem h0,hs.nd⟩,λp hp=>by
  rcases VN.1 hp with rfl|hp
  ·rw[ac.get_new,if_pos rfl]
  ·have:=hs.get p hp;rw[ac.get_new,if_neg]
   ·exact this
   ·intro he;rw[←he,h0]at this;cases this⟩
 keep:=λc y h1 h2=>by
  have hne:b≠c:=λhe=>by rw[←he,h0]at h1;cases h1
  refine⟨by rw[ac.get_new,if_neg hne];exact h1,λhm=>?_⟩;simp only[VM,VN]at hm;rcases hm with hm|hm
  ·exact hne hm.symm
  ·exact h2 hm
 dom:=λc hc h=>by rw[ac.get_new,if_neg (λe=>hc e.symm)];exact h
 fresh:=λc hc=>by simpa using hc
theorem nS.put{b c:Nat}{L L':SH}{H:ac}{x x':Blk}(hb:Bd H)(hs:kK L H)(hu:CC c x x' L L'):nS b L H L' (H.put c (some x')) where
 next:=rfl
 bd:=λd hd=>by have hd':H.next≤d:=hd;have h1:=hs.get _ hu.mem;rw[ac.get_put,if_neg (λe=>by subst e;rw[hb _ hd']at h1;cases h1)];exact hb d hd'
 sub:=⟨by rw[hu.names];exact hs.nd,λp hp=>by
  rcases hu.get hs.nd p hp with rfl|⟨h1,h2⟩
  ·rw[ac.get_put,if_pos rfl]
  ·rw[ac.get_put,if_neg (λe=>h2 e.symm)];exact hs.get p h1⟩
 keep:=λd y h1 h2=>by
  have hne:c≠d:=λe=>h2 (e▸Wl (f:=Prod.fst) hu.mem)
  exact⟨by rw[ac.get_put,if_neg hne];exact h1,by rw[hu.names];exact h2⟩
 dom:=λd _ h=>by
  rw[ac.get_put,if_neg]
  ·exact h
  ·intro e;have h1:=hs.get _ hu.mem;rw[e,h]at h1;cases h1
 fresh:=λd hd=>by rw[hu.names]at hd;exact .inr hd
theorem nS.del{b c:Nat}{L L':SH}{H:ac}{x:Blk}(hb:Bd H)(hs:kK L H)(hu:eI c x L L'):nS b L H L' (H.put c none):=by
 have hs':kK ((c,x)::L') H:=hs.perm hu.perm;have hn:∀d,d∈L.names↔d=c∨d∈L'.names:=λd=>by rw[(hu.perm.map Prod.fst).mem_iff];simp
 have hnd:=hs'.nd;simp only[VM,VW]at hnd;refine⟨rfl,λd hd=>?_,⟨hnd.2,λp hp=>?_⟩,λd y h1 h2=>?_,λd _ h=>?_,λd hd=>.inr ((hn d).2 (.inr hd))⟩
 ·have hd':H.next≤d:=hd;rw[ac.get_put];split
  ·rfl
  ·exact hb d hd'
 ·rw[ac.get_put,if_neg (λ(e:c=p.1)=>hnd.1 (e▸Wl (f:=Prod.fst) hp))];exact hs'.get p (by simp[hp])
 ·rw[hn]at h2;refine⟨by rw[ac.get_put,if_neg (λe=>h2 (.inl e.symm))];exact h1,λh=>h2 (.inr h)⟩
 ·rw[ac.get_put];split
  ·rfl
  ·exact h
theorem nS.trans{b:Nat}{L L' L'':SH}{H H' H'':ac}(h:nS b L H L' H')(k:nS b L' H' L'' H''):nS b L H L'' H'' where
 next:=k.next.trans h.next
 bd:=k.bd
 sub:=k.sub
 keep:=λc x h1 h2=>by obtain⟨a1,a2⟩:=h.keep c x h1 h2;exact k.keep c x a1 a2
 dom:=λc hc h0=>k.dom c hc (h.dom c hc h0)
 fresh:=λc hc=>by
  rcases k.fresh c hc with h1|h1
  ·exact .inl h1
  ·exact h.fresh c h1
namespace W0
def rowLd(ag:Bool)(n:Nat)(row:List AV)(off:Nat):Option AV:=
 if ag then(if off+n≤row.length then some (.agg ((row.drop off).take n))else none)else row[off]?
def fillR(cells:List AV):List (Nat×Nat×AV)→Option (List AV)
 |[]=>some cells
 | (off,size,v)::rest=>match v.cells? with
  |some cs=>if cs.length=size∧off+size≤cells.length∧cs.all AV.one then fillR (bA cells off cs) rest else none
  |none=>none
section
variable (P:Program) (F:TypeId→Option (List TypeId))
def opt(x:Option AV)(K:AV→Prop):Prop:=∃v,x=some v∧K v
def pick(c x y:AV)(K:AV→Prop):Prop:=∃t,c=.bool t∧K (if t then x else y)
def un(op:UnOp)(x:AV)(K:AV→Prop):Prop:=opt (Vb op x) K
def bin(op:BinOp)(t:TypeId)(x y:AV)(K:AV→Prop):Prop:=opt (gY P F op t x y) K
def conv(k:IntKind)(x:AV)(K:AV→Prop):Prop:=∃k' n,x=.int k' n∧K (.int k (k.wrap n))
def convS(x:AV)(K:AV→Prop):Prop:=∃s,x=.str s∧K (.str s)
def faddr(off:Nat)(x:AV)(K:AV→Prop):Prop:=match x with
 |.ptr b i o=>K (.ptr b i (o+off))
 |.pptr rows i o=>K (.pptr rows i (o+off))
 |_=>False
def fld(ag:Bool)(n off:Nat)(x:AV)(K:AV→Prop):Prop:=∃cs v,x=.agg cs∧rowLd ag n cs off=some v∧K v
def loadR(ag:Bool)(n:Nat)(a:AV)(L:SH)(K:AV→Prop):Prop:=match a with
 |.ptr b i off=>∃x r v,(b,x)∈L∧x.rows[i]? =some r∧rowLd ag n r off=some v∧K v
 |.pptr rows i off=>∃r v,rows[i]? =some r∧rowLd ag n r off=some v∧K v
 |_=>False
def storeR(n:Nat)(a v:AV)(L:SH)(K:SH→Prop):Prop:=match a with
 |.ptr b i off=>∃x r cs L',x.rows[i]? =some r∧v.cells? =some cs∧cs.length=n∧cs.all AV.one=true∧off+n≤r.length∧CC b x ⟨x.size,x.rows.set i (bA r off cs)⟩ L L'∧K L'
 |_=>False
def idxR(n:Nat)(x ix:AV)(L:SH)(K:AV→Prop):Prop:=match x with
 |.sl b j m=>∃k i y,ix=.int k i∧0≤i∧i.toNat<m∧(b,y)∈L∧y.size=n∧K (.ptr b (j+i.toNat) 0)
 |.lst rows=>∃k i r,ix=.int k i∧0≤i∧rows[i.toNat]? =some r∧r.length=n∧K (.pptr rows i.toNat 0)
 |_=>False
def idxP(len n:Nat)(x ix:AV)(K:AV→Prop):Prop:=∃k i,ix=.int k i∧0≤i∧i.toNat<len∧(match x with
 |.ptr b j off=>K (.ptr b j (off+i.toNat*n))
 |.pptr rows j off=>K (.pptr rows j (off+i.toNat*n))
 |_=>False)
def ixS(x ix:AV)(K:AV→Prop):Prop:=∃s k i b,x=.str s∧ix=.int k i∧0≤i∧s[i.toNat]? =some b∧K (.int .u8 b.toNat)
def ixA(ag:Bool)(len n:Nat)(x ix:AV)(K:AV→Prop):Prop:=∃cs k i v,x=.agg cs∧ix=.int k i∧0≤i∧i.toNat<len∧rowLd ag n cs (i.toNat*n)=some v∧K v
def ext(i:Nat)(x:AV)(K:AV→Prop):Prop:=∃vs v,x=.tup vs∧vs[i]? =some v∧K v
def nilchk(x:AV)(K:AV→Prop):Prop:=match x with
 |.ptr b i off=>K (.ptr b i off)
 |.pptr rows i off=>K (.pptr rows i off)
 |.fn f cs=>K (.fn f cs)
 |_=>False
def build(z:List AV)(parts:List (Nat×Nat×AV))(K:AV→Prop):Prop:=∃cs,fillR z parts=some cs∧K (.agg cs)
def alloc(cs:List AV)(L:SH)(K:AV→SH→Prop):Prop:=∀b,b∉L.names→K (.ptr b 0 0) ((b,⟨cs.length,[cs]⟩)::L)
def box(x:AV)(L:SH)(K:AV→SH→Prop):Prop:=∃cs,x.cells? =some cs∧cs.all AV.one=true∧∀b,b∉L.names→K (.ptr b 0 0) ((b,⟨cs.length,[cs]⟩)::L)
def bslice(n:Nat)(z:List AV)(len:Nat)(parts:List (Nat×AV))(L:SH)(K:AV→SH→Prop):Prop:=
 len*n≤2^24∧∃rows,dQ n (List.replicate len z) parts=some rows∧∀b,b∉L.names→K (.sl b 0 len) ((b,⟨n,rows⟩)::L)
def mslice(n by_:Nat)(z:List AV)(l c:AV)(L:SH)(K:AV→SH→Prop):Prop:=
 ∃(k k':IntKind) (i j:Nat),l=.int k i∧c=.int k' j∧i≤j∧j≤2^62∧j*by_≤2^48∧∀b,b∉L.names→K (.sl b 0 i) ((b,⟨n,List.replicate i z⟩)::L)
def rowsR(L:SH)(n:Nat)(s:AV)(rows:List (List AV)):Prop:=match s with
 |.nils=>rows=[]
 |.emp=>rows=[]
 |.lst l=>rows=l∧∀r,l.head? =some r→r.length=n
 |.sl b i k=>∃x,(b,x)∈L∧x.size=n∧i+k≤x.rows.length∧rows=(x.rows.drop i).take k
 |_=>False
def appendR(n by_:Nat)(s x:AV)(L:SH)(K:AV→SH→Prop):Prop:=
 ∃l m,rowsR L n s l∧rowsR L n x m∧2*(l.length+m.length)*by_≤2^48∧2*(l.length+m.length)≤2^62∧(m.all λr=>r.all AV.one)=true∧
 (match s with
  |.nils=>(m.length=0→K .nils L)∧(m.length≠0→∀b,b∉L.names→K (.sl b 0 m.length) ((b,⟨n,m⟩)::L))
  |.emp=>(m.length=0→K .emp L)∧(m.length≠0→∀b,b∉L.names→K (.sl b 0 m.length) ((b,⟨n,m⟩)::L))
  |.sl b' _ _=>∃y L',eI b' y L L'∧∀b,b∉L.names→K (.sl b 0 (l.length+m.length)) ((b,⟨n,l++m⟩)::L')
  |_=>False)
def len(x:AV)(K:AV→Prop):Prop:=∃n:Nat,JF x=some n∧K (.int .i64 (n:Int))
def lenS(x:AV)(K:AV→Prop):Prop:=∃s,x=.str s∧K (.int .i64 (s.length:Int))
def mnx(mx:Bool)(x y:AV)(K:AV→Prop):Prop:=∃k a c,x=.int k a∧y=.int k c∧K (.int k (if mx then(if c > a then c else a)else(if c<a then c else a)))
def sliceR(n:Nat)(x:AV)(lo hi mx:Option AV)(L:SH)(K:AV→Prop):Prop:=
 ∃len l h m,JF x=some len∧cD lo 0=some l∧cD hi len=some h∧cD mx len=some m∧l≤h∧h≤m∧m≤len∧
 (match x with
  |.nils=>K .nils
  |.sl b i _=>(∃y,(b,y)∈L∧y.size=n)∧K (.sl b (i+l) (h-l))
  |.lst rows=>(mx.isSome=false∧∀r,rows.head? =some r→r.length=n)∧K (.lst ((rows.drop l).take (h-l)))
  |_=>False)
def sliceS(x:AV)(lo hi:Option AV)(K:AV→Prop):Prop:=
 ∃s l h,x=.str s∧cD lo 0=some l∧cD hi s.length=some h∧l≤h∧h≤s.length∧K (.str ((s.drop l).take (h-l)))
def store(n:Nat)(a v:AV)(L:SH)(K:SH→Prop):Prop:=match a with
 | .ptr b i off=>(match Rq L b with
  | some x=>(match x.rows[i]?,v.cells? with
   |some r,some cs=>(cs.length=n∧cs.all AV.one=true∧off+n≤r.length)∧K (Tv L b ⟨x.size,x.rows.set i (bA r off cs)⟩)
   |_,_=>False)
  |none=>False)
 |_=>False
def slice(n:Nat)(x:AV)(lo hi mx:Option AV)(L:SH)(K:AV→Prop):Prop:=match JF x with
 | some len=>(match cD lo 0,cD hi len,cD mx len with
  | some l,some h,some m=>(l≤h∧h≤m∧m≤len)∧(match x with
   |.nils=>K .nils
   | .sl b i _=>(match Rq L b with
    |some y=>y.size=n∧K (.sl b (i+l) (h-l))
    |none=>False)
   |.lst rows=>(mx.isSome=false∧∀r,rows.head? =some r→r.length=n)∧K (.lst ((rows.drop l).take (h-l)))
   |_=>False)
  |_,_,_=>False)
 |none=>False
def clearR(n:Nat)(z:List AV)(x:AV)(L:SH)(K:SH→Prop):Prop:=match x with
 |.nils=>K L
 |.sl b i k=>∃y L',y.size=n∧i+k≤y.rows.length∧CC b y ⟨y.size,y.rows.take i++List.replicate k z++y.rows.drop (i+k)⟩ L L'∧K L'
 |_=>False
def mkmap(L:SH)(K:AV→SH→Prop):Prop:=∀b,b∉L.names→K (.mp b) ((b,⟨0,[]⟩)::L)
def found(z:AV)(ok:Bool)(r:Option (Nat×AV)):AV:=match r with
 |some (_,v)=>if ok then .tup [v,.bool true]else v
 |none=>if ok then .tup [z,.bool false]else z
def lookR(z:AV)(ok:Bool)(m k:AV)(L:SH)(K:AV→Prop):Prop:=match m,k with
 |.mp b,.str s=>∃x,(b,x)∈L∧x.rows.all vN=true∧K (found z ok (gv s x.rows 0))
 |_,_=>False
def putR(s:List UInt8)(v:AV)(rows:List (List AV)):List (List AV):=match gv s rows 0 with
 |some (i,_)=>rows.set i [.str s,v]
 |none=>rows++[[.str s,v]]
def mupR(m k v:AV)(L:SH)(K:SH→Prop):Prop:=match m,k with
 |.mp b,.str s=>∃x L',x.rows.all vN=true∧v.konst=true∧CC b x ⟨x.size,putR s v x.rows⟩ L L'∧K L'
 |_,_=>False
def rngS(x:AV)(L:SH)(K:AV→SH→Prop):Prop:=∃s,x=.str s∧∀b,b∉L.names→K (.it b) ((b,⟨0,[[.str s,.int .i64 0]]⟩)::L)
def nextR(it:AV)(L:SH)(K:AV→SH→Prop):Prop:=match it with
  | .it b => ∃ x s k pos, (b, x) ∈ L ∧ x.rows = [[.str s, .int k pos]]∧
      (if pos<s.length then∃L',CC b x ⟨x.size,[[.str s,.int .i64 ((pos.toNat+(Utf8.decode ⟨s.toArray⟩ pos.toNat).2:Nat):Int)]]⟩ L L'∧K (.tup [.bool true,.int .i64 pos,.int .i32 (Utf8.decode ⟨s.toArray⟩ pos.toNat).1]) L'
       else K (.tup [.bool false]) L)
  |_=>False
def zof(t:TypeId):Option (List AV):=(ea P t).bind AV.cells?
def op(o:Op)(ρ:Operand→AV)(L:SH)(K:AV→SH→Prop):Prop:=
 let k:=λv=>K v L
 match o with
 |.move x|.assign x=>K (ρ x) L
 |.pick c x y=>pick (ρ c) (ρ x) (ρ y) k
 | .alloc t=>match zof P t with
  |some cs=>alloc cs L K
  |none=>False
 |.box _ x=>box (ρ x) L K
 | .build t parts=>match P.underlying t,ea P t with
  | some (.struct fs),some (.agg z)=>if(fs.toList.all λf=>(aQ P f.type).isSome)=true then
    (match cg (parts.toList.map λp=>(mn P fs p.1).map λq=>(q.1,q.2,ρ p.2))with
     |some ps=>build z ps k
     |none=>False)
   else False
  | some (.array _ e),some (.agg z)=>(match aQ P e with
   |some n=>build z (parts.toList.map λp=>(p.1*n,n,ρ p.2)) k
   |none=>False)
  |_,_=>False
 | .buildSlice t len parts=>match P.underlying t with
  | some (.slice e)=>match aQ P e,zof P e with
   |some n,some z=>if z.length=n∧0<n then bslice n z len (parts.toList.map λp=>(p.1,ρ p.2)) L K else False
   |_,_=>False
  |_=>False
 | .load t a=>match eR P t,aQ P t with
  |some ag,some n=>loadR ag n (ρ a) L k
  |_,_=>False
 | .store t a x=>match aQ P t with
  |some n=>storeR n (ρ a) (ρ x) L (K (.tup []))
  |none=>False
 |.nilCheck x=>nilchk (ρ x) k
 |.binOp op t x y _=>bin P F op t (ρ x) (ρ y) k
 |.unOp op _ x=>un op (ρ x) k
 | .convert s d x=>match P.underlying s,P.underlying d with
  |some (.int _),some (.int kd)=>conv kd (ρ x) k
  |some .string,some .string=>convS (ρ x) k
  |_,_=>False
 |.makeFunc (.func f) first cap=>if first.size=0 then K (.fn f (cap.toList.map ρ)) L else False
 | .makeSlice t l c=>match P.underlying t with
  | some (.slice e)=>match aQ P e,iZ P e,zof P e with
   |some n,some by_,some z=>if z.length=n∧0<n then mslice n by_ z (ρ l) (ρ c) L K else False
   |_,_,_=>False
  |_=>False
 | .slice t x lo hi mx=>if(hi.isNone&&mx.isSome)=true then False else match P.underlying t with
  | some (.slice e)=>(match aQ P e with
   |some n=>sliceR n (ρ x) (lo.map ρ) (hi.map ρ) (mx.map ρ) L k
   |none=>False)
  |some .string=>if mx.isNone=true then sliceS (ρ x) (lo.map ρ) (hi.map ρ) k else False
  |_=>False
 | .fieldAddr s x f=>match P.underlying s with
  | some (.struct fs)=>match fs[f]? with
   | some f=>(match aQ P f.type with
    |some n=>if n=0 then False else faddr f.offset (ρ x) k
    |none=>False)
   |none=>False
  |_=>False
 | .field s x f=>match P.underlying s with
  | some (.struct fs)=>match fs[f]? with
   | some f=>(match eR P f.type,aQ P f.type with
    |some ag,some n=>fld ag n f.offset (ρ x) k
    |_,_=>False)
   |none=>False
  |_=>False
 | .indexAddr t x ix=>match P.underlying t with
  | some (.slice e)=>(match aQ P e with
   |some n=>idxR n (ρ x) (ρ ix) L k
   |none=>False)
  | some (.array len e)=>(match aQ P e with
   |some n=>idxP len n (ρ x) (ρ ix) k
   |none=>False)
  |_=>False
 | .index t x ix=>match P.underlying t with
  |some .string=>ixS (ρ x) (ρ ix) k
  | some (.array len e)=>(match eR P e,aQ P e with
   |some ag,some n=>ixA ag len n (ρ x) (ρ ix) k
   |_,_=>False)
  |_=>False
 |.extract x i=>ext i (ρ x) k
 |.makeMap _ none=>mkmap L K
 | .lookup t m y ok=>match P.underlying t with
  | some (.map kt et)=>(match P.underlying kt,ea P et with
   |some .string,some z=>lookR z ok (ρ m) (ρ y) L k
   |_,_=>False)
  |_=>False
 | .mapUpdate t m y x=>match P.underlying t with
  | some (.map kt _)=>(match P.underlying kt with
   |some .string=>mupR (ρ m) (ρ y) (ρ x) L (K (.tup []))
   |_=>False)
  |_=>False
 | .range t x=>match P.underlying t with
  |some .string=>rngS (ρ x) L K
  |_=>False
 |.next it true=>nextR (ρ it) L K
 | .call c=>match c.callee with
  | .builtin .len=>(match c.args.toList,(c.argTypes[0]?).bind P.underlying with
   |[x],some (.slice _)=>len (ρ x) k
   |[x],some .string=>lenS (ρ x) k
   |[x],some (.array n _)=>(match ρ x with|.str _=>False|_=>K (.int .i64 n) L)
   |_,_=>False)
  | .builtin .append=>(match c.args.toList,c.argTypes.toList with
   | [s,x],[t,tx]=>(match P.underlying t,P.underlying tx with
    | some (.slice e),some (.slice _)=>(match aQ P e,iZ P e,zof P e with
     |some n,some by_,some z=>if z.length=n∧0<n then appendR n by_ (ρ s) (ρ x) L K else False
     |_,_,_=>False)
    |_,_=>False)
   |_,_=>False)
  | .builtin .min=>(match c.args.toList with
   |[x,y]=>mnx false (ρ x) (ρ y) k
   |_=>False)
  | .builtin .max=>(match c.args.toList with
   |[x,y]=>mnx true (ρ x) (ρ y) k
   |_=>False)
  | .builtin .clear=>(match c.args.toList,c.argTypes.toList with
   | [x],[t]=>(match P.underlying t with
    | some (.slice e)=>(match aQ P e,zof P e with
     |some n,some z=>if(z.length=n∧0<n)∧z.all AV.one=true then clearR n z (ρ x) L (K (.tup []))else False
     |_,_=>False)
    |_=>False)
   |_,_=>False)
  | .value f=>(match ρ f with
   |.fn g cs=>af P g (c.args.toList.map ρ++cs) L K
   |_=>False)
  |_=>False
 |_=>False
end
end W0
end
section
open Go.RowKit
section
variable {P:Program} {F:TypeId→Option (List TypeId)} {ρ:Operand→AV} {L:SH} {K:AV→SH→Prop} {b:Nat} {H:ac}
theorem we{t:TypeId}{ag:Bool}{n off:Nat}{row:List AV}{v:AV}(h1:eR P t=some ag)(h2:aQ P t=some n)(h:W0.rowLd ag n row off=some v):gW P t row off=some v:=by
 unfold gW;rw[h1,h2];cases ag with
 |true=>simpa[W0.rowLd]using h
 |false=>simpa[W0.rowLd]using h
theorem C2{place:Nat→Option (Nat×Nat)}:∀(parts:List (Nat×AV)) (ps:List (Nat×Nat×AV)) (z cs:List AV),cg (parts.map λp=>(place p.1).map λq=>(q.1,q.2,p.2))=some ps→W0.fillR z ps=some cs→vL place z parts=some cs
 |[],ps,z,cs,h1,h2=>by cases h1;exact h2
 | (i,v)::parts,ps,z,cs,h1,h2=>by
  simp only[VM]at h1;cases hp:place i with
  |none=>rw[hp]at h1;cases h1
  |some q=>
   rw[hp]at h1;simp only[Wb,cg]at h1;split at h1
   ·rename_i l hl;cases h1;simp only[W0.fillR]at h2;simp only[vL,hp];split at h2
    ·rename_i cs' hc;rw[hc];simp only[];split at h2
     ·rename_i hcond;rw[if_pos hcond];exact C2 parts l _ cs hl h2
     ·cases h2
    ·cases h2
   ·cases h1
theorem wh{α β:Type}(f:α→β):∀l:List α,cg (l.map λx=>some (f x))=some (l.map f)
 |[]=>rfl
 |x::l=>by simp only[VM,cg,wh f l]
theorem Ie{n:Nat}{s:AV}{rows:List (List AV)}(hs:kK L H)(h:W0.rowsR L n s rows):fq H n s=some rows:=by
 unfold W0.rowsR at h;split at h
 ·subst h;rfl
 ·subst h;rfl
 ·rename_i l;obtain⟨hl,h1⟩:=h;subst hl;cases rows with
  |nil=>rfl
  |cons r l=>simp[fq,h1 r rfl]
 ·obtain⟨x,h1,h2,h3,rfl⟩:=h;simp[fq,hs.get _ h1,h2,h3]
 ·exact h.elim
def W0.makes:Op→Bool
 |.alloc ..|.box ..|.buildSlice ..|.makeSlice ..|.makeMap ..|.range ..=>true
 | .call c=>match c.callee with
  |.builtin .append=>true
  |_=>false
 |_=>false
def M8(P:Program)(F:TypeId→Option (List TypeId))(o:Op)(ρ:Operand→AV)(b:Nat)(L:SH)(H:ac)(K:AV→SH→Prop):Prop:=
 (∃v H' L',aK P F o ρ b H=some (.val v H')∧nS b L H L' H'∧(b∈L'.names→W0.makes o=true∧b∈aa v)∧K v L')∨∃g args,aK P F o ρ b H=some (.call g args)∧af P g args L K
theorem LY{o:Op}{v:AV}(hb:Bd H)(hs:kK L H)(h0:H.get b=none)(h:aK P F o ρ b H=some (.val v H))(hk:K v L):M8 P F o ρ b L H K:=.inl ⟨v,H,L,h,.refl hb hs,λhm=>absurd hm (hs.not_mem h0),hk⟩
theorem hD{o:Op}{v:AV}{x:Blk}(hb:Bd H)(hs:kK L H)(hlt:b<H.next)(h0:H.get b=none)(hv:W0.makes o=true∧b∈aa v)(h:aK P F o ρ b H=some (.val v (H.new b x)))(hk:K v ((b,x)::L)):M8 P F o ρ b L H K:=.inl ⟨v,_,_,h,.new hb hs hlt h0 x,λ_=>hv,hk⟩
theorem K3{t:TypeId}{ag:Bool}{n:Nat}{a:AV}{k:AV→Prop}(hs:kK L H)(h1:eR P t=some ag)(h2:aQ P t=some n)(h:W0.loadR ag n a L k):∃v,m5 P H t a=some v∧k v:=by
 unfold W0.loadR at h;split at h
 ·obtain⟨x,r,v,g1,g2,g3,g4⟩:=h;exact⟨v,by simp[m5,hs.get _ g1,g2,we h1 h2 g3],g4⟩
 ·obtain⟨r,v,g2,g3,g4⟩:=h;exact⟨v,by simp[m5,g2,we h1 h2 g3],g4⟩
 ·exact h.elim
theorem GA{o:Op}(hb:Bd H)(hs:kK L H)(hlt:b<H.next)(h0:H.get b=none)(h:W0.op P F o ρ L K):M8 P F o ρ b L H K:=by
 have hnb:=hs.not_mem h0;have goes_val:∀{o:Op} {v:AV} (_:Bd H) (_:kK L H) (_:aK P F o ρ b H=some (.val v H)) (_:K v L),M8 P F o ρ b L H K:=λhb hs h hk=>LY hb hs h0 h hk
 cases o with
 |move x=>exact goes_val hb hs rfl h
 |assign x=>exact goes_val hb hs rfl h
 |pick c x y=>obtain⟨t,h1,h2⟩:=h;exact goes_val hb hs (by simp[aK,h1]) h2
 |alloc t=>
  simp only[W0.op,W0.zof]at h;split at h
  ·rename_i cs hc;exact hD hb hs hlt h0 ⟨rfl,by simp[aa]⟩ (by simp only[aK,hc]) (h b hnb)
  ·exact h.elim
 |box t x=>obtain⟨cs,h1,h2,h3⟩:=h;exact hD hb hs hlt h0 ⟨rfl,by simp[aa]⟩ (by simp only[aK,h1,h2,if_true]) (h3 b hnb)
 |build t parts=>
  simp only[W0.op]at h;split at h
  ·rename_i fs z hu hz;split at h
   ·rename_i hall;split at h
    ·rename_i ps hps;obtain⟨cs,h1,h2⟩:=h;refine goes_val hb hs ?_ h2;have:=C2 (place:=mn P fs) (parts.toList.map λp=>(p.1,ρ p.2)) ps z cs (by rw[List.map_map];exact hps) h1;simp only[aK,CM,hu,hz];rw[if_pos hall,this];rfl
    ·exact h.elim
   ·exact h.elim
  ·rename_i len e z hu hz;split at h
   ·rename_i n hn;obtain⟨cs,h1,h2⟩:=h;refine goes_val hb hs ?_ h2;have:=C2 (place:=λi=>some (i*n,n)) (parts.toList.map λp=>(p.1,ρ p.2)) (parts.toList.map λp=>(p.1*n,n,ρ p.2)) z cs (by
     rw[List.map_map];exact wh (λp:Nat×Operand=>(p.1*n,n,ρ p.2)) parts.toList) h1
    simp only[aK,CM,hu,hz,hn,Wy,this];rfl
   ·exact h.elim
  ·exact h.elim
 |buildSlice t len parts=>
  simp only[W0.op,W0.zof]at h;split at h
  ·rename_i e hu;split at h
   ·rename_i n z hn hz;split at h
    ·rename_i hc;obtain⟨h1,rows,h2,h3⟩:=h;exact hD hb hs hlt h0 ⟨rfl,by simp[aa]⟩ (by simp only[aK,hu,hn,hz];rw[if_pos ⟨hc.1,hc.2,h1⟩,h2];rfl) (h3 b hnb)
    ·exact h.elim
   ·exact h.elim
  ·exact h.elim
 |load t a=>
  simp only[W0.op]at h;split at h
  ·rename_i ag n hag hn;obtain⟨v,g1,g2⟩:=K3 hs hag hn h;exact goes_val hb hs (by simp[aK,g1]) g2
  ·exact h.elim
 |store t a x=>
  simp only[W0.op]at h;split at h
  ·rename_i n hn;unfold W0.storeR at h;split at h
   ·rename_i c i off ha;obtain⟨y,r,cs,L',g1,g2,g3,g4,g5,g6,g7⟩:=h;have hg:=hs.get _ g6.mem;simp only at hg;refine .inl ⟨_,_,L',?_,.put hb hs g6,λhm=>absurd (g6.names▸hm) hnb,g7⟩;simp only[aK,fN,ha,g2,hn,hg,g1];rw[if_pos ⟨g3,g4,g5⟩];rfl
   ·exact h.elim
  ·exact h.elim
 |nilCheck x=>
  simp only[W0.op,W0.nilchk]at h;split at h
  ·rename_i hx;exact goes_val hb hs (by simp[aK,hx]) h
  ·rename_i hx;exact goes_val hb hs (by simp[aK,hx]) h
  ·rename_i hx;exact goes_val hb hs (by simp[aK,hx]) h
  ·exact h.elim
 |binOp op t x y c=>obtain⟨v,h1,h2⟩:=h;exact goes_val hb hs (by simp[aK,h1]) h2
 |unOp op t x=>obtain⟨v,h1,h2⟩:=h;exact goes_val hb hs (by simp[aK,h1]) h2
 |convert s d x=>
  simp only[W0.op]at h;split at h
  ·rename_i h1 h2;obtain⟨k',n,h3,h4⟩:=h;exact goes_val hb hs (by simp[aK,HH,h1,h2,h3]) h4
  ·rename_i h1 h2;obtain⟨s,h3,h4⟩:=h;exact goes_val hb hs (by simp[aK,HH,h1,h2,h3]) h4
  ·exact h.elim
 |makeFunc fn first cap=>
  cases fn with
  |func f=>
   simp only[W0.op]at h;split at h
   ·rename_i h1;exact goes_val hb hs (by simp only[aK];rw[if_pos h1]) h
   ·exact h.elim
  |_=>exact h.elim
 |makeSlice t l c=>
  simp only[W0.op,W0.zof]at h;split at h
  ·rename_i e hu;split at h
   ·rename_i n by_ z hn hby hz;split at h
    ·rename_i hc;obtain⟨k,k',i,j,h1,h2,h3,h4,h5,h6⟩:=h;refine hD hb hs hlt h0 ⟨rfl,by simp[aa]⟩ ?_ (h6 b hnb);simp only[aK,hu,hn,hby,hz,h1,h2,m6];simp only[Int.natCast_nonneg,if_true,WP];rw[if_pos ⟨hc.1,hc.2,h3,h4,h5⟩]
    ·exact h.elim
   ·exact h.elim
  ·exact h.elim
 |slice t x lo hi mx=>
  simp only[W0.op]at h;split at h
  ·exact h.elim
  ·rename_i hhm;split at h
   ·rename_i e hu;split at h
    ·rename_i n hn;obtain⟨len,l,hh,m,g1,g2,g3,g4,g5,g6,g7,g8⟩:=h;have key:∀v,kI P (mo H (ρ x)) t (ρ x) (lo.map ρ) (hi.map ρ) (mx.map ρ)=some v→K v L→M8 P F (.slice t x lo hi mx) ρ b L H K:=λv hv hk=>
      goes_val hb hs (by simp only[aK];rw[if_neg hhm,hv];rfl) hk
     split at g8
     ·rename_i hx;refine key _ ?_ g8;rw[hx]at g1;simp only[kI,hu,hx,g1,g2,g3,g4];rw[if_pos ⟨⟨g5,g6,g7⟩,by rw[hn];rfl⟩]
     ·rename_i c i q hx;obtain⟨⟨y,k1,k2⟩,k3⟩:=g8;refine key _ ?_ k3;have hg:=hs.get _ k1;simp only at hg;rw[hx]at g1;simp only[kI,hu,hx,g1,g2,g3,g4];rw[if_pos ⟨⟨g5,g6,g7⟩,by rw[hn];rfl⟩];simp only[mo,hg,Wb,k2];rw[if_pos ⟨rfl,hn⟩]
     ·rename_i rows hx;obtain⟨⟨k0,k2⟩,k3⟩:=g8;refine key _ ?_ k3;rw[hx]at g1;simp only[kI,hu,hx,g1,g2,g3,g4];rw[if_pos ⟨⟨g5,g6,g7⟩,by rw[hn];rfl⟩,if_neg (by rw[k0];simp)];cases rows with
      |nil=>simp
      |cons r rs=>simp only[hn,k2 r rfl,if_true]
     ·exact g8.elim
    ·exact h.elim
   ·rename_i hu;split at h
    ·rename_i hmx;obtain⟨s,l,hh,g1,g2,g3,g4,g5,g6⟩:=h;refine goes_val hb hs ?_ g6;have:mx=none:=by simpa using hmx
     subst this;simp only[aK];rw[if_neg hhm];simp only[kI,hu,g1,Option.map_none];rw[show cD (Option.map ρ lo) 0=some l from g2,show cD (Option.map ρ hi) s.length=some hh from g3];simp[g4,g5]
    ·exact h.elim
   ·exact h.elim
 |fieldAddr s x f=>
  simp only[W0.op]at h;split at h
  ·rename_i fs hu;split at h
   ·rename_i fl hf;split at h
    ·rename_i n hn;split at h
     ·exact h.elim
     ·rename_i hn0;unfold W0.faddr at h;split at h
      ·rename_i hx;exact goes_val hb hs (by simp[aK,i9,hu,hf,hn,hn0,hx]) h
      ·rename_i hx;exact goes_val hb hs (by simp[aK,i9,hu,hf,hn,hn0,hx]) h
      ·exact h.elim
    ·exact h.elim
   ·exact h.elim
  ·exact h.elim
 |field s x f=>
  simp only[W0.op]at h;split at h
  ·rename_i fs hu;split at h
   ·rename_i fl hf;split at h
    ·rename_i ag n hag hn;obtain⟨cs,v,g1,g2,g3⟩:=h;exact goes_val hb hs (by simp[aK,Gq,hu,hf,g1,we hag hn g2]) g3
    ·exact h.elim
   ·exact h.elim
  ·exact h.elim
 |indexAddr t x ix=>
  simp only[W0.op]at h;split at h
  ·rename_i e hu;split at h
   ·rename_i n hn;unfold W0.idxR at h;split at h
    ·rename_i c j m hx;obtain⟨k,i,y,g1,g2,g3,g4,g5,g6⟩:=h;have hg:=hs.get _ g4;simp only at hg;refine goes_val hb hs ?_ g6;have hneg:¬i<0:=by omega
     simp[aK,dI,hx,g1,hneg,hu,mo,hg,g3,g5,hn]
    ·rename_i rows hx;obtain⟨k,i,r,g1,g2,g3,g4,g5⟩:=h;refine goes_val hb hs ?_ g5;have hneg:¬i<0:=by omega
     simp[aK,dI,hx,g1,hneg,hu,g3,g4,hn]
    ·exact h.elim
   ·exact h.elim
  ·rename_i len e hu;split at h
   ·rename_i n hn;obtain⟨k,i,g1,g2,g3,g4⟩:=h;have hneg:¬i<0:=by omega
    split at g4
    ·rename_i hx;exact goes_val hb hs (by simp[aK,dI,hx,g1,hneg,hu,g3,hn]) g4
    ·rename_i hx;exact goes_val hb hs (by simp[aK,dI,hx,g1,hneg,hu,g3,hn]) g4
    ·exact g4.elim
   ·exact h.elim
  ·exact h.elim
 |index t x ix=>
  simp only[W0.op]at h;split at h
  ·rename_i hu;obtain⟨s,k,i,y,g1,g2,g3,g4,g5⟩:=h;have hneg:¬i<0:=by omega
   exact goes_val hb hs (by simp[aK,CN,hu,g1,g2,hneg,g4]) g5
  ·rename_i len e hu;split at h
   ·rename_i ag n hag hn;obtain⟨cs,k,i,v,g1,g2,g3,g4,g5,g6⟩:=h;refine goes_val hb hs ?_ g6;simp only[aK,CN,hu,g1,g2];rw[if_pos ⟨g3,g4⟩,hn];simp only[Wy,we hag hn g5];rfl
   ·exact h.elim
  ·exact h.elim
 |extract x i=>obtain⟨vs,v,g1,g2,g3⟩:=h;exact goes_val hb hs (by simp[aK,g1,g2]) g3
 |call c=>
  simp only[W0.op]at h;split at h
  ·rename_i hc;split at h
   ·rename_i x e ha ht;obtain⟨n,g1,g2⟩:=h;refine goes_val hb hs ?_ g2;cases hx:ρ x<;>rw[hx]at g1<;>first|(cases g1;done)|simp[aK,hc,ha,aS,hx,ht,g1]
   ·rename_i x ha ht;obtain⟨s,g1,g2⟩:=h;exact goes_val hb hs (by simp[aK,hc,ha,aS,g1,ht]) g2
   ·rename_i x n e ha ht;split at h
    ·exact h.elim
    ·rename_i hne;refine goes_val hb hs ?_ h;cases hx:ρ x<;>first|(exact absurd hx (hne _))|simp[aK,hc,ha,aS,hx,ht]
   ·exact h.elim
  ·rename_i hc;split at h
   ·rename_i s x t tx ha ht;split at h
    ·rename_i e e' hu hux;split at h
     ·rename_i n by_ z hn hby hz;split at h
      ·rename_i hcn;obtain⟨l,m,g1,g2,g3,g4,g5,g6⟩:=h;have r1:=Ie hs g1;have r2:=Ie hs g2;have key:∀v H',cO P H b t (ρ s) (ρ x)=some (v,H')→aK P F (.call c) ρ b H=some (.val v H'):=λv H' hv=>by simp only[aK,hc,ha,VM,Wv,aS,ht,hux,hv];rfl
       have hz':(ea P e).bind AV.cells? =some z:=hz;split at g6
       ·rename_i hx;by_cases hm:m.length=0
        ·exact goes_val hb hs (key _ _ (by rw[hx]at r1 ⊢;simp only[cO,hu,hn,hby,hz',r1,r2];rw[if_pos ⟨g3,g4,hcn.2,hcn.1,g5⟩,if_pos hm])) (g6.1 hm)
        ·exact hD hb hs hlt h0 ⟨by simp[W0.makes,hc],by simp[aa]⟩ (key _ _ (by rw[hx]at r1 ⊢;simp only[cO,hu,hn,hby,hz',r1,r2];rw[if_pos ⟨g3,g4,hcn.2,hcn.1,g5⟩,if_neg hm])) (g6.2 hm b hnb)
       ·rename_i hx;by_cases hm:m.length=0
        ·exact goes_val hb hs (key _ _ (by rw[hx]at r1 ⊢;simp only[cO,hu,hn,hby,hz',r1,r2];rw[if_pos ⟨g3,g4,hcn.2,hcn.1,g5⟩,if_pos hm])) (g6.1 hm)
        ·exact hD hb hs hlt h0 ⟨by simp[W0.makes,hc],by simp[aa]⟩ (key _ _ (by rw[hx]at r1 ⊢;simp only[cO,hu,hn,hby,hz',r1,r2];rw[if_pos ⟨g3,g4,hcn.2,hcn.1,g5⟩,if_neg hm])) (g6.2 hm b hnb)
       ·rename_i b' i' k' hx;obtain⟨y,L',k1,k2⟩:=g6;have f1:=nS.del (b:=b) hb hs k1;have hb':b≠b':=λe=>by have:=hs.get _ (k1.perm.mem_iff.2 List.mem_cons_self);rw[←e,h0]at this;cases this
        have f2:nS b L' (H.put b' none) ((b,⟨n,l++m⟩)::L') ((H.put b' none).new b ⟨n,l++m⟩):=.new f1.bd f1.sub hlt (by rw[ac.get_put,if_neg (λe=>hb' e.symm)];exact h0) _;exact .inl ⟨_,_,_,key _ _ (by rw[hx]at r1 ⊢;simp only[cO,hu,hn,hby,hz',r1,r2];rw[if_pos ⟨g3,g4,hcn.2,hcn.1,g5⟩]),f1.trans f2,λ_=>⟨by simp[W0.makes,hc],by simp[aa]⟩,k2 b hnb⟩
       ·exact g6.elim
      ·exact h.elim
     ·exact h.elim
    ·exact h.elim
   ·exact h.elim
  ·rename_i hc;split at h
   ·rename_i x y ha;obtain⟨k,a,d,g1,g2,g3⟩:=h;exact goes_val hb hs (by simp[aK,hc,ha,aS,g1,g2]) g3
   ·exact h.elim
  ·rename_i hc;split at h
   ·rename_i x y ha;obtain⟨k,a,d,g1,g2,g3⟩:=h;exact goes_val hb hs (by simp[aK,hc,ha,aS,g1,g2]) g3
   ·exact h.elim
  ·rename_i hc;split at h
   ·rename_i x t ha ht;split at h
    ·rename_i e hu;split at h
     ·rename_i n z hn hz;have hz':(ea P e).bind AV.cells? =some z:=hz;split at h
      ·rename_i hcn;have key:∀H',eT P H t (ρ x)=some H'→aK P F (.call c) ρ b H=some (.val (.tup []) H'):=λH' hv=>by simp only[aK,hc,ha,VM,Wv,aS,ht,hv];rfl
       unfold W0.clearR at h;split at h
       ·rename_i hx;exact goes_val hb hs (key _ (by rw[hx];simp only[eT,hu,hn,hz'])) h
       ·rename_i d i k hx;obtain⟨y,L',g1,g2,g3,g4⟩:=h;have hg:=hs.get _ g3.mem;simp only at hg;refine .inl ⟨_,_,L',key _ ?_,.put hb hs g3,λhm=>absurd (g3.names▸hm) hnb,g4⟩;rw[hx];simp only[eT,hu,hn,hz',hg];rw[if_pos ⟨⟨g1,hcn.1.1⟩,⟨hcn.1.2,g2⟩,hcn.2⟩]
       ·exact h.elim
      ·exact h.elim
     ·exact h.elim
    ·exact h.elim
   ·exact h.elim
  ·rename_i f hc;split at h
   ·rename_i g cs hf;exact .inr ⟨g,_,by simp[aK,hc,hf],h⟩
   ·exact h.elim
  ·exact h.elim
 |makeMap t r=>
  cases r with
  |none=>exact hD hb hs hlt h0 ⟨rfl,by simp[aa]⟩ rfl (h b hnb)
  |some r=>exact h.elim
 |lookup t m k ok=>
  simp only[W0.op]at h;split at h
  ·rename_i kt et hu;split at h
   ·rename_i z hk hz;unfold W0.lookR at h;split at h
    ·rename_i c s hm hks;obtain⟨x,g1,g2,g3⟩:=h;have hg:=hs.get _ g1;simp only at hg;refine goes_val hb hs ?_ g3;simp only[aK,j0,hu,hm,hks,hk,hz,hg];rw[if_pos g2];rfl
    ·exact h.elim
   ·exact h.elim
  ·exact h.elim
 |mapUpdate t m k x=>
  simp only[W0.op]at h;split at h
  ·rename_i kt et hu;split at h
   ·rename_i hk;unfold W0.mupR at h;split at h
    ·rename_i c s hm hks;obtain⟨y,L',g1,g2,g3,g4⟩:=h;have hg:=hs.get _ g3.mem;simp only at hg;refine .inl ⟨_,_,L',?_,.put hb hs g3,λhm=>absurd (g3.names▸hm) hnb,g4⟩;simp only[aK,eJ,hu,hm,hks,hk,hg];rw[if_pos ⟨g1,g2⟩];rfl
    ·exact h.elim
   ·exact h.elim
  ·exact h.elim
 |range t x=>
  simp only[W0.op]at h;split at h
  ·rename_i hu;obtain⟨s,hx,h1⟩:=h;exact hD hb hs hlt h0 ⟨rfl,by simp[aa]⟩ (by simp only[aK,hu,hx]) (h1 b hnb)
  ·exact h.elim
 |next it s=>
  cases s with
  |false=>exact h.elim
  |true=>
   simp only[W0.op]at h;unfold W0.nextR at h;split at h
   ·rename_i c hi;obtain⟨x,s,k,pos,g1,g2,g3⟩:=h;have hg:=hs.get _ g1;simp only at hg;split at g3
    ·rename_i hp;obtain⟨L',g4,g5⟩:=g3;refine .inl ⟨_,_,L',?_,.put hb hs g4,λhm=>absurd (g4.names▸hm) hnb,g5⟩;simp only[aK,iz,hi,hg,g2];rw[if_pos hp];rfl
    ·rename_i hp;refine goes_val hb hs ?_ g3;simp only[aK,iz,hi,hg,g2];rw[if_neg hp];rfl
   ·exact h.elim
 |_=>exact h.elim
end
end
end Go.Proofs.YtdnpdghlggbklaaGreatDoor.Am
