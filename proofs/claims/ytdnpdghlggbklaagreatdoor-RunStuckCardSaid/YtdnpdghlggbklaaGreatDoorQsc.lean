/- A part of the proof; the statement is proved in the last part. -/
import Derived.Test.YtdnpdghlggbklaaGreatDoorQsb
import Derived.LoopN
set_option linter.unusedSimpArgs false
set_option linter.unusedVariables false
namespace Go.Proofs.YtdnpdghlggbklaaGreatDoor.Am
section
def cv(w:World)(σ:bb)(T:Nat→Prop)(τ:List AV)(a:Act):Prop:=eh w σ T τ a.tmps.toList∧a.defers=[]
theorem cv.mono{w w':World}{σ σ':bb}{T T':Nat→Prop}(e:el w σ T w' σ' T'){τ:List AV}{a:Act}(h:cv w σ T τ a):cv w' σ' T' τ a:=⟨h.1.mono e,h.2⟩
section
variable {P:Program} {F:TypeId→Option (List TypeId)} {w:World} {σ:bb} {T:Nat→Prop}
theorem lx:aT w σ T bB undef:=.tup [] [] rfl Xu
theorem cv.eval{τ:List AV}{a:Act}(h:cv w σ T τ a)(hG:ij w T)(x:Operand):aT w σ T (jT τ x) (a.eval x):=by
 cases x with
 |tmp t=>
  simp only[jT,Act.eval];have hl:=h.1.1;simp only[V6]at hl;rcases VO t τ.length with ht|ht
  ·have e1:τ.getD t bB=τ[t]:=by simp[List.getD,ht]
   have ht':t<a.tmps.size:=hl▸ht;have e2:a.tmps.getD t undef=a.tmps[t]:=by simp[Array.getD,ht']
   rw[e1,e2];exact h.1.2 t _ _ (VK ht) (by rw[V9,Wc ht'])
  ·have e1:τ.getD t bB=bB:=by simp[List.getD,VP ht]
   have ht':¬t<a.tmps.size:=Nat.not_lt.2 (hl▸ht);have e2:a.tmps.getD t undef=undef:=by simp[Array.getD,ht']
   rw[e1,e2];exact lx
 |const v=>
  simp only[jT,Act.eval];cases hv:MX v with
  |none=>exact .junk _
  |some a=>exact HL hv
 |global g=>exact hG.rep g
 |func f=>exact .fn f [] [] rfl Xu
theorem cv.put{τ:List AV}{a:Act}(h:cv w σ T τ a)(dst:Option Tmp){v:AV}{v':Value}(hv:aT w σ T v v'):cv w σ T (fL τ dst v) (a.put dst v'):=by
 cases dst with
 |none=>exact h
 |some d=>
  refine⟨⟨by simpa[fL,Act.put]using h.1.1,λi x u h1 h2=>?_⟩,h.2⟩;simp only[fL,Act.put,Array.toList_setIfInBounds,Wn]at h1 h2;by_cases hd:d=i
  ·subst hd;simp only[if_true]at h1 h2;split at h1
   ·split at h2
    ·cases h1;cases h2;exact hv
    ·cases h2
   ·cases h1
  ·rw[if_neg hd]at h1 h2;exact h.1.2 i x u h1 h2
theorem iO{ops:Array Oper}{o:Oper}{τ:List AV}{a:Act}{t:Bool}(h:cv w σ T τ a)(hw:dt ops o τ=some t):Region.wanted o (yielded ops a.tmps)=t:=by
 unfold dt at hw;unfold Region.wanted;split at hw
 ·rename_i hg;cases hw;rw[hg]
 ·rename_i j want hg;rw[hg];simp only[];unfold yielded;split at hw
  ·rename_i d hd;rw[hd];simp only[Wy];have get:∀x,τ[d]? =some x→∃u,a.tmps[d]? =some u∧aT w σ T x u:=λx hx=>by have hl:=h.1.1;simp only[V6]at hl;have hlt:=aA hx;exact⟨a.tmps[d],Wc Xr,h.1.2 d x _ hx (by rw[V9,Wc Xr])⟩
   split at hw
   ·rename_i b hb;obtain⟨u,h1,h2⟩:=get _ hb;rw[h1];cases h2;cases hw;rfl
   ·rename_i hb;obtain⟨u,h1,h2⟩:=get _ hb;rw[h1];cases hw;cases h2 with
    |tup _ vs hl hr=>
    have:vs=[]:=by cases vs with
     |nil=>rfl
     |cons x l=>simp at hl
    subst this;rfl
   ·cases hw
  ·cases hw
end
def oU(P:Program)(f:FuncId)(args:List AV)(H:ac)(v:AV)(H':ac):Prop:=
 ∀(w:World) (σ:bb) (vs:List Value),aW w σ H→eh w σ (aH σ H) args vs→Calls P f vs.toArray w λe w'=>
  ∃v' σ',e=.returned v'∧aT w' σ' (aH σ' H') v v'∧aW w' σ' H'∧el w σ (aH σ H) w' σ' (aH σ' H')∧∀c pl,σ' c=some pl→σ c=some pl∨H.next≤c
structure ed(P:Program)(call:FuncId→List AV→ac→Option (AV×ac)):Prop where
 ok:∀f args H v H',call f args H=some (v,H')→oU P f args H v H'
 next:∀f args H v H',call f args H=some (v,H')→H.next≤H'.next
 body:∀f args H v H',call f args H=some (v,H')→∃fn c,P.funcs[f]? =some fn∧fn.body=some c
def rX(w:World)(σ:bb)(H:ac)(τ':List AV)(H':ac)(a':Act)(w':World):Prop:=
 ∃σ',cv w' σ' (aH σ' H') τ' a'∧aW w' σ' H'∧el w σ (aH σ H) w' σ' (aH σ' H')∧∀c pl,σ' c=some pl→σ c=some pl∨H.next≤c
section
variable {P:Program} {F:TypeId→Option (List TypeId)} {call:FuncId→List AV→ac→Option (AV×ac)} {ops:Array Oper} {base:Nat} {Q:Exit→Act→World→Prop}
theorem CT{o:Op}{ρ:Operand→AV}{b:Nat}{H H':ac}{v:AV}(h:aK P F o ρ b H=some (.val v H')):H'.next=H.next:=by
 cases o with
 |store t a x=>
  simp only[aK]at h;cases hs:fN P H t (ρ a) (ρ x)with
  |none=>rw[hs]at h;cases h
  |some K=>
   rw[hs]at h;cases h;unfold fN at hs
   repeat' (first|(cases hs;rfl)|(cases hs;done)|split at hs)
 |call c=>
  simp only[aK]at h;split at h
  ·rename_i bi _;cases hbi:aS P H b bi c.argTypes (c.args.toList.map ρ)with
   |none=>rw[hbi]at h;cases h
   |some r=>
    obtain⟨v0,K⟩:=r;rw[hbi]at h;cases h;unfold aS at hbi;split at hbi
    ·repeat' (first|(cases hbi;rfl)|(cases hbi;done)|split at hbi)
    ·split at hbi
     ·rw[Xe]at hbi;obtain⟨n,_,hn⟩:=hbi;cases hn;rfl
     ·cases hbi;rfl
     ·cases hbi
    ·split at hbi
     ·split at hbi
      ·unfold cO at hbi
       repeat' (first|(cases hbi;rfl)|(cases hbi;done)|split at hbi)
      ·cases hbi
     ·cases hbi
    ·repeat' (first|(cases hbi;rfl)|(cases hbi;done)|split at hbi)
    ·repeat' (first|(cases hbi;rfl)|(cases hbi;done)|split at hbi)
    ·split at hbi
     ·rw[Xe]at hbi;obtain⟨K1,hk,hn⟩:=hbi;cases hn;unfold eT at hk
      repeat' (first|(cases hk;rfl)|(cases hk;done)|split at hk)
     ·cases hbi
    ·cases hbi
  ·split at h<;>cases h
  ·cases h
 |makeFunc fn first cap=>cases fn<;>simp only[aK]at h<;>(try split at h)<;>cases h<;>rfl
 |makeMap t r=>
  cases r with
  |none=>simp only[aK]at h;cases h;rfl
  |some r=>simp[aK]at h
 |mapUpdate t m k x=>
  simp only[aK]at h;cases hs:eJ P H t (ρ m) (ρ k) (ρ x)with
  |none=>rw[hs]at h;cases h
  |some K=>rw[hs]at h;cases h;obtain⟨c,y,y',_,_,rfl,_⟩:=mu hs;rfl
 |next it s=>
  cases s with
  |false=>simp[aK]at h
  |true=>
   simp only[aK]at h;cases hs:iz H (ρ it)with
   |none=>rw[hs]at h;cases h
   |some r=>obtain⟨v0,K⟩:=r;rw[hs]at h;cases h;obtain⟨c,y,_,_,⟨rfl,_⟩|⟨y',rfl,_⟩⟩:=vR hs<;>rfl
 |buildSlice t len parts=>
  simp only[aK]at h;split at h
  ·split at h
   ·split at h
    ·rename_i n z _ _ _;cases hf:dQ n (List.replicate len z) (parts.toList.map λp=>(p.1,ρ p.2))with
     |none=>rw[hf]at h;cases h
     |some rows=>rw[hf]at h;cases h;rfl
    ·cases h
   ·cases h
  ·cases h
 |_=>
  simp only[aK]at h
  first
   |(obtain⟨_,rfl⟩:=fh h;rfl)
   |(repeat' (first|(cases h;rfl)|(cases h;done)|(obtain⟨_,rfl⟩:=fh h;rfl)|split at h))
theorem mv(hc:ed P call){i:Nat}{τ τ':List AV}{H H':ac}(h:j4 P F call ops base i τ H=some (τ',H')):H.next≤H'.next:=by
 unfold j4 at h;split at h
 ·cases h
 ·split at h
  ·split at h
   ·rename_i hop;cases h;rw[CT hop];exact VL _
   ·split at h
    ·rename_i hcall;cases h;exact hc.next _ _ _ _ _ hcall
    ·cases h
   ·cases h
  ·cases h;exact VL _
  ·cases h
theorem HW(fit:Fit P F)(hc:ed P call){i:Nat}{τ τ':List AV}{H H':ac}{w:World}{σ:bb}{a:Act}(h:j4 P F call ops base i τ H=some (τ',H'))(hW:aW w σ H)(hτ:cv w σ (aH σ H) τ a)
  (hb:σ (base+i)=none) (hlt:base+i<H.next) {K:Act→World→Prop}
  (hK:∀a' w' σ',cv w' σ' (aH σ' H') τ' a'→aW w' σ' H'→el w σ (aH σ H) w' σ' (aH σ' H')→(∀c pl,σ' c=some pl→σ c=some pl∨c=base+i∨H.next≤c)→K a' w'):wpOp P ops Q i K a w:=by
 unfold j4 at h;split at h
 ·cases h
 ·rename_i o ho;unfold wpOp;rw[ho];simp only[];split at h
  ·rename_i hwant;rw[if_pos (iO hτ hwant)];left;unfold Oper.wp;split at h
   ·rename_i v K' hop;cases h;obtain⟨v',w',σ',h1,h2,h3,h4,h5⟩:=FM fit hW hb hlt (o:=o) (hτ.eval hW.glob) hop;have hk:=hK (a.put o.dst v') w' σ' ((hτ.mono h4).put o.dst h2) h3 h4 (λc pl hcp=>by
     rcases h5 c pl hcp with h6|h6
     ·exact .inl h6
     ·exact .inr (.inl h6))
    rcases h1 with h1|⟨h1,rfl⟩
    ·rw[h1];exact hk
    ·rw[h1];exact hk
   ·rename_i f args hop;split at h
    ·rename_i v K' hcall;cases h;obtain⟨fn,c,hf,hbd⟩:=hc.body _ _ _ _ _ hcall;obtain⟨vs,h1,h2⟩:=HV fit (o:=o) (b:=base+i) (hτ.eval hW.glob) hop hf hbd;rw[h1];refine(hc.ok _ _ _ _ _ hcall w σ vs hW h2).mono ?_;rintro e w' ⟨v',σ',rfl,g1,g2,g3,g4⟩;exact hK (a.put o.dst v') w' σ' ((hτ.mono g3).put o.dst g1) g2 g3 (λc pl hcp=>by
      rcases g4 c pl hcp with h6|h6
      ·exact .inl h6
      ·exact .inr (.inr h6))
    ·cases h
   ·cases h
  ·rename_i hwant;rw[if_neg (by rw[iO hτ hwant];simp)];cases h;exact hK _ w σ (hτ.put o.dst lx) hW (el.refl _ _ _) (λc pl hcp=>.inl hcp)
  ·cases h
theorem FN(hc:ed P call):∀(l:List Nat) (τ:List AV) (H:ac) (τ':List AV) (H':ac),mq P F call ops base l τ H=some (τ',H')→H.next≤H'.next
 |[],τ,H,τ',H',h=>by cases h;exact VL _
 | i::l,τ,H,τ',H',h=>by
  unfold mq at h;split at h
  ·rename_i τ1 H1 hs;exact V2 (mv hc hs) (FN hc l _ _ _ _ h)
  ·cases h
theorem CU(fit:Fit P F)(hc:ed P call):∀(l:List Nat) (τ:List AV) (H:ac) (τ':List AV) (H':ac),mq P F call ops base l τ H=some (τ',H')→l.Nodup→∀(w:World) (σ:bb) (a:Act),
  aW w σ H→cv w σ (aH σ H) τ a→(∀i∈l,σ (base+i)=none∧base+i<H.next)→(∀a' w' σ',cv w' σ' (aH σ' H') τ' a'→aW w' σ' H'→el w σ (aH σ H) w' σ' (aH σ' H')→
   (∀c pl,σ' c=some pl→σ c=some pl∨(∃i∈l,c=base+i)∨H.next≤c)→Q .normal a' w')→wpOps P ops Q l a w
 | [],τ,H,τ',H',h,_,w,σ,a,hW,hτ,_,hQ=>by cases h;exact hQ a w σ hτ hW (el.refl _ _ _) (λc pl hcp=>.inl hcp)
 | i::l,τ,H,τ',H',h,hnd,w,σ,a,hW,hτ,hfr,hQ=>by
  unfold mq at h;split at h
  ·rename_i τ1 H1 hs;rw[wpOps_cons];refine HW fit hc hs hW hτ (hfr i Xu).1 (hfr i Xu).2 λa1 w1 σ1 t1 r1 e1 n1=>?_
   have hnd':=VW.1 hnd;refine CU fit hc l τ1 H1 τ' H' h hnd'.2 w1 σ1 a1 r1 t1 (λj hj=>?_) (λa' w' σ' t2 r2 e2 n2=>hQ a' w' σ' t2 r2 (e1.trans e2) (λc pl hcp=>?_))
   ·have hji:j≠i:=by rintro rfl;exact hnd'.1 hj
    have hj0:=hfr j (by simp[hj]);refine⟨?_,V7 hj0.2 (mv hc hs)⟩;cases hs1:σ1 (base+j)with
    |none=>rfl
    |some pl=>
     rcases n1 _ pl hs1 with h1|h1|h1
     ·rw[hj0.1]at h1;cases h1
     ·omega
     ·omega
   ·rcases n2 c pl hcp with h1|⟨q,hq,rfl⟩|h1
    ·rcases n1 c pl h1 with h2|h2|h2
     ·exact .inl h2
     ·exact .inr (.inl ⟨i,Xu,h2⟩)
     ·exact .inr (.inr h2)
    ·exact .inr (.inl ⟨q,by simp[hq],rfl⟩)
    ·exact .inr (.inr (V2 (mv hc hs) h1))
  ·cases h
def HX:Ex→Exit
 |.normal=>.normal
 |.exit id=>.exit id
 |.ret=>.ret
def cF(P:Program)(c:Code)(τ:List AV)(H:ac)(e:Ex)(τ':List AV)(H':ac):Prop:=
 H.next≤H'.next∧∀(w:World) (σ:bb) (a:Act),aW w σ H→cv w σ (aH σ H) τ a→∀Q:Exit→Act→World→Prop,(∀a' w',rX w σ H τ' H' a' w'→Q (HX e) a' w')→c.wp P Q a w
theorem rX.refl{w:World}{σ:bb}{H:ac}{τ:List AV}{a:Act}(hW:aW w σ H)(hτ:cv w σ (aH σ H) τ a):rX w σ H τ H a w:=⟨σ,hτ,hW,el.refl _ _ _,λc pl h=>.inl h⟩
theorem fP(fit:Fit P F)(hc:ed P call){τ:List AV}{H:ac}{τ':List AV}{H':ac}{id:Nat}(h:du P F call ops false τ H=some (τ',H')):cF P (.region id ops false) τ H .normal τ' H':=by
 simp only[du,Wd,if_false]at h;refine⟨V2 (Wk _ _) (FN hc _ _ _ _ _ h),λw σ a hW hτ Q hQ=>?_⟩;have hW1:aW w σ {H with next:=H.next+ops.size}:=hW.congr (λ_=>rfl) (Wk _ _);have ho:aH σ {H with next:=H.next+ops.size}=aH σ H:=aH.congr λ_=>rfl
 refine wp_region (CU fit hc _ τ _ τ' H' h List.nodup_range w σ a hW1 (by rw[ho];exact hτ) (λi hi=>?_) (λa' w' σ' t r e n=>hQ a' w' ⟨σ',t,r,by rw[ho]at e;exact e,λc pl hcp=>?_⟩))
 ·rw[WI]at hi;refine⟨?_,Nat.add_lt_add_left hi _⟩;cases hs:σ (H.next+i)with
  |none=>rfl
  |some pl=>have:=hW.named _ pl hs;omega
 ·rcases n c pl hcp with h1|⟨i,_,rfl⟩|h1
  ·exact .inl h1
  ·exact .inr (Wk _ _)
  ·exact .inr (V2 (Wk _ _) h1)
theorem rX.trans{w w1 w2:World}{σ σ1:bb}{H H1 H2:ac}{τ2:List AV}{a2:Act}(e:el w σ (aH σ H) w1 σ1 (aH σ1 H1))(n:∀c pl,σ1 c=some pl→σ c=some pl∨H.next≤c)(hn:H.next≤H1.next)(h:rX w1 σ1 H1 τ2 H2 a2 w2):rX w σ H τ2 H2 a2 w2:=by
 obtain⟨σ2,t,r,e2,n2⟩:=h;refine⟨σ2,t,r,e.trans e2,λc pl hc=>?_⟩;rcases n2 c pl hc with h1|h1
 ·exact n c pl h1
 ·exact .inr (V2 hn h1)
def ly(tmps:Array Value):ResultVar→Sem Value
 |.tmp t=>Pure.pure (tmps.getD t undef)
 |.cell a t=>do loadVar t (←asAddr (tmps.getD a undef))
theorem JN(fn:Func)(tmps:Array Value):results fn tmps=(do let vs←fn.results.mapM (ly tmps);Pure.pure (if h:vs.size=1 then vs[0]else .tuple vs)):=by unfold results;congr 2
theorem Gu{w:World}{σ:bb}{H:ac}(hW:aW w σ H){τ:List AV}{a:Act}(hτ:cv w σ (aH σ H) τ a)(r:ResultVar){v:AV}(h:j5 P τ H r=some v):
  ∃v',(ly a.tmps r).run P w=.ok v' w∧aT w σ (aH σ H) v v':=by
 cases r with
 |tmp t=>cases h;exact⟨_,rfl,hτ.eval hW.glob (.tmp t)⟩
 |cell x t=>
  simp only[j5]at h;have hx:=hτ.eval hW.glob (.tmp x);simp only[jT,Act.eval]at hx;obtain⟨v',h1,h2⟩:=CO hW hx h;refine⟨v',?_,h2⟩;unfold m5 at h;split at h
  ·rename_i heq;rw[heq]at hx;simp only[ly];generalize a.tmps.getD x undef=u at hx h1;cases hx;simpa[Instr.loadAt,Instr.sureAddr,asAddr]using h1
  ·rename_i heq;rw[heq]at hx;simp only[ly];generalize a.tmps.getD x undef=u at hx h1;cases hx;simpa[Instr.loadAt,Instr.sureAddr,asAddr]using h1
  ·cases h
theorem resultList{w:World}{σ:bb}{H:ac}(hW:aW w σ H){τ:List AV}{a:Act}(hτ:cv w σ (aH σ H) τ a):∀(rs:List ResultVar) (vs:List AV),cg (rs.map (j5 P τ H))=some vs→
  ∃us:List Value,(rs.mapM (ly a.tmps)).run P w=.ok us w∧eh w σ (aH σ H) vs us
 |[],vs,h=>by cases h;exact⟨[],rfl,rfl,Xu⟩
 | r::rs,vs,h=>by
  simp only[VM]at h;cases hr:j5 P τ H r with
  |none=>rw[hr]at h;cases h
  |some v=>
   rw[hr]at h;simp only[cg]at h;split at h
   ·rename_i l hl;cases h;obtain⟨v',h1,h2⟩:=Gu hW hτ r hr;obtain⟨us,h3,h4⟩:=resultList hW hτ rs l hl;refine⟨v'::us,?_,by simp[h4.1],λi x u g1 g2=>?_⟩
    ·rw[List.mapM_cons];simp only[Wh,h1,VX,h3,Wu]
    ·match i with
     |0=>cases g1;cases g2;exact h2
     |i+1=>exact h4.2 i x u (by simpa using g1) (by simpa using g2)
   ·cases h
theorem rY{w:World}{σ:bb}{H:ac}(hW:aW w σ H){τ:List AV}{a:Act}(hτ:cv w σ (aH σ H) τ a){fn:Func}{v:AV}(h:lr P τ H fn.results.toList=some v):
  ∃v',(results fn a.tmps).run P w=.ok v' w∧aT w σ (aH σ H) v v':=by
 unfold lr at h;rw[JN,Array.mapM_eq_mapM_toList];split at h
 ·rename_i v0 hv;cases h;obtain⟨us,h1,h2⟩:=resultList hW hτ _ _ hv;have hl:=h2.1
  match us,hl with
  |[u],_=>exact⟨u,by simp[h1],h2.2 0 _ u rfl rfl⟩
 ·rename_i vs hne hv;cases h;obtain⟨us,h1,h2⟩:=resultList hW hτ _ _ hv;have hl:us.length≠1:=by
   rw[←h2.1];intro h
   match vs,h with
   |[x],_=>exact hne x rfl
  exact⟨.tuple us.toArray,by simp[h1,hl],.tup _ _ h2.1 h2.2⟩
 ·cases h
theorem vS{ex:Code→List AV→ac→Option (Ex×List AV×ac)}{Good:Code→Prop}(hgood:∀(g:Nat) (fn:Func) (c:Code),P.funcs[g]? =some fn→fn.body=some c→Good c)
  (h:∀c τ H e τ' H',Good c→ex c τ H=some (e,τ',H')→cF P c τ H e τ' H'):ed P (oP P ex):=by
 have key:∀f args H v H',oP P ex f args H=some (v,H')→∃fn c e τ' K,P.funcs[f]? =some fn∧fn.body=some c∧ex c (args++List.replicate (fn.ntmps-args.length) bB) {H with log:=[]}=some (e,τ',K)∧
   (e=.normal∨e=.ret)∧lr P τ' K fn.results.toList=some v∧H'.next=K.next∧∀b,H'.get b=K.get b:=by
  intro f args H v H' hc;unfold oP at hc;split at hc
  ·rename_i fn hf;split at hc
   ·rename_i c hb;split at hc
    ·cases hc
    ·rename_i e τ' K hne hex;split at hc
     ·rename_i v0 hr;cases hc;refine⟨fn,c,e,τ',K,hf,hb,hex,?_,hr,rfl,λ_=>rfl⟩;cases e with
      |normal=>exact .inl rfl
      |ret=>exact .inr rfl
      |exit id=>exact absurd rfl (hne id)
     ·cases hc
    ·cases hc
   ·cases hc
  ·cases hc
 refine⟨λf args H v H' hc=>?_,λf args H v H' hc=>?_,λf args H v H' hc=>?_⟩
 ·obtain⟨fn,c,e,τ',K,hf,hb,hex,he,hr,hn,hg⟩:=key f args H v H' hc;obtain⟨n1,k1⟩:=h _ _ _ _ _ _ (hgood _ _ _ hf hb) hex;intro w σ vs hW hvs;have ho:aH σ {H with log:=[]}=aH σ H:=aH.congr λ_=>rfl
  refine calls_of_wp hf hb (k1 w σ _ (hW.congr (λ_=>rfl) (VL _)) ⟨?_,rfl⟩ _ λa' w' haf=>?_)
  ·rw[ho];refine⟨by simp[hvs.1],λi x u h1 h2=>?_⟩;simp only[Array.toList_append,Array.toList_replicate]at h2;rcases VO i args.length with hi|hi
   ·rw[V1 hi]at h1;rw[V1 (by rw[←hvs.1];exact hi)]at h2;exact hvs.2 i x u h1 h2
   ·rw[VS hi,W1]at h1;rw[VS (by rw[←hvs.1];exact hi),W1]at h2;split at h1
    ·split at h2
     ·cases h1;cases h2;exact lx
     ·cases h2
    ·cases h1
  ·obtain⟨σ',t1,r1,e1,m1⟩:=haf;obtain⟨v',g1,g2⟩:=rY (P:=P) r1 t1 hr;have hoK:aH σ' H'=aH σ' K:=aH.congr hg;have hpost:a'.defers=[]∧∃v,(results fn a'.tmps).run P w'=.ok v w'∧∃v' σ',Ending.returned v=.returned v'∧aT w' σ' (aH σ' H') _ v'∧aW w' σ' H'∧el w σ (aH σ H) w' σ' (aH σ' H')∧∀c pl,σ' c=some pl→σ c=some pl∨H.next≤c:=
    ⟨t1.2,v',g1,v',σ',rfl,by rw[hoK];exact g2,r1.congr hg (by rw[hn];exact VL _),by rw[hoK];rw[ho]at e1;exact e1,m1⟩
   rcases he with rfl|rfl
   ·exact hpost
   ·exact hpost
 ·obtain⟨fn,c,e,τ',K,hf,hb,hex,he,hr,hn,hg⟩:=key f args H v H' hc;rw[hn];exact(h _ _ _ _ _ _ (hgood _ _ _ hf hb) hex).1
 ·obtain⟨fn,c,e,τ',K,hf,hb,_⟩:=key f args H v H' hc;exact⟨fn,c,hf,hb⟩
end
end
section
def Bd(H:ac):Prop:=∀b,H.next≤b→H.get b=none
structure A4(H H':ac):Prop where
 next:H.next≤H'.next
 dom:∀b,b<H.next→H.get b=none→H'.get b=none
 keep:∀b,b<H.next→b∉H'.log→H'.get b=H.get b
 log:∀b,b∈H.log→b∈H'.log
 bd:Bd H→Bd H'
theorem A4.refl(H:ac):A4 H H:=⟨VL _,λ_ _ h=>h,λ_ _ _=>rfl,λ_ h=>h,λh=>h⟩
theorem A4.trans{H H' H'':ac}(h:A4 H H')(k:A4 H' H''):A4 H H'':=
  ⟨V2 h.next k.next,λb hb h0=>k.dom b (V7 hb h.next) (h.dom b hb h0),
   λb hb hl=>(k.keep b (V7 hb h.next) hl).trans (h.keep b hb (λh1=>hl (k.log b h1))),λb hb=>k.log b (h.log b hb),λhb=>k.bd (h.bd hb)⟩
section
variable {P:Program} {F:TypeId→Option (List TypeId)}
structure CV(o:Op)(ρ:Operand→AV)(b:Nat)(H H':ac):Prop where
 next:H'.next=H.next
 keep:∀c,c≠b→c∉aC o ρ→H'.get c=H.get c
 keepL:∀c,c≠b→c∉H'.log→H'.get c=H.get c
 dom:∀c,c≠b→H.get c=none→H'.get c=none
 log:∀c,c∈H.log→c∈H'.log
theorem CV.same(o:Op)(ρ:Operand→AV)(b:Nat)(H:ac):CV o ρ b H H:=⟨rfl,λ_ _ _=>rfl,λ_ _ _=>rfl,λ_ _ h=>h,λ_ h=>h⟩
theorem CV.new(o:Op)(ρ:Operand→AV)(b:Nat)(H:ac)(x:Blk):CV o ρ b H (H.new b x):=
 ⟨rfl,λc hc _=>by rw[ac.get_new,if_neg (λe=>hc e.symm)],λc hc _=>by rw[ac.get_new,if_neg (λe=>hc e.symm)],λc hc h=>by rw[ac.get_new,if_neg (λe=>hc e.symm)];exact h,λ_ h=>h⟩
theorem CV.put{o:Op}{ρ:Operand→AV}{b c:Nat}{H:ac}{y:Blk}(y':Blk)(hy:H.get c=some y)(hw:c∈aC o ρ):CV o ρ b H (H.put c (some y')):=by
 refine⟨rfl,λd hd hn=>?_,λd hd hl=>?_,λd hd h0=>?_,λd hl=>WL _ hl⟩
 ·rw[ac.get_put,if_neg (by rintro rfl;exact hn hw)]
 ·rw[ac.get_put,if_neg (by rintro rfl;exact hl (by simp[ac.put]))]
 ·rw[ac.get_put];split
  ·rename_i e;subst e;rw[hy]at h0;cases h0
  ·exact h0
theorem Gv{o:Op}{ρ:Operand→AV}{b:Nat}{H H':ac}{v:AV}(h:aK P F o ρ b H=some (.val v H')):CV o ρ b H H':=by
 cases o with
 |store t a x=>
  simp only[aK]at h;cases hs:fN P H t (ρ a) (ρ x)with
  |none=>rw[hs]at h;cases h
  |some K=>
   rw[hs]at h;cases h;unfold fN at hs;split at hs
   ·rename_i c i off cs n ha hcs hn;split at hs
    ·rename_i y hy;split at hs
     ·rename_i r hr;split at hs
      ·cases hs;have hw:aC (.store t a x) ρ=[c]:=by simp[aC,ha,aa]
       refine⟨rfl,λd hd hn=>?_,λd hd hl=>?_,λd hd h0=>?_,λd hl=>WL _ hl⟩
       ·rw[ac.get_put,if_neg (by rintro rfl;exact hn (by rw[hw];simp))]
       ·rw[ac.get_put,if_neg (by rintro rfl;exact hl (by simp[ac.put]))]
       ·rw[ac.get_put];split
        ·rename_i e;subst e;rw[hy]at h0;cases h0
        ·exact h0
      ·cases hs
     ·cases hs
    ·cases hs
   ·cases hs
 |call c=>
  simp only[aK]at h;split at h
  ·rename_i bi hcal;cases hbi:aS P H b bi c.argTypes (c.args.toList.map ρ)with
   |none=>rw[hbi]at h;cases h
   |some r=>
    obtain⟨v0,K⟩:=r;rw[hbi]at h;cases h;unfold aS at hbi;split at hbi
    ·split at hbi
     ·cases hbi;exact .same _ _ _ _
     ·cases hbi
    ·split at hbi
     ·rw[Xe]at hbi;obtain⟨n,_,hn⟩:=hbi;cases hn;exact .same _ _ _ _
     ·cases hbi;exact .same _ _ _ _
     ·cases hbi
    ·rename_i s x heq;split at hbi
     ·split at hbi
      ·obtain⟨a0,a1,hargs,h0,h1⟩:=qg heq;unfold cO at hbi;split at hbi
       ·split at hbi
        ·split at hbi
         ·rename_i l m hl hm;split at hbi
          ·split at hbi
           ·split at hbi
            ·cases hbi;exact .same _ _ _ _
            ·cases hbi;exact .new _ _ _ _ _
           ·split at hbi
            ·cases hbi;exact .same _ _ _ _
            ·cases hbi;exact .new _ _ _ _ _
           ·rename_i b' i k;cases hbi;have hw:aC (.call c) ρ=[b']:=by simp[aC,hcal,hargs,h0,aa]
            refine⟨rfl,λd hd hn=>?_,λd hd hl=>?_,λd hd h0=>?_,λd hl=>WL _ hl⟩
            ·rw[ac.get_new,if_neg (λe=>hd e.symm),ac.get_put,if_neg (by rintro rfl;exact hn (by rw[hw];simp))]
            ·rw[ac.get_new,if_neg (λe=>hd e.symm),ac.get_put,if_neg (by rintro rfl;exact hl (by simp[ac.put,ac.new]))]
            ·rw[ac.get_new,if_neg (λe=>hd e.symm),ac.get_put];split
             ·rfl
             ·exact h0
           ·cases hbi
          ·cases hbi
         ·cases hbi
        ·cases hbi
       ·cases hbi
      ·cases hbi
     ·cases hbi
    ·split at hbi
     ·cases hbi;exact .same _ _ _ _
     ·cases hbi
    ·split at hbi
     ·cases hbi;exact .same _ _ _ _
     ·cases hbi
    ·rename_i x heq;split at hbi
     ·rename_i t htt;cases hcl:eT P H t x with
      |none=>rw[hcl]at hbi;cases hbi
      |some K1=>
       rw[hcl]at hbi;cases hbi;obtain⟨a0,hargs,h0⟩:=qf heq;unfold eT at hcl;split at hcl
       ·split at hcl
        ·split at hcl
         ·cases hcl;exact .same _ _ _ _
         ·rename_i d i k;split at hcl
          ·rename_i y hy;split at hcl
           ·cases hcl;have hw:aC (.call c) ρ=[d]:=by simp[aC,hcal,hargs,h0,aa]
            refine⟨rfl,λd' hd hn=>?_,λd' hd hl=>?_,λd' hd h0=>?_,λd' hl=>WL _ hl⟩
            ·rw[ac.get_put,if_neg (by rintro rfl;exact hn (by rw[hw];simp))]
            ·rw[ac.get_put,if_neg (by rintro rfl;exact hl (by simp[ac.put]))]
            ·rw[ac.get_put];split
             ·rename_i e;subst e;rw[hy]at h0;cases h0
             ·exact h0
           ·cases hcl
          ·cases hcl
         ·cases hcl
        ·cases hcl
       ·cases hcl
     ·cases hbi
    ·cases hbi
  ·split at h<;>cases h
  ·cases h
 |makeFunc fn first cap=>cases fn<;>simp only[aK]at h<;>(try split at h)<;>cases h<;>exact .same _ _ _ _
 |makeMap t r=>
  cases r with
  |none=>simp only[aK]at h;cases h;exact .new _ _ _ _ _
  |some r=>simp[aK]at h
 |mapUpdate t m k x=>
  simp only[aK]at h;cases hs:eJ P H t (ρ m) (ρ k) (ρ x)with
  |none=>rw[hs]at h;cases h
  |some K=>rw[hs]at h;cases h;obtain⟨c,y,y',hm,hy,rfl,_⟩:=mu hs;exact .put _ hy (by simp[aC,hm,aa])
 |next it s=>
  cases s with
  |false=>simp[aK]at h
  |true=>
   simp only[aK]at h;cases hs:iz H (ρ it)with
   |none=>rw[hs]at h;cases h
   |some r=>
    obtain⟨v0,K⟩:=r;rw[hs]at h;cases h;obtain⟨c,y,hm,hy,⟨rfl,_⟩|⟨y',rfl,_⟩⟩:=vR hs
    ·exact .same _ _ _ _
    ·exact .put _ hy (by simp[aC,hm,aa])
 |buildSlice t len parts=>
  simp only[aK]at h;split at h
  ·split at h
   ·split at h
    ·rename_i n z _ _ _;cases hf:dQ n (List.replicate len z) (parts.toList.map λp=>(p.1,ρ p.2))with
     |none=>rw[hf]at h;cases h
     |some rows=>rw[hf]at h;cases h;exact .new _ _ _ _ _
    ·cases h
   ·cases h
  ·cases h
 |_=>
  simp only[aK]at h
  first
   |(obtain⟨_,rfl⟩:=fh h;exact .same _ _ _ _)
   |(repeat' (first|(cases h;exact .same _ _ _ _)|(cases h;exact .new _ _ _ _ _)|(cases h;done)|(obtain⟨_,rfl⟩:=fh h;exact .same _ _ _ _)|split at h))
theorem fE(base mask:Nat):∀(k:Nat) (H:ac),(dh base mask k H).next=H.next∧(dh base mask k H).log=H.log
 |0,H=>⟨rfl,rfl⟩
 | k+1,H=>by
  unfold dh;split
  ·exact fE base mask k H
  ·exact fE base mask k _
theorem gZ(base mask:Nat):∀(k:Nat) (H:ac) (c:Nat),(dh base mask k H).get c=if(∃j,j<k∧mask.testBit j=false∧c=base+j)then none else H.get c
 |0,H,c=>by simp[dh]
 | k+1,H,c=>by
  unfold dh;rw[gZ base mask k];by_cases h1:∃j,j<k∧mask.testBit j=false∧c=base+j
  ·obtain⟨j,hj⟩:=h1;rw[if_pos ⟨j,hj⟩,if_pos ⟨j,Xr,hj.2⟩]
  ·rw[if_neg h1];by_cases hm:mask.testBit k=true
   ·rw[if_pos hm,if_neg];rintro⟨j,hj,hb,hc⟩;by_cases hjk:j=k
    ·subst hjk;rw[hm]at hb;cases hb
    ·exact h1 ⟨j,Xr,hb,hc⟩
   ·rw[if_neg hm];show(H.tr.set (base+k) none).get c=_;rw[Tr.get_set];by_cases hc:base+k=c
    ·rw[if_pos hc,if_pos ⟨k,Xr,by simpa using hm,hc.symm⟩]
    ·rw[if_neg hc,if_neg]
     ·rfl
     rintro⟨j,hj,hb,hc'⟩;by_cases hjk:j=k
     ·subst hjk;exact hc hc'.symm
     ·exact h1 ⟨j,Xr,hb,hc'⟩
theorem gF(base mask:Nat)(H:ac):∀(k:Nat) (K:ac),(iA base mask H k K).next=K.next∧(iA base mask H k K).log=K.log
 |0,K=>⟨rfl,rfl⟩
 | k+1,K=>by
  unfold iA;split
  ·exact gF base mask H k K
  ·exact gF base mask H k _
theorem lz(base mask:Nat)(H:ac):∀(k:Nat) (K:ac) (c:Nat),(iA base mask H k K).get c=if(∃j,j<k∧mask.testBit j=false∧c=base+j)then H.get c else K.get c
 |0,K,c=>by simp[iA]
 | k+1,K,c=>by
  unfold iA;rw[lz base mask H k];by_cases h1:∃j,j<k∧mask.testBit j=false∧c=base+j
  ·obtain⟨j,hj⟩:=h1;rw[if_pos ⟨j,hj⟩,if_pos ⟨j,Xr,hj.2⟩]
  ·rw[if_neg h1];by_cases hm:mask.testBit k=true
   ·rw[if_pos hm,if_neg];rintro⟨j,hj,hb,hc⟩;by_cases hjk:j=k
    ·subst hjk;rw[hm]at hb;cases hb
    ·exact h1 ⟨j,Xr,hb,hc⟩
   ·rw[if_neg hm];show(K.tr.set (base+k) (H.tr.get (base+k))).get c=_;rw[Tr.get_set];by_cases hc:base+k=c
    ·rw[if_pos hc,if_pos ⟨k,Xr,by simpa using hm,hc.symm⟩,←hc];rfl
    ·rw[if_neg hc,if_neg]
     ·rfl
     rintro⟨j,hj,hb,hc'⟩;by_cases hjk:j=k
     ·subst hjk;exact hc hc'.symm
     ·exact h1 ⟨j,Xr,hb,hc'⟩
structure QJ(B:Nat)(W:Nat→Prop)(H H':ac):Prop where
 next:H.next≤H'.next
 dom:∀b,b<B→H.get b=none→H'.get b=none
 keep:∀b,b<B→¬W b→H'.get b=H.get b
 bd:Bd H→Bd H'
theorem QJ.refl(B:Nat)(W:Nat→Prop)(H:ac):QJ B W H H:=⟨VL _,λ_ _ h=>h,λ_ _ _=>rfl,λh=>h⟩
theorem QJ.trans{B:Nat}{W W':Nat→Prop}{H H' H'':ac}(h:QJ B W H H')(k:QJ B W' H' H'')(hW:∀b,W b→W' b):QJ B W' H H'':=
 ⟨V2 h.next k.next,λb hb h0=>k.dom b hb (h.dom b hb h0),λb hb hn=>(k.keep b hb hn).trans (h.keep b hb (λhw=>hn (hW b hw))),λhb=>k.bd (h.bd hb)⟩
variable {call:FuncId→List AV→ac→Option (AV×ac)} {ops:Array Oper} {base:Nat}
theorem M2{o:Op}{ρ:Operand→AV}{b:Nat}{H H':ac}{v:AV}(h:aK P F o ρ b H=some (.val v H'))(hb:b<H.next)(h0:Bd H):Bd H':=by have hc:=Gv h;intro c hcn;rw[hc.next]at hcn;exact hc.dom c Xr (h0 c hcn)
theorem LS(hc:∀f args H v H',Bd H→call f args H=some (v,H')→A4 H H'){B i:Nat}{τ τ':List AV}{H H':ac}(hbd:Bd H)(hB:B≤base)(hlt:base+i<H.next)(h:j4 P F call ops base i τ H=some (τ',H')):QJ B (·∈H'.log) H H'∧∀c,c∈H.log→c∈H'.log:=by
 unfold j4 at h;split at h
 ·cases h
 ·split at h
  ·split at h
   ·rename_i hop;cases h;have hcg:=Gv hop;exact⟨⟨by rw[hcg.next];exact VL _,λc hcb h0=>hcg.dom c Xr h0,λc hcb hn=>hcg.keepL c Xr hn,M2 hop hlt⟩,hcg.log⟩
   ·split at h
    ·rename_i hcall;cases h;have hcg:=hc _ _ _ _ _ hbd hcall;exact⟨⟨hcg.next,λc hcb h0=>hcg.dom c Xr h0,λc hcb hn=>hcg.keep c Xr hn,hcg.bd⟩,hcg.log⟩
    ·cases h
   ·cases h
  ·cases h;exact⟨.refl _ _ _,λ_ h=>h⟩
  ·cases h
theorem HY(hc:∀f args H v H',Bd H→call f args H=some (v,H')→A4 H H'){B:Nat}(hB:B≤base):∀(l:List Nat) (τ τ':List AV) (H H':ac),Bd H→(∀i∈l,base+i<H.next)→mq P F call ops base l τ H=some (τ',H')→
  QJ B (·∈H'.log) H H'∧∀c,c∈H.log→c∈H'.log
 |[],τ,τ',H,H',_,_,h=>by cases h;exact⟨.refl _ _ _,λ_ h=>h⟩
 | i::l,τ,τ',H,H',hbd,hl,h=>by
  unfold mq at h;split at h
  ·rename_i τ1 H1 hs;obtain⟨h1,l1⟩:=LS hc hbd hB (hl i Xu) hs;obtain⟨h2,l2⟩:=HY hc hB l _ _ _ _ (h1.bd hbd) (λj hj=>V7 (hl j (by simp[hj])) h1.next) h;exact⟨h1.trans h2 l2,λc hcl=>l2 c (l1 c hcl)⟩
  ·cases h
def touched(r:Option rU)(c:Nat):Prop:=∃x,r=some x∧(c∈x.writes∨c∈x.made∨(x.isCall=true∧x.lo≤c∧c<x.hi))
structure QK(base i:Nat)(H H':ac)(r:Option rU):Prop where
 next:H.next≤H'.next
 log:H'.log=H.log
 keep:Bd H→∀c,¬touched r c→H'.get c=H.get c
 dom:∀c,c<H.next→c≠base+i→H.get c=none→H'.get c=none
 bd:Bd H→Bd H'
 made:∀x,r=some x→(∀c∈x.made,c=base+i)∧(x.isCall=true→x.lo=H.next)
theorem iP(hc:∀f args H v H',Bd H→call f args H=some (v,H')→A4 H H'){i mask:Nat}{τ τ':List AV}{H H':ac}{r:Option rU}(hbd:Bd H)(hlt:base+i<H.next)(h:bu P F call ops base i mask τ H=some (τ',H',r)):QK base i H H' r:=by
 unfold bu at h;split at h
 ·cases h
 ·rename_i o ho;split at h
  ·split at h
   ·rename_i v K hop;cases h;have hcg:=Gv hop;refine⟨by show H.next≤K.next;rw[hcg.next];exact VL _,rfl,λ_ c hn=>?_,λc _ hcb h0=>hcg.dom c hcb h0,λh0 c hcn=>M2 hop hlt h0 c hcn,λx hx=>?_⟩
    ·refine hcg.keep c (λe=>hn ⟨_,rfl,.inr (.inl (by simp[e]))⟩) (λhw=>hn ⟨_,rfl,.inl hw⟩)
    ·cases hx;exact⟨Xu,Xu⟩
   ·rename_i f args hop;split at h
    ·rename_i v K hcall;cases h;have hn1:(dh base mask i H).next=H.next:=(fE base mask i H).1
     have hbd1:Bd ({dh base mask i H with log:=[]}:ac):=λd hd=>by
      show(dh base mask i H).get d=none;rw[gZ];split
      ·rfl
      ·exact hbd d (by simp only[hn1]at hd;exact hd)
     have hcg:=hc _ _ _ _ _ hbd1 hcall;have hn2:=hcg.next;simp only[hn1]at hn2;refine⟨by show H.next≤(iA base mask H i K).next;rw[(gF base mask H i K).1];exact hn2,rfl,λh0 c hn=>?_,λc hcn hcb h0=>?_,λh0 c hcn=>?_,λx hx=>?_⟩
     ·show(iA base mask H i K).get c=H.get c;rw[lz];split
      ·rfl
      ·rename_i hh;have hg:({dh base mask i H with log:=[]}:ac).get c=H.get c:=by show(dh base mask i H).get c=_;rw[gZ,if_neg hh]
       rcases VO c H.next with hcn|hcn
       ·by_cases hl:c∈K.log
        ·cases hgc:(dh base mask i H).get c with
         |none=>have h1:({dh base mask i H with log:=[]}:ac).get c=none:=hgc;rw[hcg.dom c (by simp only[hn1];exact hcn) h1,←hg,h1]
         |some y=>exact absurd ⟨_,rfl,.inl (Xc.2 ⟨hl,by simp[hgc]⟩)⟩ hn
        ·rw[hcg.keep c (by simp only[hn1];exact hcn) hl];exact hg
       ·rcases VO c K.next with hck|hck
        ·exact absurd ⟨_,rfl,.inr (.inr ⟨rfl,hcn,hck⟩)⟩ hn
        ·have hbd:Bd ({dh base mask i H with log:=[]}:ac):=λd hd=>by
          show(dh base mask i H).get d=none;rw[gZ];split
          ·rfl
          ·exact h0 d (by simp only[hn1]at hd;exact hd)
         rw[hcg.bd hbd c hck,h0 c hcn]
     ·show(iA base mask H i K).get c=none;rw[lz];split
      ·exact h0
      ·rename_i hh;refine hcg.dom c (by simp only[hn1];exact hcn) ?_;show(dh base mask i H).get c=none;rw[gZ,if_neg hh];exact h0
     ·show(iA base mask H i K).get c=none;have hcn':K.next≤c:=by
       have:(iA base mask H i K).next≤c:=hcn
       rwa [(gF base mask H i K).1]at this
      rw[lz];split
      ·exact h0 c Xr
      ·have hbd:Bd ({dh base mask i H with log:=[]}:ac):=λd hd=>by
        show(dh base mask i H).get d=none;rw[gZ];split
        ·rfl
        ·exact h0 d (by simp only[hn1]at hd;exact hd)
       exact hcg.bd hbd c hcn'
     ·cases hx;exact⟨Xu,λ_=>rfl⟩
    ·cases h
   ·cases h
  ·cases h;exact⟨VL _,rfl,λ_ _ _=>rfl,λ_ _ _ h=>h,λh=>h,λx hx=>by cases hx⟩
  ·cases h
theorem zf(hc:∀f args H v H',Bd H→call f args H=some (v,H')→A4 H H'){B:Nat}(hB:B≤base){before:List Nat}:∀(l:List Nat) (τ τ':List AV) (H K:ac) (rs rs':List rU),Bd H→(∀i∈l,base+i<H.next)→B≤H.next→
  eb P F call ops base before l τ H rs=some (τ',K,rs')→H.next≤K.next∧K.log=H.log∧Bd K∧(∀b,b<B→H.get b=none→K.get b=none)∧(∀b,b<B→b∉rs'.flatMap (·.writes)→K.get b=H.get b)∧(∀x∈rs,x∈rs')
 |[],τ,τ',H,K,rs,rs',hbd,_,_,h=>by cases h;exact⟨VL _,rfl,hbd,λ_ _ h=>h,λ_ _ _=>rfl,λ_ h=>h⟩
 | i::l,τ,τ',H,K,rs,rs',hbd,hl,hBn,h=>by
  unfold eb at h;split at h
  ·rename_i τ1 H1 hs;have d:=iP hc hbd (hl i Xu) hs;obtain⟨a1,a2,a3,a4,a5,a6⟩:=zf hc hB l _ _ _ _ _ _ (d.bd hbd) (λj hj=>V7 (hl j (by simp[hj])) d.next) (V2 hBn d.next) h;refine⟨V2 d.next a1,a2.trans d.log,a3,λb hb h0=>a4 b hb (d.dom b Xr Xr h0),λb hb hn=>(a5 b hb hn).trans (d.keep hbd b ?_),a6⟩;rintro⟨x,hx,_⟩;cases hx
  ·rename_i τ1 H1 r hs;split at h
   ·have d:=iP hc hbd (hl i Xu) hs;obtain⟨a1,a2,a3,a4,a5,a6⟩:=zf hc hB l _ _ _ _ _ _ (d.bd hbd) (λj hj=>V7 (hl j (by simp[hj])) d.next) (V2 hBn d.next) h;refine⟨V2 d.next a1,a2.trans d.log,a3,λb hb h0=>a4 b hb (d.dom b Xr Xr h0),λb hb hn=>(a5 b hb hn).trans (d.keep hbd b ?_),λx hx=>a6 x (by simp[hx])⟩;rintro⟨x,hx,h1|h1|⟨h1,h2,_⟩⟩
    ·cases hx;exact hn (List.mem_flatMap.2 ⟨r,a6 r Xu,h1⟩)
    ·have:=(d.made x hx).1 b h1;omega
    ·have:=(d.made x hx).2 h1;omega
   ·cases h
  ·cases h
theorem JO(hc:∀f args H v H',Bd H→call f args H=some (v,H')→A4 H H'){draw:Bool}{τ τ':List AV}{H H':ac}(hbd:Bd H)(h:du P F call ops draw τ H=some (τ',H')):A4 H H':=by
 have hbd0:Bd {H with next:=H.next+ops.size}:=λb hb=>hbd b (V2 (Wk _ _) hb)
 cases draw with
 |false=>simp only[du,Wd,if_false]at h;obtain⟨o,l⟩:=HY hc (VL H.next) _ _ _ _ _ hbd0 (λi hi=>by rw[WI]at hi;exact Nat.add_lt_add_left hi _) h;exact⟨V2 (Wk _ _) o.next,o.dom,o.keep,l,λ_=>o.bd hbd0⟩
 |true=>
  simp only[du,if_true]at h;split at h
  ·rename_i τ1 K rs hd;cases h;obtain⟨a1,a2,a3,a4,a5,_⟩:=zf hc (VL H.next) _ _ _ _ _ _ _ hbd0 (λi hi=>by rw[WI]at hi;exact Nat.add_lt_add_left hi _) (Wk _ _) hd;refine⟨V2 (Wk _ _) a1,a4,λb hb hn=>a5 b hb (λhw=>hn ?_),λb hb=>?_,λ_=>a3⟩
   ·simp only[VY];exact .inl hw
   ·simp only[VY];right;rw[a2];exact hb
  ·cases h
theorem CW{ex:Code→List AV→ac→Option (Ex×List AV×ac)}(h:∀c τ H e τ' H',Bd H→ex c τ H=some (e,τ',H')→A4 H H'){f:FuncId}{args:List AV}{H:ac}{v:AV}{H':ac}(hbd:Bd H)
  (hc:oP P ex f args H=some (v,H')):A4 H H':=by
 unfold oP at hc;split at hc
 ·split at hc
  ·split at hc
   ·cases hc
   ·rename_i e τ' K hne hex;split at hc
    ·cases hc;have hk:=h _ _ {H with log:=[]} _ _ _ hbd hex;refine⟨hk.next,hk.dom,λb hb hn=>hk.keep b hb (λhl=>hn ?_),λb hb=>?_,λ_=>hk.bd hbd⟩
     ·simp only[VY,Xc,decide_eq_true_eq];exact .inl ⟨hl,hb⟩
     ·simp only[VY];exact .inr hb
    ·cases hc
   ·cases hc
  ·cases hc
 ·cases hc
end
end
section
def bM:Op→List Operand
 |.move x|.assign x|.box _ x|.load _ x|.nilCheck x|.unOp _ _ x|.convert _ _ x|.fieldAddr _ x _|.field _ x _|.extract x _=>[x]
 |.pick c a b=>[c,a,b]
 |.build _ ps|.buildSlice _ _ ps=>ps.toList.map (·.2)
 |.store _ a v|.binOp _ _ a v _|.makeSlice _ a v|.indexAddr _ a v|.index _ a v=>[a,v]
 |.makeFunc _ _ c=>c.toList
 |.lookup _ m k _=>[m,k]
 |.mapUpdate _ m k x=>[m,k,x]
 |.range _ x|.next x _=>[x]
 |.slice _ x l h m=>x::(l.toList++h.toList++m.toList)
 |.call c=>(match c.callee with|.value f=>[f]|_=>[])++c.args.toList
 |_=>[]
section
variable {P:Program} {F:TypeId→Option (List TypeId)}
theorem KU{ρ ρ2:Operand→AV}{l:List Operand}(h:∀x∈l,ρ x=ρ2 x):l.map ρ=l.map ρ2:=List.map_congr_left h
theorem FO{ρ ρ2:Operand→AV}{ps:List (Nat×Operand)}(h:∀x∈ps.map (·.2),ρ x=ρ2 x):(ps.map λp=>(p.1,ρ p.2))=ps.map λp=>(p.1,ρ2 p.2):=
 List.map_congr_left λp hp=>by rw[h p.2 (Wm.2 ⟨p,hp,rfl⟩)]
theorem oV{ρ ρ2:Operand→AV}:∀{l:List Operand},(∀x∈l,ρ x=ρ2 x)→(l.flatMap λx=>aa (ρ x))=l.flatMap λx=>aa (ρ2 x)
 |[],_=>rfl
 |a::l,h=>by simp only[List.flatMap_cons];rw[h a Xu,oV λx hx=>h x (by simp[hx])]
theorem KV{o:Op}{ρ ρ2:Operand→AV}(h:∀x∈bM o,ρ x=ρ2 x)(b:Nat)(H:ac):aK P F o ρ b H=aK P F o ρ2 b H∧aE o ρ=aE o ρ2∧aC o ρ=aC o ρ2:=by
 cases o with
 |build t ps=>refine⟨?_,rfl,rfl⟩;simp only[aK];rw[FO h]
 |buildSlice t n ps=>refine⟨?_,rfl,rfl⟩;simp only[aK];rw[FO h]
 |makeFunc fn first c=>refine⟨?_,rfl,rfl⟩;cases fn<;>simp only[aK];rw[KU (l:=c.toList) h]
 |slice t x l hi m=>
  have hx:=h x (by simp[bM]);have hl:l.map ρ=l.map ρ2:=by cases l with
   |none=>rfl
   |some y=>simp[h y (by simp[bM])]
  have hh:hi.map ρ=hi.map ρ2:=by cases hi with
   |none=>rfl
   |some y=>simp[h y (by simp[bM])]
  have hm:m.map ρ=m.map ρ2:=by cases m with
   |none=>rfl
   |some y=>simp[h y (by simp[bM])]
  exact⟨by simp only[aK];rw[hx,hl,hh,hm],by simp only[aE];rw[hx],rfl⟩
 |call c=>
  have ha:c.args.toList.map ρ=c.args.toList.map ρ2:=KU λx hx=>h x (by simp only[bM,VY];exact .inr hx)
  have hm:∀x∈c.args.toList,ρ x=ρ2 x:=λx hx=>h x (by simp only[bM,VY];exact .inr hx)
  have hr:aE (.call c) ρ=aE (.call c) ρ2:=by
   simp only[aE];split
   ·exact oV hm
   ·exact oV hm
   ·rfl
  have hk:aC (.call c) ρ=aC (.call c) ρ2:=by
   simp only[aC];split
   ·exact oV λx hx=>hm x (List.mem_of_mem_take hx)
   ·exact oV hm
   ·rfl
  refine⟨?_,hr,hk⟩;simp only[aK];split
  ·rw[ha]
  ·rename_i f hf;rw[h f (by simp only[bM,hf];simp),ha]
  ·rfl
 |store t a v=>refine⟨by simp only[aK];rw[h a (by simp[bM]),h v (by simp[bM])],by simp only[aE];rw[h a (by simp[bM])],by simp only[aC];rw[h a (by simp[bM])]⟩
 |load t a=>refine⟨by simp only[aK];rw[h a (by simp[bM])],by simp only[aE];rw[h a (by simp[bM])],rfl⟩
 |indexAddr t a v=>refine⟨by simp only[aK];rw[h a (by simp[bM]),h v (by simp[bM])],by simp only[aE];rw[h a (by simp[bM])],rfl⟩
 |pick c x y=>refine⟨by simp only[aK];rw[h c (by simp[bM]),h x (by simp[bM]),h y (by simp[bM])],rfl,rfl⟩
 |binOp op t x y u=>refine⟨by simp only[aK];rw[h x (by simp[bM]),h y (by simp[bM])],rfl,rfl⟩
 |makeSlice t x y=>refine⟨by simp only[aK];rw[h x (by simp[bM]),h y (by simp[bM])],rfl,rfl⟩
 |index t x y=>refine⟨by simp only[aK];rw[h x (by simp[bM]),h y (by simp[bM])],rfl,rfl⟩
 |move x=>refine⟨by simp only[aK];rw[h x (by simp[bM])],rfl,rfl⟩
 |assign x=>refine⟨by simp only[aK];rw[h x (by simp[bM])],rfl,rfl⟩
 |box t x=>refine⟨by simp only[aK];rw[h x (by simp[bM])],rfl,rfl⟩
 |nilCheck x=>refine⟨by simp only[aK];rw[h x (by simp[bM])],rfl,rfl⟩
 |unOp op t x=>refine⟨by simp only[aK];rw[h x (by simp[bM])],rfl,rfl⟩
 |convert s d x=>refine⟨by simp only[aK];rw[h x (by simp[bM])],rfl,rfl⟩
 |fieldAddr s x f=>refine⟨by simp only[aK];rw[h x (by simp[bM])],rfl,rfl⟩
 |field s x f=>refine⟨by simp only[aK];rw[h x (by simp[bM])],rfl,rfl⟩
 |extract x i=>refine⟨by simp only[aK];rw[h x (by simp[bM])],rfl,rfl⟩
 |makeMap t r=>cases r<;>exact⟨rfl,rfl,rfl⟩
 |lookup t m k ok=>exact⟨by simp only[aK];rw[h m (by simp[bM]),h k (by simp[bM])],by simp only[aE];rw[h m (by simp[bM])],rfl⟩
 |mapUpdate t m k x=>exact⟨by simp only[aK];rw[h m (by simp[bM]),h k (by simp[bM]),h x (by simp[bM])],by simp only[aE];rw[h m (by simp[bM])],by simp only[aC];rw[h m (by simp[bM])]⟩
 |range t x=>exact⟨by simp only[aK];rw[h x (by simp[bM])],rfl,rfl⟩
 |next it s=>cases s<;>exact⟨by simp only[aK]<;>rw[h it (by simp[bM])],by simp only[aE];rw[h it (by simp[bM])],by simp only[aC];rw[h it (by simp[bM])]⟩
 |_=>exact⟨rfl,rfl,rfl⟩
def vT(P:Program)(F:TypeId→Option (List TypeId))(o:Op)(ρ:Operand→AV)(b:Nat)(v:AV)(H' K:ac):Prop:=
 ∃K',aK P F o ρ b K=some (.val v K')∧K'.next=K.next∧∀c,K'.get c=if c∈aC o ρ∨c=b then H'.get c else K.get c
theorem vT.same{o:Op}{ρ:Operand→AV}{b:Nat}{v:AV}{H K:ac}(hb:K.get b=H.get b)(hw:aC o ρ=[])(h:aK P F o ρ b K=some (.val v K)):vT P F o ρ b v H K:=by
 refine⟨K,h,rfl,λc=>?_⟩;rw[hw];split
 ·rename_i hc;rcases hc with hc|hc
  ·simp at hc
  ·rw[hc];exact hb
 ·rfl
theorem vT.new{o:Op}{ρ:Operand→AV}{b:Nat}{v:AV}{H K:ac}{x:Blk}(hw:aC o ρ=[])(h:aK P F o ρ b K=some (.val v (K.new b x))):vT P F o ρ b v (H.new b x) K:=by
 refine⟨_,h,rfl,λc=>?_⟩;rw[hw,ac.get_new,ac.get_new];by_cases hc:b=c
 ·rw[if_pos hc,if_pos hc,if_pos (.inr hc.symm)]
 ·rw[if_neg hc,if_neg];rintro(h1|h1)
  ·simp at h1
  ·exact hc h1.symm
theorem vT.put{o:Op}{ρ:Operand→AV}{b q:Nat}{v:AV}{H K:ac}{x:Blk}(hb:K.get b=H.get b)(hw:aC o ρ=[q])(h:aK P F o ρ b K=some (.val v (K.put q (some x)))):vT P F o ρ b v (H.put q (some x)) K:=by
 refine⟨_,h,rfl,λd=>?_⟩;rw[hw,ac.get_put,ac.get_put];by_cases hd:q=d
 ·rw[if_pos hd,if_pos hd,if_pos (.inl (by simp[hd]))]
 ·rw[if_neg hd,if_neg hd];split
  ·rename_i hc;rcases hc with hc|hc
   ·simp at hc;exact absurd hc.symm hd
   ·rw[hc];exact hb
  ·rfl
theorem vT.sameW{o:Op}{ρ:Operand→AV}{b q:Nat}{v:AV}{H K:ac}(hb:K.get b=H.get b)(hw:aC o ρ=[q])(hq:K.get q=H.get q)(h:aK P F o ρ b K=some (.val v K)):vT P F o ρ b v H K:=by
 refine⟨K,h,rfl,λc=>?_⟩;rw[hw];split
 ·rename_i hc;rcases hc with hc|hc
  ·simp at hc;rw[hc];exact hq
  ·rw[hc];exact hb
 ·rfl
theorem vU{H K:ac}{n:Nat}{x:AV}(hr:∀c∈aa x,K.get c=H.get c):fq K n x=fq H n x:=by cases x<;>simp only[fq];rw[hr _ (by simp[aa])]
theorem HZ{H K:ac}{x:AV}(hr:∀c∈dR x,K.get c=H.get c):mo K x=mo H x:=by cases x<;>simp only[mo];rw[hr _ (by simp[dR])]
theorem LT{o:Op}{ρ:Operand→AV}{b:Nat}{v:AV}{H H':ac}(h:aK P F o ρ b H=some (.val v H'))(K:ac)(hr:∀c∈aE o ρ,K.get c=H.get c)(hb:K.get b=H.get b):vT P F o ρ b v H' K:=by
 cases o with
 |load t a=>
  simp only[aK]at h;obtain⟨h1,rfl⟩:=fh h;refine .same hb rfl ?_;have:m5 P K t (ρ a)=m5 P H' t (ρ a):=by simp only[aE]at hr;generalize ρ a=x at hr;cases x<;>simp only[m5];rw[hr _ (by simp[aa])]
  simp only[aK,this,h1,Wb]
 |indexAddr t x ix=>
  simp only[aK]at h;obtain⟨h1,rfl⟩:=fh h;refine .same hb rfl ?_;have:dI P (mo K (ρ x)) t (ρ x) (ρ ix)=some v:=by rw[HZ hr];exact h1
  simp only[aK,this,Wb]
 |slice t x lo hi mx=>
  simp only[aK]at h;split at h
  ·cases h
  ·rename_i hcnd;obtain⟨h1,rfl⟩:=fh h;refine .same hb rfl ?_;have:kI P (mo K (ρ x)) t (ρ x) (lo.map ρ) (hi.map ρ) (mx.map ρ)=some v:=by rw[HZ hr];exact h1
   simp only[aK,this,Wb];rw[if_neg hcnd]
 |store t a x=>
  simp only[aK]at h;cases hst:fN P H t (ρ a) (ρ x)with
  |none=>rw[hst]at h;cases h
  |some H1=>
   rw[hst]at h;cases h;simp only[aE]at hr;have hst2:=hst;unfold fN at hst;split at hst
   ·rename_i c i off cs n ha hcs hn;rw[ha]at hr;have hkc:=hr c (by simp[aa]);split at hst
    ·rename_i y hy;split at hst
     ·rename_i r hrw;split at hst
      ·rename_i hcond;cases hst;refine⟨K.put c (some {y with rows:=y.rows.set i (bA r off cs)}),?_,rfl,λd=>?_⟩
       ·simp only[aK,fN,ha,hcs,hn,hkc,hy,hrw];rw[if_pos hcond];rfl
       ·have hw:aC (.store t a x) ρ=[c]:=by simp[aC,ha,aa]
        rw[hw,ac.get_put,ac.get_put];by_cases hd:c=d
        ·rw[if_pos hd,if_pos hd,if_pos (.inl (by simp[hd]))]
        ·rw[if_neg hd,if_neg hd];split
         ·rename_i hc;rcases hc with hc|hc
          ·simp at hc;exact absurd hc.symm hd
          ·rw[hc];exact hb
         ·rfl
      ·cases hst
     ·cases hst
    ·cases hst
   ·cases hst
 |call c=>
  simp only[aK]at h;split at h
  ·rename_i bi hcal;cases hbi:aS P H b bi c.argTypes (c.args.toList.map ρ)with
   |none=>rw[hbi]at h;cases h
   |some r=>
    obtain⟨v0,H1⟩:=r;rw[hbi]at h;cases h;have fin:∀{K':ac} {u:AV},aS P K b bi c.argTypes (c.args.toList.map ρ)=some (u,K')→aK P F (.call c) ρ b K=some (.val u K'):=λhk=>by simp only[aK,hcal,hk,Wb]
    have wnil:bi≠.append∧bi≠.clear→aC (.call c) ρ=[]:=λhne=>by simp only[aC,hcal];cases bi<;>first|rfl|exact absurd rfl hne.1|exact absurd rfl hne.2
    have hbi0:=hbi;unfold aS at hbi;split at hbi
    ·rename_i s heq;split at hbi
     ·rename_i hty;cases hbi;exact .same hb (wnil Xu) (fin (by rw[heq];simp only[aS,hty]))
     ·cases hbi
    ·rename_i x hne heq;have e:H1=H:=by
      split at hbi
      ·rw[Xe]at hbi;obtain⟨n,_,hn⟩:=hbi;cases hn;rfl
      ·cases hbi;rfl
      ·cases hbi
     subst e;refine .same hb (wnil Xu) (fin ?_);rw[heq];unfold aS;split
     ·rename_i s e1 e2;cases e2;exact absurd rfl (hne s)
     ·rename_i x' hne' e1 e2;cases e2;split at hbi
      ·rw[Xe]at hbi;obtain⟨n,hl,hn⟩:=hbi;cases hn;simp only[hl,Wb]
      ·cases hbi;rfl
      ·cases hbi
     ·rename_i e1 e2;cases e2
     ·rename_i e1 e2;cases e2
     ·rename_i e1 e2;cases e2
     ·rename_i e1 e2;cases e1
     ·rename_i e1 e2 e3 e4 e5 e6;simp_all
    ·rename_i s x heq;obtain⟨a0,a1,hargs,h0,h1⟩:=qg heq;split at hbi
     ·rename_i t tx htt;split at hbi
      ·rename_i e' hu';have hrs:∀c'∈aa s,K.get c'=H.get c':=λc' hc'=>hr c' (by simp[aE,hcal,hargs,h0,hc'])
       have hrx:∀c'∈aa x,K.get c'=H.get c':=λc' hc'=>hr c' (by simp[aE,hcal,hargs,h1,hc'])
       have red:∀{K':ac} {u:AV},cO P K b t s x=some (u,K')→aS P K b .append c.argTypes (c.args.toList.map ρ)=some (u,K'):=λhk=>by rw[heq];simp only[aS,htt,hu',hk]
       unfold cO at hbi;split at hbi
       ·rename_i e hu;split at hbi
        ·rename_i n by_ z hn hby hz;split at hbi
         ·rename_i l m hl hm;have hl':fq K n s=some l:=by rw[vU hrs];exact hl
          have hm':fq K n x=some m:=by rw[vU hrx];exact hm
          split at hbi
          ·rename_i hcond;split at hbi
           ·split at hbi
            ·rename_i hm0;cases hbi;refine .same hb (by simp[aC,hcal,hargs,h0,aa]) (fin (red ?_));simp only[cO,hu,hn,hby,hz,hl',hm'];rw[if_pos hcond,if_pos hm0]
            ·rename_i hm0;cases hbi;refine .new (by simp[aC,hcal,hargs,h0,aa]) (fin (red ?_));simp only[cO,hu,hn,hby,hz,hl',hm'];rw[if_pos hcond,if_neg hm0]
           ·split at hbi
            ·rename_i hm0;cases hbi;refine .same hb (by simp[aC,hcal,hargs,h0,aa]) (fin (red ?_));simp only[cO,hu,hn,hby,hz,hl',hm'];rw[if_pos hcond,if_pos hm0]
            ·rename_i hm0;cases hbi;refine .new (by simp[aC,hcal,hargs,h0,aa]) (fin (red ?_));simp only[cO,hu,hn,hby,hz,hl',hm'];rw[if_pos hcond,if_neg hm0]
           ·rename_i b' i k;cases hbi;have hw:aC (.call c) ρ=[b']:=by simp[aC,hcal,hargs,h0,aa]
            refine⟨(K.put b' none).new b ⟨n,l++m⟩,fin (red ?_),rfl,λd=>?_⟩
            ·simp only[cO,hu,hn,hby,hz,hl',hm'];rw[if_pos hcond]
            ·rw[hw,ac.get_new,ac.get_new,ac.get_put,ac.get_put];by_cases hd:b=d
             ·rw[if_pos hd,if_pos hd,if_pos (.inr hd.symm)]
             ·rw[if_neg hd,if_neg hd];by_cases hd':b'=d
              ·rw[if_pos hd',if_pos hd',if_pos (.inl (by simp[hd']))]
              ·rw[if_neg hd',if_neg hd',if_neg];rintro(h1|h1)
               ·simp at h1;exact hd' h1.symm
               ·exact hd h1.symm
           ·cases hbi
          ·cases hbi
         ·cases hbi
        ·cases hbi
       ·cases hbi
      ·cases hbi
     ·cases hbi
    ·rename_i k a k' c' heq;split at hbi
     ·rename_i hk;cases hbi;exact .same hb (wnil Xu) (fin (by rw[heq];simp only[aS];rw[if_pos hk]))
     ·cases hbi
    ·rename_i k a k' c' heq;split at hbi
     ·rename_i hk;cases hbi;exact .same hb (wnil Xu) (fin (by rw[heq];simp only[aS];rw[if_pos hk]))
     ·cases hbi
    ·rename_i x heq;split at hbi
     ·rename_i t htt;cases hcl:eT P H t x with
      |none=>rw[hcl]at hbi;cases hbi
      |some K1=>
       rw[hcl]at hbi;cases hbi;obtain⟨a0,hargs,h0⟩:=qf heq;have red:∀{K':ac},eT P K t x=some K'→aS P K b .clear c.argTypes (c.args.toList.map ρ)=some (.tup [],K'):=λhk=>by rw[heq];simp only[aS,htt,hk,Wb]
       unfold eT at hcl;split at hcl
       ·rename_i e hu;split at hcl
        ·rename_i n z hn hz;split at hcl
         ·cases hcl;exact .same hb (by simp[aC,hcal,hargs,h0,aa]) (fin (red (by simp only[eT,hu,hn,hz])))
         ·rename_i d i k;split at hcl
          ·rename_i y hy;split at hcl
           ·rename_i hcond;cases hcl;have hkd:K.get d=some y:=by rw[hr d (by simp[aE,hcal,hargs,h0,aa])];exact hy
            have hw:aC (.call c) ρ=[d]:=by simp[aC,hcal,hargs,h0,aa]
            refine⟨K.put d (some {y with rows:=y.rows.take i++List.replicate k z++y.rows.drop (i+k)}),fin (red ?_),rfl,λq=>?_⟩
            ·simp only[eT,hu,hn,hz,hkd];rw[if_pos hcond]
            ·rw[hw,ac.get_put,ac.get_put];by_cases hd:d=q
             ·rw[if_pos hd,if_pos hd,if_pos (.inl (by simp[hd]))]
             ·rw[if_neg hd,if_neg hd];split
              ·rename_i hc;rcases hc with hc|hc
               ·simp at hc;exact absurd hc.symm hd
               ·rw[hc];exact hb
              ·rfl
           ·cases hcl
          ·cases hcl
         ·cases hcl
        ·cases hcl
       ·cases hcl
     ·cases hbi
    ·cases hbi
  ·split at h<;>cases h
  ·cases h
 |alloc t=>
  simp only[aK]at h;split at h
  ·rename_i cs hcs;cases h;exact .new rfl (by simp only[aK,hcs])
  ·cases h
 |box t x=>
  simp only[aK]at h;split at h
  ·rename_i cs hcs;split at h
   ·rename_i ho;cases h;exact .new rfl (by simp only[aK,hcs];rw[if_pos ho])
   ·cases h
  ·cases h
 |buildSlice t len parts=>
  simp only[aK]at h;split at h
  ·rename_i e hu;split at h
   ·rename_i n z hn hz;split at h
    ·rename_i hc;cases hf:dQ n (List.replicate len z) (parts.toList.map λp=>(p.1,ρ p.2))with
     |none=>rw[hf]at h;cases h
     |some rows=>rw[hf]at h;cases h;exact .new rfl (by simp only[aK,hu,hn,hz];rw[if_pos hc,hf];rfl)
    ·cases h
   ·cases h
  ·cases h
 |makeSlice t l c=>
  simp only[aK]at h;split at h
  ·rename_i e hu;split at h
   ·rename_i n by_ z l' c' hn hby hz hl hc;split at h
    ·rename_i hcond;cases h;exact .new rfl (by simp only[aK,hu,hn,hby,hz,hl,hc];rw[if_pos hcond])
    ·cases h
   ·cases h
  ·cases h
 |makeFunc fn first cap=>
  cases fn<;>simp only[aK]at h<;>(try (cases h;done));split at h
  ·rename_i hf;cases h;exact .same hb rfl (by simp only[aK];rw[if_pos hf])
  ·cases h
 |pick c x y=>
  simp only[aK]at h;split at h
  ·rename_i t hc;cases h;exact .same hb rfl (by simp only[aK,hc])
  ·cases h
 |nilCheck x=>simp only[aK]at h;split at h<;>(try (cases h;done))<;>(rename_i heq;cases h;exact .same hb rfl (by simp only[aK,heq]))
 |extract x i=>
  simp only[aK]at h;split at h
  ·rename_i vs hx;obtain⟨h1,rfl⟩:=fh h;exact .same hb rfl (by simp only[aK,hx,h1];rfl)
  ·cases h
 |makeMap t r=>
  cases r with
  |none=>simp only[aK]at h;cases h;exact .new rfl rfl
  |some r=>simp[aK]at h
 |lookup t m k ok=>simp only[aK]at h;obtain⟨h1,rfl⟩:=fh h;obtain⟨c,x,hm,hx,hK⟩:=CS h1;refine .same hb rfl ?_;simp only[aK];rw[hK K (by rw[hr c (by simp[aE,hm,aa]),hx])];rfl
 |mapUpdate t m k x=>
  simp only[aK]at h;cases hs:eJ P H t (ρ m) (ρ k) (ρ x)with
  |none=>rw[hs]at h;cases h
  |some H2=>rw[hs]at h;cases h;obtain⟨c,y,y',hm,hy,rfl,hK⟩:=mu hs;refine .put hb (by simp[aC,hm,aa]) ?_;simp only[aK];rw[hK K (by rw[hr c (by simp[aE,hm,aa]),hy])];rfl
 |range t x=>
  simp only[aK]at h;split at h
  ·rename_i s hu hx;cases h;exact .new rfl (by simp only[aK,hu,hx])
  ·cases h
 |next it s=>
  cases s with
  |false=>simp[aK]at h
  |true=>
   simp only[aK]at h;cases hs:iz H (ρ it)with
   |none=>rw[hs]at h;cases h
   |some r=>
    obtain⟨v0,H2⟩:=r;rw[hs]at h;cases h;obtain⟨c,y,hm,hy,⟨rfl,hK⟩|⟨y',rfl,hK⟩⟩:=vR hs
    ·have hc:=hr c (by simp[aE,hm,aa]);refine .sameW (q:=c) hb (by simp[aC,hm,aa]) hc ?_;simp only[aK];rw[hK K (by rw[hc,hy])];rfl
    ·have hc:=hr c (by simp[aE,hm,aa]);refine .put hb (by simp[aC,hm,aa]) ?_;simp only[aK];rw[hK K (by rw[hc,hy])];rfl
 |move x=>simp only[aK]at h;cases h;exact .same hb rfl (by simp only[aK])
 |assign x=>simp only[aK]at h;cases h;exact .same hb rfl (by simp only[aK])
 |build t ps=>simp only[aK]at h;obtain⟨h1,rfl⟩:=fh h;exact .same hb rfl (by simp only[aK,h1];rfl)
 |binOp op t x y u=>simp only[aK]at h;obtain⟨h1,rfl⟩:=fh h;exact .same hb rfl (by simp only[aK,h1];rfl)
 |unOp op t x=>simp only[aK]at h;obtain⟨h1,rfl⟩:=fh h;exact .same hb rfl (by simp only[aK,h1];rfl)
 |convert s d x=>simp only[aK]at h;obtain⟨h1,rfl⟩:=fh h;exact .same hb rfl (by simp only[aK,h1];rfl)
 |fieldAddr s x f=>simp only[aK]at h;obtain⟨h1,rfl⟩:=fh h;exact .same hb rfl (by simp only[aK,h1];rfl)
 |field s x f=>simp only[aK]at h;obtain⟨h1,rfl⟩:=fh h;exact .same hb rfl (by simp only[aK,h1];rfl)
 |index t x y=>simp only[aK]at h;obtain⟨h1,rfl⟩:=fh h;exact .same hb rfl (by simp only[aK,h1];rfl)
 |_=>simp[aK]at h
theorem CX{o:Op}{ρ:Operand→AV}{b:Nat}{g:FuncId}{args:List AV}{H:ac}(h:aK P F o ρ b H=some (.call g args))(K:ac):aK P F o ρ b K=some (.call g args):=by
 cases o with
 |call c=>
  simp only[aK]at h ⊢;split at h
  ·rename_i bi _;cases hbi:aS P H b bi c.argTypes (c.args.toList.map ρ)with
   |none=>rw[hbi]at h;cases h
   |some r=>rw[hbi]at h;cases h
  ·rename_i f hf;exact h
  ·cases h
 |makeFunc fn first cap=>cases fn<;>simp only[aK]at h<;>(try split at h)<;>simp at h
 |makeMap t r=>cases r<;>simp[aK]at h
 |next it s=>cases s<;>simp[aK]at h
 |_=>
  exfalso;simp only[aK]at h
  repeat' (first|(cases h;done)|(simp at h;done)|split at h)
end
end
theorem H3(f:Edge→Nat)(p:Edge→Bool)(k:Nat):∀(l:List Edge) (s:Nat),(l.foldl (λs e=>if p e then s ||| f e else s) s).testBit k=true→s.testBit k=true∨∃e∈l,p e=true∧(f e).testBit k=true
 |[],s,h=>.inl h
 | e::l,s,h=>by
  rw[Xj]at h;rcases H3 f p k l _ h with h1|⟨e',h1,h2⟩
  ·split at h1
   ·rename_i hp;rw[Nat.testBit_or,Xl]at h1;rcases h1 with h1|h1
    ·exact .inl h1
    ·exact .inr ⟨e,Xu,hp,h1⟩
   ·exact .inl h1
  ·exact .inr ⟨e',by simp[h1],h2⟩
def sG(acc:List Nat)(o:Oper):Nat:=o.after.toList.foldl (λs e=>if Region.binds .any e then s ||| 2^e.on ||| acc.getD e.on 0 else s) 0
theorem JP{acc:List Nat}{o:Oper}{k:Nat}(h:(sG acc o).testBit k=true):∃e∈o.after.toList,Region.binds .any e=true∧(k=e.on∨(acc.getD e.on 0).testBit k=true):=by
 have hf:sG acc o=o.after.toList.foldl (λs e=>if Region.binds .any e then s ||| (2^e.on ||| acc.getD e.on 0)else s) 0:=by
  unfold sG;congr 1;funext s e;split
  ·rw[Nat.or_assoc]
  ·rfl
 rw[hf]at h;rcases H3 (λe=>2^e.on ||| acc.getD e.on 0) (Region.binds .any) k _ _ h with h1|⟨e,h1,h2,h3⟩
 ·simp at h1
 ·refine⟨e,h1,h2,?_⟩;rw[Nat.testBit_or,Xl]at h3;rcases h3 with h3|h3
  ·rw[Nat.testBit_two_pow]at h3;exact .inl (by have h4:=h3;simp at h4;exact h4.symm)
  ·exact .inr h3
theorem CY:∀(l:List Oper) (acc:List Nat),acc.length+l.length=(bT l acc).length∧(∀i,i<acc.length→(bT l acc).getD i 0=acc.getD i 0)∧
  ∀(i:Nat) (o:Oper),l[i]? =some o→∃acc',(bT l acc).getD (acc.length+i) 0=sG acc' o∧(∀j,acc'.getD j 0=(bT l acc).getD j 0∨acc'.getD j 0=0)∧(∀j,acc.length+i≤j→acc'.getD j 0=0)
 |[],acc=>by simp[bT]
 | o::l,acc=>by
  obtain⟨h1,h2,h3⟩:=CY l (acc++[sG acc o]);have hm:bT (o::l) acc=bT l (acc++[sG acc o]):=rfl;rw[hm];simp only[VT,List.length_singleton]at h1 h2 h3;have keep:∀i,i<acc.length→(bT l (acc++[sG acc o])).getD i 0=acc.getD i 0:=λi hi=>by rw[h2 i Xr];simp[List.getD,V1 hi]
  refine⟨by simp;omega,keep,λi q hq=>?_⟩
  match i with
  |0=>
   simp only[List.getElem?_cons_zero,VU]at hq;subst hq;refine⟨acc,?_,λj=>?_,λj hj=>?_⟩
   ·rw[Xd,h2 acc.length Xr];simp[List.getD]
   ·rcases VO j acc.length with hj|hj
    ·exact .inl (keep j hj).symm
    ·exact .inr (by simp[List.getD,VP hj])
   ·simp[List.getD,VP (show acc.length≤j by omega)]
  |i+1=>simp only[Xa]at hq;obtain⟨acc',g1,g2,g3⟩:=h3 i q hq;exact⟨acc',by rw[←g1];congr 1;omega,g2,λj hj=>g3 j Xr⟩
theorem LU{ops:Array Oper}{i:Nat}{o:Oper}(ho:ops[i]? =some o){k:Nat}(h:((bT ops.toList []).getD i 0).testBit k=true):
  ∃e∈o.after.toList,Region.binds .any e=true∧(k=e.on∨(e.on<i∧((bT ops.toList []).getD e.on 0).testBit k=true)):=by
 obtain⟨_,_,h3⟩:=CY ops.toList [];obtain⟨acc',g1,g2,g3⟩:=h3 i o (by rw[V9];exact ho);simp only[Wg,WG]at g1 g3;rw[g1]at h;obtain⟨e,e1,e2,e3⟩:=JP h;refine⟨e,e1,e2,?_⟩;rcases e3 with e3|e3
 ·exact .inl e3
 ·right;rcases VO e.on i with hlt|hge
  ·refine⟨hlt,?_⟩;rcases g2 e.on with h4|h4
   ·rw[h4]at e3;exact e3
   ·rw[h4]at e3;simp at e3
  ·rw[g3 e.on hge]at e3;simp at e3
def Gw(ops:Array Oper)(L:Nat→Bool):Prop:=∀(i:Nat) (o:Oper),ops[i]? =some o→L i=true→∀e∈o.after.toList,Region.binds .any e=true→L e.on=true
theorem Gw.ahead{ops:Array Oper}{L:Nat→Bool}(hL:Gw ops L):∀(i:Nat) (o:Oper),ops[i]? =some o→(∀e∈o.after.toList,Region.binds .any e=true→L e.on=true)→∀k,((bT ops.toList []).getD i 0).testBit k=true→L k=true:=by
 intro i
 induction i using Nat.strongRecOn with
 |_ i ih=>
  intro o ho he k hk;obtain⟨e,e1,e2,e3⟩:=LU ho hk;have hLe:=he e e1 e2;rcases e3 with rfl|⟨hlt,h4⟩
  ·exact hLe
  ·have hlt':e.on<ops.size:=by have:i<ops.size:=(W3.1 ho).1;omega
   have ho':ops[e.on]? =some ops[e.on]:=Wc hlt';exact ih e.on hlt _ ho' (λe' h5 h6=>hL e.on _ ho' hLe e' h5 h6) k h4
def cu(p:Nat→Bool):Nat→Option Nat
 |0=>none
 |k+1=>if p k then some k else cu p k
theorem j7{p q:Nat→Bool}:∀{k:Nat},(∀i,i<k→p i=q i)→cu p k=cu q k
 |0,_=>rfl
 | k+1,h=>by unfold cu;rw[h k Xr,j7 λi hi=>h i Xr]
theorem sH{p:Nat→Bool}{k m:Nat}(hkm:k≤m)(h:∀i,k≤i→i<m→p i=false):cu p m=cu p k:=by
 induction m with
 |zero=>rw[show k=0 by omega]
 |succ m ih=>
  rcases WY hkm with rfl|hlt
  ·rfl
  ·rw[cu,h m Xr Xr,if_neg Xu];exact ih Xr λi h1 h2=>h i h1 Xr
theorem oW{p L:Nat→Bool}{n i:Nat}(hi:i<n)(hLi:L i=false)(h:∀j,j<n→j≠i→p j=true→(j<i→L j=true)∧(i<j→L j=false)):
  cu (λj=>L j&&p j) n=cu p i:=by
 rw[sH (k:=i) Xr]
 ·refine j7 λj hj=>?_
  cases hp:p j with
  |false=>simp
  |true=>simp[(h j Xr Xr hp).1 hj]
 ·intro j h1 h2;rcases WY h1 with rfl|hlt
  ·simp[hLi]
  ·cases hp:p j with
   |false=>simp
   |true=>simp[(h j h2 Xr hp).2 hlt]
theorem zg{p L:Nat→Bool}{n i:Nat}(hi:i<n)(hLi:L i=false)(hpi:p i=true)(h:∀j,j<n→j≠i→p j=true→(i<j→L j=false)):
  cu (λj=>(if j=i then true else L j)&&p j) n=some i:=by
 rw[sH (k:=i+1) Xr]
 ·simp[cu,hpi]
 ·intro j h1 h2;cases hp:p j with
  |false=>simp
  |true=>simp[h j h2 Xr hp Xr,show¬j=i by omega]
theorem my{p L:Nat→Bool}{n i:Nat}(hpi:p i=false):cu (λj=>(if j=i then true else L j)&&p j) n=cu (λj=>L j&&p j) n:=by
 refine j7 λj _=>?_
 by_cases hj:j=i
 ·subst hj;simp[hpi]
 ·simp[hj]
section
section
variable (P:Program) (F:TypeId→Option (List TypeId)) (call:FuncId→List AV→ac→Option (AV×ac)) (ops:Array Oper) (base:Nat) (τ0:List AV) (H0:ac)
def ep:Nat→List AV×ac
 |0=>(τ0,H0)
 | i+1=>match bu P F call ops base i ((bT ops.toList []).getD i 0) (ep i).1 (ep i).2 with
  |some (τ,H,_)=>(τ,H)
  |none=>ep i
def fQ(i:Nat):Option rU:=
 match bu P F call ops base i ((bT ops.toList []).getD i 0) (ep P F call ops base τ0 H0 i).1 (ep P F call ops base τ0 H0 i).2 with
 |some (_,_,r)=>r
 |none=>none
structure lB:Prop where
 step:∀i,i<ops.size→bu P F call ops base i ((bT ops.toList []).getD i 0) (ep P F call ops base τ0 H0 i).1 (ep P F call ops base τ0 H0 i).2 =
  some ((ep P F call ops base τ0 H0 (i+1)).1,(ep P F call ops base τ0 H0 (i+1)).2,fQ P F call ops base τ0 H0 i)
 free:∀i j x r,j<i→i<ops.size→fQ P F call ops base τ0 H0 j=some x→fQ P F call ops base τ0 H0 i=some r→((bT ops.toList []).getD i 0).testBit j=true∨lq x r=false
end
section
variable {P:Program} {F:TypeId→Option (List TypeId)} {call:FuncId→List AV→ac→Option (AV×ac)} {ops:Array Oper} {base:Nat} {τ0:List AV} {H0:ac}
theorem H4{i mask:Nat}{τ τ':List AV}{H H':ac}{x:rU}(h:bu P F call ops base i mask τ H=some (τ',H',some x)):x.op=i:=by
 unfold bu at h
 repeat' (first|(cases h;rfl)|(cases h;done)|split at h)
theorem M3:∀(m k:Nat) (rs rs':List rU) (τ':List AV) (K:ac),
  eb P F call ops base (bT ops.toList []) (List.range' k m) (ep P F call ops base τ0 H0 k).1 (ep P F call ops base τ0 H0 k).2 rs=some (τ',K,rs')→(∀j x,j<k→fQ P F call ops base τ0 H0 j=some x→x∈rs∧x.op=j)→
  (∀i,k≤i→i<k+m→bu P F call ops base i ((bT ops.toList []).getD i 0) (ep P F call ops base τ0 H0 i).1 (ep P F call ops base τ0 H0 i).2 =
   some ((ep P F call ops base τ0 H0 (i+1)).1,(ep P F call ops base τ0 H0 (i+1)).2,fQ P F call ops base τ0 H0 i))∧
  (∀i j x r,k≤i→i<k+m→j<i→fQ P F call ops base τ0 H0 j=some x→fQ P F call ops base τ0 H0 i=some r→((bT ops.toList []).getD i 0).testBit j=true∨lq x r=false)∧
  (τ',K)=ep P F call ops base τ0 H0 (k+m)
 | 0,k,rs,rs',τ',K,h,_=>by simp only[List.range'_zero,eb,VU,Prod.mk.injEq]at h;obtain⟨rfl,rfl,rfl⟩:=h;exact⟨λi h1 h2=>by omega,λi j x r h1 h2=>by omega,rfl⟩
 | m+1,k,rs,rs',τ',K,h,hrs=>by
  rw[List.range'_succ]at h;unfold eb at h;cases hd:bu P F call ops base k ((bT ops.toList []).getD k 0) (ep P F call ops base τ0 H0 k).1 (ep P F call ops base τ0 H0 k).2 with
  |none=>rw[hd]at h;cases h
  |some q=>
   obtain⟨τ1,H1,r⟩:=q;rw[hd]at h;have e1:ep P F call ops base τ0 H0 (k+1)=(τ1,H1):=by rw[ep,hd]
   have e2:fQ P F call ops base τ0 H0 k=r:=by rw[fQ,hd]
   have next:∀rs2,eb P F call ops base (bT ops.toList []) (List.range' (k+1) m) τ1 H1 rs2=some (τ',K,rs')→(∀x,r=some x→x∈rs2)→(∀x∈rs,x∈rs2)→
     (∀j x,j<k→fQ P F call ops base τ0 H0 j=some x→∀y,r=some y→((bT ops.toList []).getD k 0).testBit j=true∨lq x y=false)→_:=λrs2 h2 hr2 hsub hfree=>by
    obtain⟨a1,a2,a3⟩:=M3 m (k+1) rs2 rs' τ' K (by rw[e1];exact h2) (λj x hj hx=>by
     rcases WY (Nat.le_of_lt_succ hj)with rfl|hlt
     ·rw[e2]at hx;refine⟨hr2 x hx,?_⟩;rw[hx]at hd;exact H4 hd
     ·obtain⟨b1,b2⟩:=hrs j x hlt hx;exact⟨hsub x b1,b2⟩)
    refine(⟨λi h1 h2=>?_,λi j x y h1 h2 hji hx hy=>?_,by rw[a3];congr 1;omega⟩:(∀i,k≤i→i<k+(m+1)→bu P F call ops base i ((bT ops.toList []).getD i 0) (ep P F call ops base τ0 H0 i).1 (ep P F call ops base τ0 H0 i).2 =
     some ((ep P F call ops base τ0 H0 (i+1)).1,(ep P F call ops base τ0 H0 (i+1)).2,fQ P F call ops base τ0 H0 i))∧
     (∀i j x r,k≤i→i<k+(m+1)→j<i→fQ P F call ops base τ0 H0 j=some x→fQ P F call ops base τ0 H0 i=some r→((bT ops.toList []).getD i 0).testBit j=true∨lq x r=false)∧
     (τ',K)=ep P F call ops base τ0 H0 (k+(m+1)))
    ·rcases WY h1 with rfl|hlt
     ·rw[hd,e1,e2]
     ·exact a1 i hlt Xr
    ·rcases WY h1 with rfl|hlt
     ·rw[e2]at hy;exact hfree j x hji hx y hy
     ·exact a2 i j x y hlt Xr hji hx hy
   cases r with
   |none=>exact next rs h Xu (λx hx=>hx) Xu
   |some y=>
    simp only[]at h;split at h
    ·rename_i hall;refine next (y::rs) h Xu (λx hx=>by simp[hx]) (λj x hj hx y' hy'=>?_)
     cases hy';rw[V0]at hall;obtain⟨b1,b2⟩:=hrs j x hj hx;have:=hall x b1;rw[b2]at this;simpa using this
    ·cases h
end
end
section
theorem aT.sig{w:World}{σ σ':bb}{T:Nat→Prop}(hm:σ'.map=σ.map){a:AV}{v:Value}(h:aT w σ T a v):aT w σ' T a v:=by
 have e:∀{b pl},σ.map b=some pl→σ'.map b=some pl:=λhb=>by rw[hm];exact hb
 induction h with
 |int k n=>exact .int k n
 |bool b=>exact .bool b
 |str s=>exact .str s
 |nilp=>exact .nilp
 |ptr b i off pl h hp=>exact .ptr b i off pl (e h) hp
 |mp b pl h h1 h2=>exact .mp b pl (e h) h1 h2
 |it b pl h h1 h2=>exact .it b pl (e h) h1 h2
 |pptr rows i off b o sz hl h ih=>exact .pptr rows i off b o sz hl ih
 |nils=>exact .nils
 |emp a=>exact .emp a
 |sl b i n pl a cap h hp hn hm' ha=>exact .sl b i n pl a cap (e h) hp hn hm' ha
 |lst0 a cap hm'=>exact .lst0 a cap hm'
 |lst rows b o sz cap hl hn hm' h ih=>exact .lst rows b o sz cap hl hn hm' ih
 |agg cs vs hl h ih=>exact .agg cs vs hl ih
 |tup cs vs hl h ih=>exact .tup cs vs hl ih
 |fn f cs vs hl h ih=>exact .fn f cs vs hl ih
 |nilf=>exact .nilf
 |junk v=>exact .junk v
theorem yZ.sig{w:World}{σ σ':bb}{T:Nat→Prop}(hm:σ'.map=σ.map){x:Blk}{pl:cl}{cs:Array Value}{e:TypeId}(h:yZ w σ T x pl cs e):yZ w σ' T x pl cs e:=
 ⟨h.size,h.block,h.even,h.room,λi r j a u h1 h2 h3=>(h.rep i r j a u h1 h2 h3).sig hm⟩
theorem j6.sig{w:World}{σ σ':bb}{T:Nat→Prop}(hm:σ'.map=σ.map){x:Blk}{pl:cl}{cs:Array Value}{e:TypeId}(h:j6 w σ T x pl cs e):j6 w σ' T x pl cs e:=⟨λhp=>(h.1 hp).sig hm,h.2⟩
def bb.part(σ:bb)(K Hc:ac):bb:=⟨σ.map,λc=>aH σ K c∧¬E9 σ Hc c⟩
section
variable {w w':World} {σ σ':bb} {K Hc H1 K':ac}
theorem E9.sub(hsub:∀c x,Hc.get c=some x→K.get c=some x){d:Nat}(h:E9 σ Hc d):E9 σ K d:=by obtain⟨b,x,pl,h1,h2,h3⟩:=h;exact⟨b,x,pl,hsub b x h1,h2,h3⟩
theorem vV(hsub:∀c x,Hc.get c=some x→K.get c=some x):aH (σ.part K Hc) Hc=aH σ K:=by
 funext d;apply propext;constructor
 ·rintro(h|h)
  ·exact h.1
  ·exact .inr (E9.sub hsub h)
 ·intro h;by_cases ht:E9 σ Hc d
  ·exact .inr ht
  ·exact .inl ⟨h,ht⟩
theorem aW.part(hW:aW w σ K)(hsub:∀c x,Hc.get c=some x→K.get c=some x)(hn:K.next≤Hc.next):aW w (σ.part K Hc) Hc:=by
 refine⟨λb pl hb=>V7 (hW.named b pl hb) hn,hW.lt,λb x hb=>?_,λc hc=>⟨?_,hc.2⟩,λb b' x x' pl pl' h1 h2 h3 h4 h5=>hW.inj b b' x x' pl pl' (hsub _ _ h1) (hsub _ _ h2) h3 h4 h5,by rw[vV hsub];exact hW.glob⟩
 ·obtain⟨pl,cs,e,h1,h2⟩:=hW.live b x (hsub b x hb);rw[vV hsub];exact⟨pl,cs,e,h1,j6.sig (σ:=σ) (σ':=σ.part K Hc) rfl h2⟩
 ·rcases hc.1 with h|⟨b,x,pl,h1,h2,rfl⟩
  ·exact(hW.apart c h).1
  ·exact hW.lt b pl h2
theorem aW.whole(hW:aW w σ K)(hsub:∀c x,Hc.get c=some x→K.get c=some x)(hn:Hc.next=K.next)(hW1:aW w' σ' H1)(hE:el w (σ.part K Hc) (aH (σ.part K Hc) Hc) w' σ' (aH σ' H1))
  (hdom:∀c,c<Hc.next→Hc.get c=none→H1.get c=none) (hK':∀c,K'.get c=if Hc.get c=none∧c<K.next then K.get c else H1.get c) (hn':H1.next≤K'.next) :
  aW w' ⟨σ'.map,σ.fr⟩ K'∧el w σ (aH σ K) w' ⟨σ'.map,σ.fr⟩ (aH ⟨σ'.map,σ.fr⟩ K')∧aH ⟨σ'.map,σ.fr⟩ K'=aH σ' H1:=by
 have hfr:∀c,σ'.fr c↔(aH σ K c∧¬E9 σ Hc c):=λc=>by rw[hE.eqfr];exact Iff.rfl
 have hmap:∀b pl,σ.map b=some pl→σ'.map b=some pl:=λb pl h=>hE.sig b pl h
 have rest:∀b x,Hc.get b=none→K.get b=some x→∃pl,σ.map b=some pl∧σ'.fr pl.block:=λb x h0 hx=>by obtain⟨pl,cs,e,h1,h2⟩:=hW.live b x hx;refine⟨pl,h1,(hfr _).2 ⟨.inr ⟨b,x,pl,hx,h1,rfl⟩,?_⟩⟩;rintro⟨b2,x2,pl2,g1,g2,g3⟩;have:=hW.inj b2 b x2 x pl2 pl (hsub _ _ g1) hx g2 h1 g3;subst this;rw[h0]at g1;cases g1
 have get':∀b x,K'.get b=some x→(Hc.get b=none∧b<K.next∧K.get b=some x)∨H1.get b=some x:=λb x hx=>by
  rw[hK']at hx;split at hx
  ·rename_i hc;exact .inl ⟨hc.1,hc.2,hx⟩
  ·exact .inr hx
 have frK:∀c,σ.fr c→σ'.fr c:=λc hc=>(hfr c).2 ⟨.inl hc,λht=>(hW.apart c hc).2 (E9.sub hsub ht)⟩
 have howns:aH ⟨σ'.map,σ.fr⟩ K'=aH σ' H1:=by
  funext d;apply propext;constructor
  ·rintro(h|⟨b,x,pl,h1,h2,rfl⟩)
   ·exact .inl (frK d h)
   ·rcases get' b x h1 with⟨g1,g2,g3⟩|g1
    ·obtain⟨pl0,e1,e2⟩:=rest b x g1 g3;have h2':σ'.map b=some pl:=h2;rw[hmap b pl0 e1]at h2';cases h2';exact .inl e2
    ·exact .inr ⟨b,x,pl,g1,h2,rfl⟩
  ·rintro(h|⟨b,x,pl,h1,h2,rfl⟩)
   ·obtain⟨h3,h4⟩:=(hfr d).1 h;rcases h3 with h3|⟨b,x,pl,g1,g2,g3⟩
    ·exact .inl h3
    ·have h0:Hc.get b=none:=by
      cases hg:Hc.get b with
      |none=>rfl
      |some y=>exact absurd ⟨b,y,pl,hg,g2,g3⟩ h4
     exact .inr ⟨b,x,pl,by rw[hK',if_pos ⟨h0,hW.named b pl g2⟩];exact g1,hmap b pl g2,g3⟩
   ·refine .inr ⟨b,x,pl,?_,h2,rfl⟩;rw[hK',if_neg]
    ·exact h1
    ·rintro⟨h3,h4⟩;rw[hdom b Xr h3]at h1;cases h1
 have hE2:el w σ (aH σ K) w' ⟨σ'.map,σ.fr⟩ (aH ⟨σ'.map,σ.fr⟩ K'):=by rw[howns];have ho:=vV (σ:=σ) hsub;exact⟨hE.os,hE.tape,hE.output,hE.size,λc hc hT=>hE.keep c hc (by rw[ho];exact hT),hE.shape,hmap,rfl,λc hc=>hE.frame c ((hfr c).1 (frK c hc)),λc hc=>by have:=hE.own c hc;rwa [ho]at this⟩
 refine⟨⟨λb pl hb=>V7 (hW1.named b pl hb) hn',hW1.lt,λb x hx=>?_,λc hc=>⟨?_,?_⟩,?_,by rw[howns];exact hW1.glob⟩,hE2,howns⟩
 ·rcases get' b x hx with⟨g1,g2,g3⟩|g1
  ·obtain⟨pl,cs,e,h1,h2⟩:=hW.live b x g3;obtain⟨pl0,e1,e2⟩:=rest b x g1 g3;have h1':σ.map b=some pl:=h1;rw[e1]at h1';cases h1';refine⟨pl,cs,e,hmap b pl e1,?_⟩;exact h2.mono hE2 (hE.frame _ ((hfr _).1 e2))
  ·obtain⟨pl,cs,e,h1,h2⟩:=hW1.live b x g1;rw[howns];exact⟨pl,cs,e,h1,j6.sig (σ:=σ') (σ':=⟨σ'.map,σ.fr⟩) rfl h2⟩
 ·have:=(hW.apart c hc).1;have:=hE.size;omega
 ·rintro⟨b,x,pl,h1,h2,h3⟩;rcases get' b x h1 with⟨g1,g2,g3⟩|g1
  ·obtain⟨pl0,e1,e2⟩:=rest b x g1 g3;have h2':σ'.map b=some pl:=h2;rw[hmap b pl0 e1]at h2';cases h2';exact(hW.apart c hc).2 ⟨b,x,pl,g3,e1,h3⟩
  ·exact(hW1.apart c (frK c hc)).2 ⟨b,x,pl,g1,h2,h3⟩
 ·intro b b' x x' pl pl' h1 h2 h3 h4 h5;have h3':σ'.map b=some pl:=h3;have h4':σ'.map b'=some pl':=h4;rcases get' b x h1 with⟨g1,g2,g3⟩|g1
  ·obtain⟨pl0,e1,e2⟩:=rest b x g1 g3;rw[hmap b pl0 e1]at h3';cases h3';rcases get' b' x' h2 with⟨k1,k2,k3⟩|k1
   ·obtain⟨pl1,f1,f2⟩:=rest b' x' k1 k3;rw[hmap b' pl1 f1]at h4';cases h4';exact hW.inj b b' x x' pl pl' g3 k3 e1 f1 h5
   ·exact absurd ⟨b',x',pl',k1,h4,h5.symm⟩ (hW1.apart _ e2).2
  ·rcases get' b' x' h2 with⟨k1,k2,k3⟩|k1
   ·obtain⟨pl1,f1,f2⟩:=rest b' x' k1 k3;rw[hmap b' pl1 f1]at h4';cases h4';exact absurd ⟨b,x,pl,g1,h3,h5⟩ (hW1.apart _ f2).2
   ·exact hW1.inj b b' x x' pl pl' g1 k1 h3 h4 h5
end
end
section
def ik(ops:Array Oper)(o:Oper):List Tmp:=
 o.dst.toList++(bM o.op).filterMap (fun|.tmp t=>some t|_=>none)++(match o.guard with|none=>[]|some (j,_)=>((ops[j]?).bind (·.dst)).toList)
def mz(ops:Array Oper):Prop:=∀(i j:Nat) (oi oj:Oper),j<i→ops[i]? =some oi→ops[j]? =some oj→
 ((bT ops.toList []).getD i 0).testBit j=true∨((∀t,oj.dst=some t→t∉ik ops oi)∧(∀t,oi.dst=some t→t∉ik ops oj))
def wr(ops:Array Oper)(t:Tmp)(i:Nat):Bool:=match ops[i]? with|some o=>o.dst==some t|none=>false
def cL(r:Option rU)(c:Nat):Bool:=match r with
 |none=>false
 |some x=>x.writes.contains c||x.made.contains c||(x.isCall&&decide (x.lo≤c)&&decide (c<x.hi))
theorem sI{r:Option rU}{c:Nat}:cL r c=true↔touched r c:=by
 cases r with
 |none=>simp[cL,touched]
 |some x=>simp[cL,touched,or_assoc,and_assoc]
def hC(r:Option rU):Bool:=match r with|none=>false|some x=>x.isCall
section
variable {P:Program} {F:TypeId→Option (List TypeId)} {call:FuncId→List AV→ac→Option (AV×ac)} {ops:Array Oper} {base:Nat} {τ0:List AV} {H0:ac}
theorem H5{i mask:Nat}{τ τ':List AV}{H H':ac}{r:Option rU}(h:bu P F call ops base i mask τ H=some (τ',H',r)):∃o v,ops[i]? =some o∧τ'=fL τ o.dst v:=by
 unfold bu at h;split at h
 ·cases h
 ·rename_i o ho;refine⟨o,?_⟩
  repeat' (first|(cases h;exact⟨_,ho,rfl⟩)|(cases h;done)|split at h)
structure cZ(P:Program)(F:TypeId→Option (List TypeId))(call:FuncId→List AV→ac→Option (AV×ac))(ops:Array Oper)(base:Nat)(τ0:List AV)(H0:ac):Prop where
 bd:∀i,i≤ops.size→Bd (ep P F call ops base τ0 H0 i).2
 le:∀i,i≤ops.size→H0.next≤(ep P F call ops base τ0 H0 i).2.next
 fresh:∀i j,i≤j→j<ops.size→(ep P F call ops base τ0 H0 i).2.get (base+j)=none
 len:∀i,i≤ops.size→(ep P F call ops base τ0 H0 i).1.length=τ0.length
 chg:∀i,i<ops.size→QK base i (ep P F call ops base τ0 H0 i).2 (ep P F call ops base τ0 H0 (i+1)).2 (fQ P F call ops base τ0 H0 i)
theorem LV(hch:∀f args H v H',Bd H→call f args H=some (v,H')→A4 H H')(run:lB P F call ops base τ0 H0)(hbd:Bd H0)(hn:base+ops.size=H0.next)(hfr:∀j,j<ops.size→H0.get (base+j)=none):cZ P F call ops base τ0 H0:=by
 have key:∀i,i≤ops.size→Bd (ep P F call ops base τ0 H0 i).2∧H0.next≤(ep P F call ops base τ0 H0 i).2.next∧(∀j,i≤j→j<ops.size→(ep P F call ops base τ0 H0 i).2.get (base+j)=none)∧(ep P F call ops base τ0 H0 i).1.length=τ0.length:=by
  intro i
  induction i with
  |zero=>intro _;exact⟨hbd,VL _,λj _ hj=>hfr j hj,rfl⟩
  |succ i ih=>intro hi;obtain⟨a1,a2,a3,a4⟩:=ih Xr;have hst:=run.step i Xr;have d:=iP hch a1 Xr hst;obtain⟨o,v,_,hv⟩:=H5 hst;refine⟨d.bd a1,V2 a2 d.next,λj h1 h2=>d.dom _ Xr Xr (a3 j Xr h2),?_⟩;rw[hv,←a4];cases o.dst<;>simp[fL]
 exact⟨λi hi=>(key i hi).1,λi hi=>(key i hi).2.1,λi j h1 h2=>(key i Xr).2.2.1 j h1 h2,λi hi=>(key i hi).2.2.2,λi hi=>iP hch (key i Xr).1 (by have:=(key i Xr).2.1;omega) (run.step i hi)⟩
def oX(P:Program)(F:TypeId→Option (List TypeId))(call:FuncId→List AV→ac→Option (AV×ac))(ops:Array Oper)(base:Nat)(τ0:List AV)(H0:ac)(L:Nat→Bool)(t:Tmp):Option AV:=
 match cu (λj=>L j&&wr ops t j) ops.size with
 |some j=>(ep P F call ops base τ0 H0 (j+1)).1[t]?
 |none=>τ0[t]?
def hget(P:Program)(F:TypeId→Option (List TypeId))(call:FuncId→List AV→ac→Option (AV×ac))(ops:Array Oper)(base:Nat)(τ0:List AV)(H0:ac)(L:Nat→Bool)(c:Nat):Option Blk:=
 match cu (λj=>L j&&cL (fQ P F call ops base τ0 H0 j) c) ops.size with
 |some j=>(ep P F call ops base τ0 H0 (j+1)).2.get c
 |none=>H0.get c
def Gx(P:Program)(F:TypeId→Option (List TypeId))(call:FuncId→List AV→ac→Option (AV×ac))(ops:Array Oper)(base:Nat)(τ0:List AV)(H0:ac)(L:Nat→Bool):Nat:=
 match cu (λj=>L j&&hC (fQ P F call ops base τ0 H0 j)) ops.size with
 |some j=>(ep P F call ops base τ0 H0 (j+1)).2.next
 |none=>H0.next
theorem Pr{τ:List AV}{d:Option Tmp}{v:AV}{t:Tmp}(h:(d==some t)=false):(fL τ d v)[t]? =τ[t]? :=by
 cases d with
 |none=>rfl
 |some d=>
  have:d≠t:=by simpa using h
  simp only[fL,Wn];rw[if_neg this]
theorem JQ(run:lB P F call ops base τ0 H0)(t:Tmp):∀k,k≤ops.size→(ep P F call ops base τ0 H0 k).1[t]? =match cu (wr ops t) k with|some j=>(ep P F call ops base τ0 H0 (j+1)).1[t]?|none=>τ0[t]?
 |0,_=>rfl
 | k+1,hk=>by
  unfold cu;cases hw:wr ops t k with
  |true=>simp
  |false=>simp only[Wd,if_false];rw[←JQ run t k Xr];obtain⟨o,v,ho,hv⟩:=H5 (run.step k Xr);rw[hv];simp only[wr,ho]at hw;exact Pr hw
theorem JR(run:lB P F call ops base τ0 H0)(rf:cZ P F call ops base τ0 H0)(c:Nat):∀k,k≤ops.size→(ep P F call ops base τ0 H0 k).2.get c=match cu (λj=>cL (fQ P F call ops base τ0 H0 j) c) k with|some j=>(ep P F call ops base τ0 H0 (j+1)).2.get c|none=>H0.get c
 |0,_=>rfl
 | k+1,hk=>by
  unfold cu;cases hw:cL (fQ P F call ops base τ0 H0 k) c with
  |true=>simp
  |false=>simp only[Wd,if_false];rw[←JR run rf c k Xr];exact(rf.chg k Xr).keep (rf.bd k Xr) c (λht=>by rw[sI.2 ht]at hw;cases hw)
theorem Ff{i mask:Nat}{τ τ':List AV}{H H':ac}{r:Option rU}(h:bu P F call ops base i mask τ H=some (τ',H',r))(hc:hC r=false):H'.next=H.next:=by
 unfold bu at h;split at h
 ·cases h
 ·split at h
  ·split at h
   ·rename_i hop;cases h;have:=CT hop;exact this
   ·split at h
    ·cases h;simp[hC]at hc
    ·cases h
   ·cases h
  ·cases h;rfl
  ·cases h
theorem JS(run:lB P F call ops base τ0 H0):∀k,k≤ops.size→(ep P F call ops base τ0 H0 k).2.next=match cu (λj=>hC (fQ P F call ops base τ0 H0 j)) k with|some j=>(ep P F call ops base τ0 H0 (j+1)).2.next|none=>H0.next
 |0,_=>rfl
 | k+1,hk=>by
  unfold cu;cases hw:hC (fQ P F call ops base τ0 H0 k)with
  |true=>simp
  |false=>simp only[Wd,if_false];rw[←JS run k Xr];exact Ff (run.step k Xr) hw
structure Next(ops:Array Oper)(L:Nat→Bool)(i:Nat):Prop where
 lt:i<ops.size
 not:L i=false
 closed:Gw ops L
 edges:∀(o:Oper),ops[i]? =some o→∀e∈o.after.toList,Region.binds .any e=true→L e.on=true
theorem Next.before{L:Nat→Bool}{i:Nat}(h:Next ops L i){j:Nat}(hb:((bT ops.toList []).getD i 0).testBit j=true):L j=true:=
 h.closed.ahead i _ (Wc h.lt) (h.edges _ (Wc h.lt)) j hb
theorem Next.behind{L:Nat→Bool}{i:Nat}(h:Next ops L i){j:Nat}(hj:j<ops.size)(hb:((bT ops.toList []).getD j 0).testBit i=true):L j=false:=by
 cases hL:L j with
 |false=>rfl
 |true=>have:=h.closed.ahead j _ (Wc hj) (h.closed j _ (Wc hj) hL) i hb;rw[h.not]at this;cases this
theorem Ps(run:lB P F call ops base τ0 H0)(hst:mz ops){L:Nat→Bool}{i:Nat}(nx:Next ops L i){o:Oper}(ho:ops[i]? =some o){t:Tmp}(ht:t∈ik ops o):
  oX P F call ops base τ0 H0 L t=(ep P F call ops base τ0 H0 i).1[t]? :=by
 have hord:∀j,j<ops.size→j≠i→wr ops t j=true→(j<i→L j=true)∧(i<j→L j=false):=λj hj hne hw=>by
  have hoj:ops[j]? =some ops[j]:=Wc hj;simp only[wr,hoj]at hw;have hd:(ops[j]).dst=some t:=by simpa using hw
  refine⟨λhlt=>?_,λhlt=>?_⟩
  ·rcases hst i j o _ hlt ho hoj with h1|⟨h1,_⟩
   ·exact nx.before h1
   ·exact absurd ht (h1 t hd)
  ·rcases hst j i _ o hlt hoj ho with h1|⟨_,h1⟩
   ·exact nx.behind hj h1
   ·exact absurd ht (h1 t hd)
 rw[JQ run t i (by have:=nx.lt;omega),oX,oW nx.lt nx.not hord]
end
end
section
theorem lC{l m:List Nat}(h:apart l m=true){x:Nat}(hx:x∈l):x∉m:=by unfold apart at h;rw[V0]at h;have:=h x hx;simpa using this
structure Tq(x y:rU):Prop where
 wr:∀c∈x.writes,c∉y.reads
 ww:∀c∈x.writes,c∉y.writes
 rw:∀c∈x.reads,c∉y.writes
 mr:∀c∈x.made,c∉y.reads
 mw:∀c∈x.made,c∉y.writes
 cc:x.isCall=true→y.isCall=false
 cw:x.isCall=true→∀c,c∉y.writes
 cr:x.isCall=true→∀c∈y.reads,¬(x.lo≤c∧c<x.hi)
 wc:y.isCall=true→∀c,c∉x.writes
theorem ez{x y:rU}(h:lq x y=false):Tq x y:=by
 unfold lq at h;simp only[Bool.or_eq_false_iff,Bool.not_eq_false',V5,Bool.and_eq_false_iff]at h;obtain⟨⟨⟨⟨⟨⟨h1,h2⟩,h3⟩,h4⟩,h5⟩,h6⟩,h7⟩:=h;refine⟨λc hc=>lC h1 hc,λc hc=>lC h2 hc,λc hc=>lC h3 hc,λc hc=>lC h4 hc,λc hc=>lC h5 hc,λhx=>?_,λhx c hc=>?_,λhx c hc hr=>?_,λhy c hc=>?_⟩
 ·rcases h6 with h6|⟨⟨h6,_⟩,_⟩
  ·rw[hx]at h6;cases h6
  ·exact h6
 ·rcases h6 with h6|⟨⟨_,h6⟩,_⟩
  ·rw[hx]at h6;cases h6
  ·simp at h6;rw[h6]at hc;simp at hc
 ·rcases h6 with h6|⟨_,h6⟩
  ·rw[hx]at h6;cases h6
  ·rw[List.any_eq_false]at h6;exact h6 c hc (by simpa using hr)
 ·rcases h7 with h7|h7
  ·rw[hy]at h7;cases h7
  ·simp at h7;rw[h7]at hc;simp at hc
section
variable {P:Program} {F:TypeId→Option (List TypeId)} {call:FuncId→List AV→ac→Option (AV×ac)} {ops:Array Oper} {base:Nat} {τ0:List AV} {H0:ac}
theorem FP(rf:cZ P F call ops base τ0 H0){i:Nat}:∀{j:Nat},i≤j→j≤ops.size→(ep P F call ops base τ0 H0 i).2.next≤(ep P F call ops base τ0 H0 j).2.next
 |0,h1,_=>by rw[show i=0 by omega];exact VL _
 | j+1,h1,h2=>by
  rcases WY h1 with rfl|hlt
  ·exact VL _
  ·exact V2 (FP rf (show i≤j by omega) Xr) (rf.chg j Xr).next
theorem later(run:lB P F call ops base τ0 H0)(rf:cZ P F call ops base τ0 H0){i j c:Nat}{r y:rU}{b:Blk}(hij:i<j)(hj:j<ops.size)(hi:fQ P F call ops base τ0 H0 i=some r)(hy:fQ P F call ops base τ0 H0 j=some y)(ht:touched (fQ P F call ops base τ0 H0 j) c)
  (hl:(ep P F call ops base τ0 H0 i).2.get c=some b):((bT ops.toList []).getD j 0).testBit i=true∨(Tq r y∧(c∈y.writes∨(y.isCall=true∧False))):=by
 rcases run.free j i r y hij hj hi hy with h1|h1
 ·exact .inl h1
 ·right;refine⟨ez h1,?_⟩;obtain⟨x,hx,ht⟩:=ht;rw[hy]at hx;cases hx;rcases ht with ht|ht|⟨t1,t2,_⟩
  ·exact .inl ht
  ·have:=((rf.chg j hj).made y hy).1 c ht;subst this;rw[rf.fresh i j Xr hj]at hl;cases hl
  ·have h2:=((rf.chg j hj).made y hy).2 t1;have h3:=FP rf (show i≤j by omega) Xr;rw[rf.bd i Xr c Xr]at hl;cases hl
theorem KW(run:lB P F call ops base τ0 H0)(rf:cZ P F call ops base τ0 H0){L:Nat→Bool}{i:Nat}(nx:Next ops L i){c:Nat}
  (hord:∀j,j<ops.size→j≠i→touched (fQ P F call ops base τ0 H0 j) c→(j<i→((bT ops.toList []).getD i 0).testBit j=true)∧(i<j→((bT ops.toList []).getD j 0).testBit i=true)) :
  hget P F call ops base τ0 H0 L c=(ep P F call ops base τ0 H0 i).2.get c:=by
 rw[JR run rf c i (by have:=nx.lt;omega),hget,oW (p:=λj=>cL (fQ P F call ops base τ0 H0 j) c) nx.lt nx.not];intro j hj hne ht;obtain⟨h1,h2⟩:=hord j hj hne (sI.1 ht);exact⟨λhlt=>nx.before (h1 hlt),λhlt=>nx.behind hj (h2 hlt)⟩
theorem M4(run:lB P F call ops base τ0 H0)(rf:cZ P F call ops base τ0 H0){i c:Nat}{r:rU}{b:Blk}(hi:i<ops.size)(hr:fQ P F call ops base τ0 H0 i=some r)(hc:c∈r.reads)(hl:(ep P F call ops base τ0 H0 i).2.get c=some b):
  ∀j,j<ops.size→j≠i→touched (fQ P F call ops base τ0 H0 j) c→(j<i→((bT ops.toList []).getD i 0).testBit j=true)∧(i<j→((bT ops.toList []).getD j 0).testBit i=true):=by
 intro j hj hne ht;obtain⟨x,hx,ht'⟩:=ht;refine⟨λhlt=>?_,λhlt=>?_⟩
 ·rcases run.free i j x r hlt hi hx hr with h1|h1
  ·exact h1
  ·exfalso;have fr:=ez h1;rcases ht' with t|t|⟨t1,t2,t3⟩
   ·exact fr.wr c t hc
   ·exact fr.mr c t hc
   ·exact fr.cr t1 c hc ⟨t2,t3⟩
 ·rcases later run rf hlt hj hr hx ⟨x,hx,ht'⟩ hl with h1|⟨h1,h2|⟨_,h2⟩⟩
  ·exact h1
  ·exact absurd h2 (h1.rw c hc)
  ·exact h2.elim
theorem H6{o:Op}{ρ:Operand→AV}{b c:Nat}{v:AV}{H H':ac}(h:aK P F o ρ b H=some (.val v H'))(hc:c∈aE o ρ):∃x,H.get c=some x:=by
 cases o with
 |load t a=>
  simp only[aK]at h;obtain⟨h1,_⟩:=fh h;simp only[aE]at hc;generalize ρ a=y at h1 hc;cases y<;>simp[aa]at hc<;>simp[m5]at h1;subst hc;cases hg:H.get _ with
  |none=>rw[hg]at h1;simp at h1
  |some x=>exact⟨x,rfl⟩
 |store t a x=>
  simp only[aK]at h;cases hst:fN P H t (ρ a) (ρ x)with
  |none=>rw[hst]at h;cases h
  |some K=>
   simp only[aE]at hc;unfold fN at hst;split at hst
   ·rename_i d i off cs n ha hcs hn;rw[ha]at hc;simp[aa]at hc;subst hc;split at hst
    ·rename_i y hy;exact⟨y,hy⟩
    ·cases hst
   ·cases hst
 |indexAddr t x ix=>
  simp only[aK]at h;obtain⟨h1,_⟩:=fh h;simp only[aE]at hc;generalize ρ x=y at h1 hc;cases y<;>simp[dR]at hc;subst hc;cases hg:H.get c with
  |some x=>exact⟨x,rfl⟩
  |none=>
   exfalso;simp only[dI,mo,hg,Option.map_none,Option.isSome_none,Wd,false_and,and_false,if_false]at h1;split at h1
   ·split at h1
    ·cases h1
    ·split at h1<;>simp_all
   ·cases h1
 |slice t x lo hi mx=>
  simp only[aK]at h;split at h
  ·cases h
  ·obtain⟨h1,_⟩:=fh h;simp only[aE]at hc;generalize ρ x=y at h1 hc;cases y<;>simp[dR]at hc;subst hc;cases hg:H.get c with
   |some x=>exact⟨x,rfl⟩
   |none=>
    exfalso;simp only[kI,mo,hg,Option.map_none,Option.isSome_none,Wd,false_and,if_false]at h1;split at h1
    ·split at h1
     ·split at h1<;>cases h1
     ·cases h1
    ·cases h1
    ·cases h1
 |call k=>
  simp only[aE]at hc;split at hc
  ·rename_i hk;simp only[aK,hk]at h;cases hbi:aS P H b .append k.argTypes (k.args.toList.map ρ)with
   |none=>rw[hbi]at h;cases h
   |some q=>
    unfold aS at hbi;split at hbi
    ·rename_i e _;cases e
    ·rename_i _ e _;cases e
    ·rename_i s x e heq;obtain⟨a0,a1,hargs,h0,h1⟩:=qg heq;rw[hargs]at hc;simp only[List.flatMap_cons,List.flatMap_nil,Wr,h0,h1,VY]at hc;split at hbi
     ·split at hbi
      ·unfold cO at hbi;split at hbi
       ·split at hbi
        ·split at hbi
         ·rename_i l m hl hm;have aux:∀{y:AV} {q n},fq H n y=some q→c∈aa y→∃x,H.get c=some x:=λ{y} {q} {n} hy hcy=>by
           cases y<;>simp[aa]at hcy<;>simp[fq]at hy;subst hcy;split at hy
           ·rename_i x hx;exact⟨x,hx⟩
           ·cases hy
          rcases hc with hc|hc
          ·exact aux hl hc
          ·exact aux hm hc
         ·cases hbi
        ·cases hbi
       ·cases hbi
      ·cases hbi
     ·cases hbi
    ·rename_i e _;cases e
    ·rename_i e _;cases e
    ·rename_i e _;cases e
    ·cases hbi
  ·rename_i hk;simp only[aK,hk]at h;cases hbi:aS P H b .clear k.argTypes (k.args.toList.map ρ)with
   |none=>rw[hbi]at h;cases h
   |some q=>
    unfold aS at hbi;split at hbi
    ·rename_i e _;cases e
    ·rename_i _ e _;cases e
    ·rename_i e _;cases e
    ·rename_i e _;cases e
    ·rename_i e _;cases e
    ·rename_i x e heq;obtain⟨a0,hargs,h0⟩:=qf heq;rw[hargs]at hc;simp only[List.flatMap_cons,List.flatMap_nil,Wr,h0]at hc;split at hbi
     ·rw[Xe]at hbi;obtain⟨K1,hk1,_⟩:=hbi;unfold eT at hk1;split at hk1
      ·split at hk1
       ·split at hk1
        ·simp[aa]at hc
        ·simp[aa]at hc;subst hc;split at hk1
         ·rename_i y hy;exact⟨y,hy⟩
         ·cases hk1
        ·cases hk1
       ·cases hk1
      ·cases hk1
     ·cases hbi
    ·cases hbi
  ·simp at hc
 |lookup t m k ok=>simp only[aK]at h;obtain⟨h1,rfl⟩:=fh h;obtain⟨q,x,hm,hx,_⟩:=CS h1;simp only[aE,hm,aa,VR]at hc;exact⟨x,by rw[hc];exact hx⟩
 |mapUpdate t m k x=>
  simp only[aK]at h;cases hs:eJ P H t (ρ m) (ρ k) (ρ x)with
  |none=>rw[hs]at h;cases h
  |some H2=>obtain⟨q,y,y',hm,hy,_⟩:=mu hs;simp only[aE,hm,aa,VR]at hc;exact⟨y,by rw[hc];exact hy⟩
 |next it s=>
  cases s with
  |false=>simp[aK]at h
  |true=>
   simp only[aK]at h;cases hs:iz H (ρ it)with
   |none=>rw[hs]at h;cases h
   |some r=>obtain⟨q,y,hm,hy,_⟩:=vR hs;simp only[aE,hm,aa,VR]at hc;exact⟨y,by rw[hc];exact hy⟩
 |_=>simp[aE]at hc
theorem vW{o:Op}{ρ:Operand→AV}{c:Nat}(hc:c∈aC o ρ):c∈aE o ρ:=by
 cases o with
 |store t a x=>exact hc
 |call k=>
  simp only[aC]at hc;simp only[aE];split at hc
  ·rename_i hk;rw[List.mem_flatMap]at hc ⊢;obtain⟨x,h1,h2⟩:=hc;exact⟨x,List.mem_of_mem_take h1,h2⟩
  ·exact hc
  ·simp at hc
 |mapUpdate t m k x=>exact hc
 |next it s=>exact hc
 |_=>simp[aC]at hc
end
end
section
def iQ(L:Nat→Bool)(i:Nat):Nat→Bool:=λj=>if j=i then true else L j
theorem CZ{p:Nat→Bool}:∀{k j:Nat},cu p k=some j→j<k
 |0,j,h=>by cases h
 | k+1,j,h=>by
  unfold cu at h;split at h
  ·cases h;omega
  ·have:=CZ h;omega
def FQ(H:ac):List Nat→ac→ac
 |[],K=>K
 |c::l,K=>FQ H l {K with tr:=K.tr.set c (H.get c)}
theorem H7(H:ac):∀(l:List Nat) (K:ac) (c:Nat),(FQ H l K).get c=if c∈l then H.get c else K.get c
 |[],K,c=>by simp[FQ]
 | d::l,K,c=>by
  rw[FQ,H7 H l];by_cases h1:c∈l
  ·rw[if_pos h1,if_pos (by simp[h1])]
  ·rw[if_neg h1];show(K.tr.set d (H.get d)).get c=_;rw[Tr.get_set];by_cases h2:d=c
   ·subst h2;rw[if_pos rfl,if_pos Xu]
   ·rw[if_neg h2,if_neg (by simp[h1];exact λe=>h2 e.symm)];rfl
section
variable {P:Program} {F:TypeId→Option (List TypeId)} {call:FuncId→List AV→ac→Option (AV×ac)} {ops:Array Oper} {base:Nat} {τ0:List AV} {H0:ac}
def Tl(P:Program)(F:TypeId→Option (List TypeId))(call:FuncId→List AV→ac→Option (AV×ac))(ops:Array Oper)(base:Nat)(τ0:List AV)(H0:ac)(w0:World)(σ0:bb)(L:Nat→Bool)(a:Act)(w:World):Prop:=
 ∃σ K,aW w σ K∧(∀c,K.get c=hget P F call ops base τ0 H0 L c)∧K.next=Gx P F call ops base τ0 H0 L∧a.tmps.size=τ0.length∧a.defers=[]∧(∀t x u,oX P F call ops base τ0 H0 L t=some x→a.tmps[t]? =some u→aT w σ (aH σ K) x u)∧
  el w0 σ0 (aH σ0 H0) w σ (aH σ K)∧(∀c pl,σ c=some pl→σ0 c=some pl∨base≤c)∧(∀i,i<ops.size→L i=false→σ (base+i)=none)
def tl(P:Program)(F:TypeId→Option (List TypeId))(call:FuncId→List AV→ac→Option (AV×ac))(ops:Array Oper)(base:Nat)(τ0:List AV)(H0:ac)(L:Nat→Bool):List AV:=
 (List.range τ0.length).map λt=>(oX P F call ops base τ0 H0 L t).getD bB
theorem H8(rf:cZ P F call ops base τ0 H0)(L:Nat→Bool)(t:Tmp):(t<τ0.length→∃x,oX P F call ops base τ0 H0 L t=some x)∧(τ0.length≤t→oX P F call ops base τ0 H0 L t=none):=by
 unfold oX;split
 ·rename_i j hj;have hl:=rf.len (j+1) (CZ hj);exact⟨λht=>⟨_,VK (by rw[hl];exact ht)⟩,λht=>VP (by rw[hl];exact ht)⟩
 ·exact⟨λht=>⟨_,VK ht⟩,λht=>VP ht⟩
theorem M5(rf:cZ P F call ops base τ0 H0)(L:Nat→Bool)(t:Tmp):(tl P F call ops base τ0 H0 L)[t]? =oX P F call ops base τ0 H0 L t:=by
 unfold tl;rw[VZ];rcases VO t τ0.length with h|h
 ·rw[Xo h];obtain⟨x,hx⟩:=(H8 rf L t).1 h;simp[hx]
 ·rw[VP (by simpa using h),(H8 rf L t).2 h];rfl
theorem Ts(rf:cZ P F call ops base τ0 H0){L:Nat→Bool}{a:Act}{w:World}{σ:bb}{T:Nat→Prop}(h1:a.tmps.size=τ0.length)(h2:a.defers=[])(h3:∀t x u,oX P F call ops base τ0 H0 L t=some x→a.tmps[t]? =some u→aT w σ T x u):
  cv w σ T (tl P F call ops base τ0 H0 L) a:=
 ⟨⟨by simp[tl,h1],λt x u hx hu=>h3 t x u (by rw[←M5 rf];exact hx) (by rw[←V9];exact hu)⟩,h2⟩
theorem Pt{l m:List AV}{t:Nat}(h:l[t]? =m[t]?):l.getD t bB=m.getD t bB:=by simp[List.getD,h]
theorem M6(run:lB P F call ops base τ0 H0)(rf:cZ P F call ops base τ0 H0)(hst:mz ops){L:Nat→Bool}{i:Nat}(nx:Next ops L i){o:Oper}(ho:ops[i]? =some o):
  (∀x∈bM o.op,jT (ep P F call ops base τ0 H0 i).1 x=jT (tl P F call ops base τ0 H0 L) x)∧dt ops o (tl P F call ops base τ0 H0 L)=dt ops o (ep P F call ops base τ0 H0 i).1:=by
 have ht:∀t∈ik ops o,(tl P F call ops base τ0 H0 L)[t]? =(ep P F call ops base τ0 H0 i).1[t]? :=λt h=>by rw[M5 rf,Ps run hst nx ho h]
 refine⟨λx hx=>?_,?_⟩
 ·cases x with
  | tmp t=>exact(Pt (ht t (by
    simp only[ik,VY];exact .inl (.inr (List.mem_filterMap.2 ⟨.tmp t,hx,rfl⟩))))).symm
  |const v=>rfl
  |global g=>rfl
  |func f=>rfl
 ·unfold dt;cases hg:o.guard with
  |none=>rfl
  |some q=>
   obtain⟨j,want⟩:=q;simp only[];cases hd:(ops[j]?).bind (·.dst)with
   |none=>rfl
   |some d=>simp only[];rw[ht d (by simp only[ik,VY,hg,hd];right;simp)]
theorem C0(run:lB P F call ops base τ0 H0)(rf:cZ P F call ops base τ0 H0)(hst:mz ops){L:Nat→Bool}{i:Nat}(nx:Next ops L i){o:Oper}(ho:ops[i]? =some o){v:AV}{v':Value}{a:Act}{w w':World}{σ σ':bb}{T T':Nat→Prop}
  (hv:(ep P F call ops base τ0 H0 (i+1)).1=fL (ep P F call ops base τ0 H0 i).1 o.dst v) (hr:aT w' σ' T' v v') (h1:a.tmps.size=τ0.length) (h3:∀t x u,oX P F call ops base τ0 H0 L t=some x→a.tmps[t]? =some u→aT w σ T x u) (hE:∀x u,aT w σ T x u→aT w' σ' T' x u) :
  (a.put o.dst v').tmps.size=τ0.length∧∀t x u,oX P F call ops base τ0 H0 (iQ L i) t=some x→(a.put o.dst v').tmps[t]? =some u→aT w' σ' T' x u:=by
 refine⟨by cases o.dst<;>simp[Act.put,h1],λt x u hx hu=>?_⟩;by_cases hw:wr ops t i=true
 ·have hd:o.dst=some t:=by simpa[wr,ho]using hw
  have hl:cu (λj=>iQ L i j&&wr ops t j) ops.size=some i:=by
   refine zg nx.lt nx.not hw λj hj hne hwj hlt=>?_
   have hoj:ops[j]? =some ops[j]:=Wc hj;have hdj:(ops[j]).dst=some t:=by simpa[wr,hoj]using hwj
   rcases hst j i _ o hlt hoj ho with h4|⟨h4,_⟩
   ·exact nx.behind hj h4
   ·exact absurd (by simp[ik,hdj]) (h4 t hd)
  unfold oX at hx;rw[hl]at hx;simp only[hv,hd,fL,Wn]at hx;simp only[hd,Act.put,Array.getElem?_setIfInBounds]at hu;simp only[if_true]at hx hu;split at hx
  ·split at hu
   ·cases hx;cases hu;exact hr
   ·cases hu
  ·cases hx
 ·have hw':wr ops t i=false:=by simpa using hw
  have hd:(o.dst==some t)=false:=by simpa[wr,ho]using hw'
  have hl:cu (λj=>iQ L i j&&wr ops t j) ops.size=cu (λj=>L j&&wr ops t j) ops.size:=my hw';have hx':oX P F call ops base τ0 H0 L t=some x:=by unfold oX at hx ⊢;rw[hl]at hx;exact hx
  refine hE x u (h3 t x u hx' ?_);rw[←hu];cases hdd:o.dst with
  |none=>rfl
  |some d=>
   have:d≠t:=by rw[hdd]at hd;simpa using hd
   simp[Act.put,this]
end
end
end Go.Proofs.YtdnpdghlggbklaaGreatDoor.Am
