/- A part of the proof; the statement is proved in the last part. -/
import Derived.Test.YtelgfgfgghpjgaaGreatDoorQab
set_option linter.unusedSimpArgs false
set_option linter.unusedVariables false
section
namespace Go.Proofs.YtelgfgfgghpjgaaGreatDoor.Am
set_option linter.unusedVariables false
def Bd(H:aa):Prop:=∀b,H.next≤b→H.get b=none
structure kU(H H':aa):Prop where
 next:H.next≤H'.next
 dom:∀b,b<H.next→H.get b=none→H'.get b=none
 keep:∀b,b<H.next→b∉H'.log→H'.get b=H.get b
 log:∀b,b∈H.log→b∈H'.log
 bd:Bd H→Bd H'
theorem kU.refl(H:aa):kU H H:=⟨Nat.le_refl _,fun _ _ h=>h,fun _ _ _=>rfl,fun _ h=>h,fun h=>h⟩
theorem kU.trans{H H' H'':aa}(h:kU H H')(k:kU H' H''):kU H H'':=
  ⟨Nat.le_trans h.next k.next,fun b hb h0=>k.dom b (Nat.lt_of_lt_of_le hb h.next) (h.dom b hb h0),
   fun b hb hl=>(k.keep b (Nat.lt_of_lt_of_le hb h.next) hl).trans (h.keep b hb (fun h1=>hl (k.log b h1))),fun b hb=>k.log b (h.log b hb),fun hb=>k.bd (h.bd hb)⟩
section
variable {P:Program} {F:TypeId→Option (List TypeId)}
structure lT(o:Op)(ρ:Operand→AV)(b:Nat)(H H':aa):Prop where
 next:H'.next=H.next
 keep:∀c,c≠b→c∉ai o ρ→H'.get c=H.get c
 keepL:∀c,c≠b→c∉H'.log→H'.get c=H.get c
 dom:∀c,c≠b→H.get c=none→H'.get c=none
 log:∀c,c∈H.log→c∈H'.log
theorem lT.same(o:Op)(ρ:Operand→AV)(b:Nat)(H:aa):lT o ρ b H H:=⟨rfl,fun _ _ _=>rfl,fun _ _ _=>rfl,fun _ _ h=>h,fun _ h=>h⟩
theorem lT.new(o:Op)(ρ:Operand→AV)(b:Nat)(H:aa)(x:Blk):lT o ρ b H (H.new b x):=
 ⟨rfl,fun c hc _=>by rw[aa.get_new,if_neg (fun e=>hc e.symm)],fun c hc _=>by rw[aa.get_new,if_neg (fun e=>hc e.symm)],fun c hc h=>by rw[aa.get_new,if_neg (fun e=>hc e.symm)];exact h,fun _ h=>h⟩
theorem lT.put{o:Op}{ρ:Operand→AV}{b c:Nat}{H:aa}{y:Blk}(y':Blk)(hy:H.get c=some y)(hw:c∈ai o ρ):lT o ρ b H (H.put c (some y')):=by
 refine⟨rfl,fun d hd hn=>?_,fun d hd hl=>?_,fun d hd h0=>?_,fun d hl=>List.mem_cons_of_mem _ hl⟩
 ·rw[aa.get_put,if_neg (by rintro rfl;exact hn hw)]
 ·rw[aa.get_put,if_neg (by rintro rfl;exact hl (by simp[aa.put]))]
 ·rw[aa.get_put]
  split
  ·rename_i e;subst e;rw[hy]at h0;cases h0
  ·exact h0
theorem n9{o:Op}{ρ:Operand→AV}{b:Nat}{H H':aa}{v:AV}(h:ao P F o ρ b H=some (.val v H')):lT o ρ b H H':=by
 cases o with
 | store t a x=>
  simp only[ao]at h
  cases hs:cq P H t (ρ a) (ρ x)with
  | none=>rw[hs]at h;cases h
  | some K=>
   rw[hs]at h
   cases h
   unfold cq at hs
   split at hs
   ·rename_i c i off cs n ha hcs hn
    split at hs
    ·rename_i y hy
     split at hs
     ·rename_i r hr
      split at hs
      ·cases hs
       have hw:ai (.store t a x) ρ=[c]:=by simp[ai,ha,ac]
       refine⟨rfl,fun d hd hn=>?_,fun d hd hl=>?_,fun d hd h0=>?_,fun d hl=>List.mem_cons_of_mem _ hl⟩
       ·rw[aa.get_put,if_neg (by rintro rfl;exact hn (by rw[hw];simp))]
       ·rw[aa.get_put,if_neg (by rintro rfl;exact hl (by simp[aa.put]))]
       ·rw[aa.get_put]
        split
        ·rename_i e;subst e;rw[hy]at h0;cases h0
        ·exact h0
      ·cases hs
     ·cases hs
    ·cases hs
   ·cases hs
 | call c=>
  simp only[ao]at h
  split at h
  ·rename_i bi hcal
   cases hbi:av P H b bi c.argTypes (c.args.toList.map ρ)with
   | none=>rw[hbi]at h;cases h
   | some r=>
    obtain⟨v0,K⟩:=r
    rw[hbi]at h
    cases h
    unfold av at hbi
    split at hbi
    ·split at hbi
     ·cases hbi;exact .same _ _ _ _
     ·cases hbi
    ·split at hbi
     ·rw[Option.map_eq_some_iff]at hbi
      obtain⟨n,_,hn⟩:=hbi
      cases hn
      exact .same _ _ _ _
     ·cases hbi;exact .same _ _ _ _
     ·cases hbi
    ·rename_i s x heq
     split at hbi
     ·split at hbi
      ·obtain⟨a0,a1,hargs,h0,h1⟩:=hY heq
       unfold aV at hbi
       split at hbi
       ·split at hbi
        ·split at hbi
         ·rename_i l m hl hm
          split at hbi
          ·split at hbi
           ·split at hbi
            ·cases hbi;exact .same _ _ _ _
            ·cases hbi;exact .new _ _ _ _ _
           ·split at hbi
            ·cases hbi;exact .same _ _ _ _
            ·cases hbi;exact .new _ _ _ _ _
           ·rename_i b' i k
            cases hbi
            have hw:ai (.call c) ρ=[b']:=by simp[ai,hcal,hargs,h0,ac]
            refine⟨rfl,fun d hd hn=>?_,fun d hd hl=>?_,fun d hd h0=>?_,fun d hl=>List.mem_cons_of_mem _ hl⟩
            ·rw[aa.get_new,if_neg (fun e=>hd e.symm),aa.get_put,if_neg (by rintro rfl;exact hn (by rw[hw];simp))]
            ·rw[aa.get_new,if_neg (fun e=>hd e.symm),aa.get_put,if_neg (by rintro rfl;exact hl (by simp[aa.put,aa.new]))]
            ·rw[aa.get_new,if_neg (fun e=>hd e.symm),aa.get_put]
             split
             ·rfl
             ·exact h0
           ·cases hbi
          ·cases hbi
         ·cases hbi
        ·cases hbi
       ·cases hbi
      ·cases hbi
     ·cases hbi
    ·split at hbi
     ·cases hbi;exact .same _ _ _ _
     ·cases hbi
    ·split at hbi
     ·cases hbi;exact .same _ _ _ _
     ·cases hbi
    ·rename_i x heq
     split at hbi
     ·rename_i t htt
      cases hcl:b6 P H t x with
      | none=>rw[hcl]at hbi;cases hbi
      | some K1=>
       rw[hcl]at hbi
       cases hbi
       obtain⟨a0,hargs,h0⟩:=hU heq
       unfold b6 at hcl
       split at hcl
       ·split at hcl
        ·split at hcl
         ·cases hcl;exact .same _ _ _ _
         ·rename_i d i k
          split at hcl
          ·rename_i y hy
           split at hcl
           ·cases hcl
            have hw:ai (.call c) ρ=[d]:=by simp[ai,hcal,hargs,h0,ac]
            refine⟨rfl,fun d' hd hn=>?_,fun d' hd hl=>?_,fun d' hd h0=>?_,fun d' hl=>List.mem_cons_of_mem _ hl⟩
            ·rw[aa.get_put,if_neg (by rintro rfl;exact hn (by rw[hw];simp))]
            ·rw[aa.get_put,if_neg (by rintro rfl;exact hl (by simp[aa.put]))]
            ·rw[aa.get_put]
             split
             ·rename_i e;subst e;rw[hy]at h0;cases h0
             ·exact h0
           ·cases hcl
          ·cases hcl
         ·cases hcl
        ·cases hcl
       ·cases hcl
     ·cases hbi
    ·cases hbi
  ·split at h<;>cases h
  ·cases h
 | makeFunc fn first cap=>cases fn<;>simp only[ao]at h<;>(try split at h)<;>cases h<;>exact .same _ _ _ _
 | makeMap t r=>
  cases r with
  | none=>simp only[ao]at h;cases h;exact .new _ _ _ _ _
  | some r=>simp[ao]at h
 | mapUpdate t m k x=>
  simp only[ao]at h
  cases hs:bW P H t (ρ m) (ρ k) (ρ x)with
  | none=>rw[hs]at h;cases h
  | some K=>rw[hs]at h;cases h;obtain⟨c,y,y',hm,hy,rfl,_⟩:=fi hs;exact .put _ hy (by simp[ai,hm,ac])
 | next it s=>
  cases s with
  | false=>simp[ao]at h
  | true=>
   simp only[ao]at h
   cases hs:dg H (ρ it)with
   | none=>rw[hs]at h;cases h
   | some r=>
    obtain⟨v0,K⟩:=r
    rw[hs]at h
    cases h
    obtain⟨c,y,hm,hy,⟨rfl,_⟩ | ⟨y',rfl,_⟩⟩:=jz hs
    ·exact .same _ _ _ _
    ·exact .put _ hy (by simp[ai,hm,ac])
 | buildSlice t len parts=>
  simp only[ao]at h
  split at h
  ·split at h
   ·split at h
    ·rename_i n z _ _ _
     cases hf:bC n (List.replicate len z) (parts.toList.map fun p=>(p.1,ρ p.2))with
     | none=>rw[hf]at h;cases h
     | some rows=>rw[hf]at h;cases h;exact .new _ _ _ _ _
    ·cases h
   ·cases h
  ·cases h
 | _=>
  simp only[ao]at h
  first
   | (obtain⟨_,rfl⟩:=cf h;exact .same _ _ _ _)
   | (repeat' (first | (cases h;exact .same _ _ _ _) | (cases h;exact .new _ _ _ _ _) | (cases h;done) | (obtain⟨_,rfl⟩:=cf h;exact .same _ _ _ _) | split at h))
theorem cl(base mask:Nat):∀(k:Nat) (H:aa),(bj base mask k H).next=H.next∧(bj base mask k H).log=H.log
 | 0,H=>⟨rfl,rfl⟩
 | k+1,H=>by
  unfold bj
  split
  ·exact cl base mask k H
  ·exact cl base mask k _
theorem cY(base mask:Nat):∀(k:Nat) (H:aa) (c:Nat),(bj base mask k H).get c=if(∃j,j<k∧mask.testBit j=false∧c=base+j)then none else H.get c
 | 0,H,c=>by simp[bj]
 | k+1,H,c=>by
  unfold bj
  rw[cY base mask k]
  by_cases h1:∃j,j<k∧mask.testBit j=false∧c=base+j
  ·obtain⟨j,hj⟩:=h1
   rw[if_pos ⟨j,hj⟩,if_pos ⟨j,by omega,hj.2⟩]
  ·rw[if_neg h1]
   by_cases hm:mask.testBit k=true
   ·rw[if_pos hm,if_neg]
    rintro⟨j,hj,hb,hc⟩
    by_cases hjk:j=k
    ·subst hjk;rw[hm]at hb;cases hb
    ·exact h1 ⟨j,by omega,hb,hc⟩
   ·rw[if_neg hm]
    show(H.tr.set (base+k) none).get c=_
    rw[Tr.get_set]
    by_cases hc:base+k=c
    ·rw[if_pos hc,if_pos ⟨k,by omega,by simpa using hm,hc.symm⟩]
    ·rw[if_neg hc,if_neg]
     ·rfl
     rintro⟨j,hj,hb,hc'⟩
     by_cases hjk:j=k
     ·subst hjk;exact hc hc'.symm
     ·exact h1 ⟨j,by omega,hb,hc'⟩
theorem cP(base mask:Nat)(H:aa):∀(k:Nat) (K:aa),(dh base mask H k K).next=K.next∧(dh base mask H k K).log=K.log
 | 0,K=>⟨rfl,rfl⟩
 | k+1,K=>by
  unfold dh
  split
  ·exact cP base mask H k K
  ·exact cP base mask H k _
theorem eT(base mask:Nat)(H:aa):∀(k:Nat) (K:aa) (c:Nat),(dh base mask H k K).get c=if(∃j,j<k∧mask.testBit j=false∧c=base+j)then H.get c else K.get c
 | 0,K,c=>by simp[dh]
 | k+1,K,c=>by
  unfold dh
  rw[eT base mask H k]
  by_cases h1:∃j,j<k∧mask.testBit j=false∧c=base+j
  ·obtain⟨j,hj⟩:=h1
   rw[if_pos ⟨j,hj⟩,if_pos ⟨j,by omega,hj.2⟩]
  ·rw[if_neg h1]
   by_cases hm:mask.testBit k=true
   ·rw[if_pos hm,if_neg]
    rintro⟨j,hj,hb,hc⟩
    by_cases hjk:j=k
    ·subst hjk;rw[hm]at hb;cases hb
    ·exact h1 ⟨j,by omega,hb,hc⟩
   ·rw[if_neg hm]
    show(K.tr.set (base+k) (H.tr.get (base+k))).get c=_
    rw[Tr.get_set]
    by_cases hc:base+k=c
    ·rw[if_pos hc,if_pos ⟨k,by omega,by simpa using hm,hc.symm⟩,←hc];rfl
    ·rw[if_neg hc,if_neg]
     ·rfl
     rintro⟨j,hj,hb,hc'⟩
     by_cases hjk:j=k
     ·subst hjk;exact hc hc'.symm
     ·exact h1 ⟨j,by omega,hb,hc'⟩
structure uE(B:Nat)(W:Nat→Prop)(H H':aa):Prop where
 next:H.next≤H'.next
 dom:∀b,b<B→H.get b=none→H'.get b=none
 keep:∀b,b<B→¬W b→H'.get b=H.get b
 bd:Bd H→Bd H'
theorem uE.refl(B:Nat)(W:Nat→Prop)(H:aa):uE B W H H:=⟨Nat.le_refl _,fun _ _ h=>h,fun _ _ _=>rfl,fun h=>h⟩
theorem uE.trans{B:Nat}{W W':Nat→Prop}{H H' H'':aa}(h:uE B W H H')(k:uE B W' H' H'')(hW:∀b,W b→W' b):uE B W' H H'':=
 ⟨Nat.le_trans h.next k.next,fun b hb h0=>k.dom b hb (h.dom b hb h0),fun b hb hn=>(k.keep b hb hn).trans (h.keep b hb (fun hw=>hn (hW b hw))),fun hb=>k.bd (h.bd hb)⟩
variable {call:FuncId→List AV→aa→Option (AV×aa)} {ops:Array Oper} {base:Nat}
theorem se{o:Op}{ρ:Operand→AV}{b:Nat}{H H':aa}{v:AV}(h:ao P F o ρ b H=some (.val v H'))(hb:b<H.next)(h0:Bd H):Bd H':=by
 have hc:=n9 h
 intro c hcn
 rw[hc.next]at hcn
 exact hc.dom c (by omega) (h0 c hcn)
theorem rv(hc:∀f args H v H',Bd H→call f args H=some (v,H')→kU H H'){B i:Nat}{τ τ':List AV}{H H':aa}(hbd:Bd H)(hB:B≤base)(hlt:base+i<H.next)(h:d8 P F call ops base i τ H=some (τ',H')):uE B (·∈H'.log) H H'∧∀c,c∈H.log→c∈H'.log:=by
 unfold d8 at h
 split at h
 ·cases h
 ·split at h
  ·split at h
   ·rename_i hop
    cases h
    have hcg:=n9 hop
    exact⟨⟨by rw[hcg.next];exact Nat.le_refl _,fun c hcb h0=>hcg.dom c (by omega) h0,fun c hcb hn=>hcg.keepL c (by omega) hn,se hop hlt⟩,hcg.log⟩
   ·split at h
    ·rename_i hcall
     cases h
     have hcg:=hc _ _ _ _ _ hbd hcall
     exact⟨⟨hcg.next,fun c hcb h0=>hcg.dom c (by omega) h0,fun c hcb hn=>hcg.keep c (by omega) hn,hcg.bd⟩,hcg.log⟩
    ·cases h
   ·cases h
  ·cases h;exact⟨.refl _ _ _,fun _ h=>h⟩
  ·cases h
theorem o3(hc:∀f args H v H',Bd H→call f args H=some (v,H')→kU H H'){B:Nat}(hB:B≤base):∀(l:List Nat) (τ τ':List AV) (H H':aa),Bd H→(∀i∈l,base+i<H.next)→fW P F call ops base l τ H=some (τ',H')→
  uE B (·∈H'.log) H H'∧∀c,c∈H.log→c∈H'.log
 | [],τ,τ',H,H',_,_,h=>by cases h;exact⟨.refl _ _ _,fun _ h=>h⟩
 | i::l,τ,τ',H,H',hbd,hl,h=>by
  unfold fW at h
  split at h
  ·rename_i τ1 H1 hs
   obtain⟨h1,l1⟩:=rv hc hbd hB (hl i (by simp)) hs
   obtain⟨h2,l2⟩:=o3 hc hB l _ _ _ _ (h1.bd hbd) (fun j hj=>Nat.lt_of_lt_of_le (hl j (by simp[hj])) h1.next) h
   exact⟨h1.trans h2 l2,fun c hcl=>l2 c (l1 c hcl)⟩
  ·cases h
def touched(r:Option iL)(c:Nat):Prop:=∃x,r=some x∧(c∈x.writes∨c∈x.made∨(x.isCall=true∧x.lo≤c∧c<x.hi))
structure uF(base i:Nat)(H H':aa)(r:Option iL):Prop where
 next:H.next≤H'.next
 log:H'.log=H.log
 keep:Bd H→∀c,¬touched r c→H'.get c=H.get c
 dom:∀c,c<H.next→c≠base+i→H.get c=none→H'.get c=none
 bd:Bd H→Bd H'
 made:∀x,r=some x→(∀c∈x.made,c=base+i)∧(x.isCall=true→x.lo=H.next)
theorem dy(hc:∀f args H v H',Bd H→call f args H=some (v,H')→kU H H'){i mask:Nat}{τ τ':List AV}{H H':aa}{r:Option iL}(hbd:Bd H)(hlt:base+i<H.next)(h:az P F call ops base i mask τ H=some (τ',H',r)):uF base i H H' r:=by
 unfold az at h
 split at h
 ·cases h
 ·rename_i o ho
  split at h
  ·split at h
   ·rename_i v K hop
    cases h
    have hcg:=n9 hop
    refine⟨by show H.next≤K.next;rw[hcg.next];exact Nat.le_refl _,rfl,fun _ c hn=>?_,fun c _ hcb h0=>hcg.dom c hcb h0,fun h0 c hcn=>se hop hlt h0 c hcn,fun x hx=>?_⟩
    ·refine hcg.keep c (fun e=>hn ⟨_,rfl,.inr (.inl (by simp[e]))⟩) (fun hw=>hn ⟨_,rfl,.inl hw⟩)
    ·cases hx;exact⟨by simp,by simp⟩
   ·rename_i f args hop
    split at h
    ·rename_i v K hcall
     cases h
     have hn1:(bj base mask i H).next=H.next:=(cl base mask i H).1
     have hbd1:Bd ({bj base mask i H with log:=[]}:aa):=fun d hd=>by
      show(bj base mask i H).get d=none
      rw[cY]
      split
      ·rfl
      ·exact hbd d (by simp only[hn1]at hd;exact hd)
     have hcg:=hc _ _ _ _ _ hbd1 hcall
     have hn2:=hcg.next
     simp only[hn1]at hn2
     refine⟨by show H.next≤(dh base mask H i K).next;rw[(cP base mask H i K).1];exact hn2,rfl,fun h0 c hn=>?_,fun c hcn hcb h0=>?_,fun h0 c hcn=>?_,fun x hx=>?_⟩
     ·show(dh base mask H i K).get c=H.get c
      rw[eT]
      split
      ·rfl
      ·rename_i hh
       have hg:({bj base mask i H with log:=[]}:aa).get c=H.get c:=by
        show(bj base mask i H).get c=_
        rw[cY,if_neg hh]
       rcases Nat.lt_or_ge c H.next with hcn | hcn
       ·by_cases hl:c∈K.log
        ·cases hgc:(bj base mask i H).get c with
         | none=>
          have h1:({bj base mask i H with log:=[]}:aa).get c=none:=hgc
          rw[hcg.dom c (by simp only[hn1];exact hcn) h1,←hg,h1]
         | some y=>exact absurd ⟨_,rfl,.inl (List.mem_filter.2 ⟨hl,by simp[hgc]⟩)⟩ hn
        ·rw[hcg.keep c (by simp only[hn1];exact hcn) hl];exact hg
       ·rcases Nat.lt_or_ge c K.next with hck | hck
        ·exact absurd ⟨_,rfl,.inr (.inr ⟨rfl,hcn,hck⟩)⟩ hn
        ·have hbd:Bd ({bj base mask i H with log:=[]}:aa):=fun d hd=>by
          show(bj base mask i H).get d=none
          rw[cY]
          split
          ·rfl
          ·exact h0 d (by simp only[hn1]at hd;exact hd)
         rw[hcg.bd hbd c hck,h0 c hcn]
     ·show(dh base mask H i K).get c=none
      rw[eT]
      split
      ·exact h0
      ·rename_i hh
       refine hcg.dom c (by simp only[hn1];exact hcn) ?_
       show(bj base mask i H).get c=none
       rw[cY,if_neg hh]
       exact h0
     ·show(dh base mask H i K).get c=none
      have hcn':K.next≤c:=by
       have:(dh base mask H i K).next≤c:=hcn
       rwa [(cP base mask H i K).1]at this
      rw[eT]
      split
      ·exact h0 c (by omega)
      ·have hbd:Bd ({bj base mask i H with log:=[]}:aa):=fun d hd=>by
        show(bj base mask i H).get d=none
        rw[cY]
        split
        ·rfl
        ·exact h0 d (by simp only[hn1]at hd;exact hd)
       exact hcg.bd hbd c hcn'
     ·cases hx;exact⟨by simp,fun _=>rfl⟩
    ·cases h
   ·cases h
  ·cases h
   exact⟨Nat.le_refl _,rfl,fun _ _ _=>rfl,fun _ _ _ h=>h,fun h=>h,fun x hx=>by cases hx⟩
  ·cases h
theorem j8(hc:∀f args H v H',Bd H→call f args H=some (v,H')→kU H H'){B:Nat}(hB:B≤base){before:List Nat}:∀(l:List Nat) (τ τ':List AV) (H K:aa) (rs rs':List iL),Bd H→(∀i∈l,base+i<H.next)→B≤H.next→
  bI P F call ops base before l τ H rs=some (τ',K,rs')→H.next≤K.next∧K.log=H.log∧Bd K∧(∀b,b<B→H.get b=none→K.get b=none)∧(∀b,b<B→b∉rs'.flatMap (·.writes)→K.get b=H.get b)∧(∀x∈rs,x∈rs')
 | [],τ,τ',H,K,rs,rs',hbd,_,_,h=>by cases h;exact⟨Nat.le_refl _,rfl,hbd,fun _ _ h=>h,fun _ _ _=>rfl,fun _ h=>h⟩
 | i::l,τ,τ',H,K,rs,rs',hbd,hl,hBn,h=>by
  unfold bI at h
  split at h
  ·rename_i τ1 H1 hs
   have d:=dy hc hbd (hl i (by simp)) hs
   obtain⟨a1,a2,a3,a4,a5,a6⟩:=j8 hc hB l _ _ _ _ _ _ (d.bd hbd) (fun j hj=>Nat.lt_of_lt_of_le (hl j (by simp[hj])) d.next) (Nat.le_trans hBn d.next) h
   refine⟨Nat.le_trans d.next a1,a2.trans d.log,a3,fun b hb h0=>a4 b hb (d.dom b (by omega) (by omega) h0),fun b hb hn=>(a5 b hb hn).trans (d.keep hbd b ?_),a6⟩
   rintro⟨x,hx,_⟩
   cases hx
  ·rename_i τ1 H1 r hs
   split at h
   ·have d:=dy hc hbd (hl i (by simp)) hs
    obtain⟨a1,a2,a3,a4,a5,a6⟩:=j8 hc hB l _ _ _ _ _ _ (d.bd hbd) (fun j hj=>Nat.lt_of_lt_of_le (hl j (by simp[hj])) d.next) (Nat.le_trans hBn d.next) h
    refine⟨Nat.le_trans d.next a1,a2.trans d.log,a3,fun b hb h0=>a4 b hb (d.dom b (by omega) (by omega) h0),fun b hb hn=>(a5 b hb hn).trans (d.keep hbd b ?_),fun x hx=>a6 x (by simp[hx])⟩
    rintro⟨x,hx,h1 | h1 | ⟨h1,h2,_⟩⟩
    ·cases hx
     exact hn (List.mem_flatMap.2 ⟨r,a6 r (by simp),h1⟩)
    ·have:=(d.made x hx).1 b h1;omega
    ·have:=(d.made x hx).2 h1;omega
   ·cases h
  ·cases h
theorem qe(hc:∀f args H v H',Bd H→call f args H=some (v,H')→kU H H'){draw:Bool}{τ τ':List AV}{H H':aa}(hbd:Bd H)(h:cg P F call ops draw τ H=some (τ',H')):kU H H':=by
 have hbd0:Bd {H with next:=H.next+ops.size}:=fun b hb=>hbd b (Nat.le_trans (Nat.le_add_right _ _) hb)
 cases draw with
 | false=>
  simp only[cg,Bool.false_eq_true,if_false]at h
  obtain⟨o,l⟩:=o3 hc (Nat.le_refl H.next) _ _ _ _ _ hbd0 (fun i hi=>by rw[List.mem_range]at hi;exact Nat.add_lt_add_left hi _) h
  exact⟨Nat.le_trans (Nat.le_add_right _ _) o.next,o.dom,o.keep,l,fun _=>o.bd hbd0⟩
 | true=>
  simp only[cg,if_true]at h
  split at h
  ·rename_i τ1 K rs hd
   cases h
   obtain⟨a1,a2,a3,a4,a5,_⟩:=j8 hc (Nat.le_refl H.next) _ _ _ _ _ _ _ hbd0 (fun i hi=>by rw[List.mem_range]at hi;exact Nat.add_lt_add_left hi _) (Nat.le_add_right _ _) hd
   refine⟨Nat.le_trans (Nat.le_add_right _ _) a1,a4,fun b hb hn=>a5 b hb (fun hw=>hn ?_),fun b hb=>?_,fun _=>a3⟩
   ·simp only[List.mem_append];exact .inl hw
   ·simp only[List.mem_append];right;rw[a2];exact hb
  ·cases h
theorem lU{ex:Code→List AV→aa→Option (Ex×List AV×aa)}(h:∀c τ H e τ' H',Bd H→ex c τ H=some (e,τ',H')→kU H H'){f:FuncId}{args:List AV}{H:aa}{v:AV}{H':aa}(hbd:Bd H)
  (hc:gu P ex f args H=some (v,H')):kU H H':=by
 unfold gu at hc
 split at hc
 ·split at hc
  ·split at hc
   ·cases hc
   ·rename_i e τ' K hne hex
    split at hc
    ·cases hc
     have hk:=h _ _ {H with log:=[]} _ _ _ hbd hex
     refine⟨hk.next,hk.dom,fun b hb hn=>hk.keep b hb (fun hl=>hn ?_),fun b hb=>?_,fun _=>hk.bd hbd⟩
     ·simp only[List.mem_append,List.mem_filter,decide_eq_true_eq];exact .inl ⟨hl,hb⟩
     ·simp only[List.mem_append];exact .inr hb
    ·cases hc
   ·cases hc
  ·cases hc
 ·cases hc
end
end Go.Proofs.YtelgfgfgghpjgaaGreatDoor.Am
end
section
namespace Go.Proofs.YtelgfgfgghpjgaaGreatDoor.Am
set_option linter.unusedVariables false
def aE:Op→List Operand
 | .move x | .assign x | .box _ x | .load _ x | .nilCheck x | .unOp _ _ x | .convert _ _ x | .fieldAddr _ x _ | .field _ x _ | .extract x _=>[x]
 | .pick c a b=>[c,a,b]
 | .build _ ps | .buildSlice _ _ ps=>ps.toList.map (·.2)
 | .store _ a v | .binOp _ _ a v _ | .makeSlice _ a v | .indexAddr _ a v | .index _ a v=>[a,v]
 | .makeFunc _ _ c=>c.toList
 | .lookup _ m k _=>[m,k]
 | .mapUpdate _ m k x=>[m,k,x]
 | .range _ x | .next x _=>[x]
 | .slice _ x l h m=>x::(l.toList++h.toList++m.toList)
 | .call c=>(match c.callee with | .value f=>[f] | _=>[])++c.args.toList
 | _=>[]
section
variable {P:Program} {F:TypeId→Option (List TypeId)}
theorem qJ{ρ ρ2:Operand→AV}{l:List Operand}(h:∀x∈l,ρ x=ρ2 x):l.map ρ=l.map ρ2:=List.map_congr_left h
theorem nG{ρ ρ2:Operand→AV}{ps:List (Nat×Operand)}(h:∀x∈ps.map (·.2),ρ x=ρ2 x):(ps.map fun p=>(p.1,ρ p.2))=ps.map fun p=>(p.1,ρ2 p.2):=
 List.map_congr_left fun p hp=>by rw[h p.2 (List.mem_map.2 ⟨p,hp,rfl⟩)]
theorem gz{ρ ρ2:Operand→AV}:∀{l:List Operand},(∀x∈l,ρ x=ρ2 x)→(l.flatMap fun x=>ac (ρ x))=l.flatMap fun x=>ac (ρ2 x)
 | [],_=>rfl
 | a::l,h=>by simp only[List.flatMap_cons];rw[h a (by simp),gz fun x hx=>h x (by simp[hx])]
theorem qK{o:Op}{ρ ρ2:Operand→AV}(h:∀x∈aE o,ρ x=ρ2 x)(b:Nat)(H:aa):ao P F o ρ b H=ao P F o ρ2 b H∧ak o ρ=ak o ρ2∧ai o ρ=ai o ρ2:=by
 cases o with
 | build t ps=>refine⟨?_,rfl,rfl⟩;simp only[ao];rw[nG h]
 | buildSlice t n ps=>refine⟨?_,rfl,rfl⟩;simp only[ao];rw[nG h]
 | makeFunc fn first c=>
  refine⟨?_,rfl,rfl⟩
  cases fn<;>simp only[ao]
  rw[qJ (l:=c.toList) h]
 | slice t x l hi m=>
  have hx:=h x (by simp[aE])
  have hl:l.map ρ=l.map ρ2:=by cases l with
   | none=>rfl
   | some y=>simp[h y (by simp[aE])]
  have hh:hi.map ρ=hi.map ρ2:=by cases hi with
   | none=>rfl
   | some y=>simp[h y (by simp[aE])]
  have hm:m.map ρ=m.map ρ2:=by cases m with
   | none=>rfl
   | some y=>simp[h y (by simp[aE])]
  exact⟨by simp only[ao];rw[hx,hl,hh,hm],by simp only[ak];rw[hx],rfl⟩
 | call c=>
  have ha:c.args.toList.map ρ=c.args.toList.map ρ2:=qJ fun x hx=>h x (by simp only[aE,List.mem_append];exact .inr hx)
  have hm:∀x∈c.args.toList,ρ x=ρ2 x:=fun x hx=>h x (by simp only[aE,List.mem_append];exact .inr hx)
  have hr:ak (.call c) ρ=ak (.call c) ρ2:=by
   simp only[ak]
   split
   ·exact gz hm
   ·exact gz hm
   ·rfl
  have hk:ai (.call c) ρ=ai (.call c) ρ2:=by
   simp only[ai]
   split
   ·exact gz fun x hx=>hm x (List.mem_of_mem_take hx)
   ·exact gz hm
   ·rfl
  refine⟨?_,hr,hk⟩
  simp only[ao]
  split
  ·rw[ha]
  ·rename_i f hf
   rw[h f (by simp only[aE,hf];simp),ha]
  ·rfl
 | store t a v=>refine⟨by simp only[ao];rw[h a (by simp[aE]),h v (by simp[aE])],by simp only[ak];rw[h a (by simp[aE])],by simp only[ai];rw[h a (by simp[aE])]⟩
 | load t a=>refine⟨by simp only[ao];rw[h a (by simp[aE])],by simp only[ak];rw[h a (by simp[aE])],rfl⟩
 | indexAddr t a v=>refine⟨by simp only[ao];rw[h a (by simp[aE]),h v (by simp[aE])],by simp only[ak];rw[h a (by simp[aE])],rfl⟩
 | pick c x y=>refine⟨by simp only[ao];rw[h c (by simp[aE]),h x (by simp[aE]),h y (by simp[aE])],rfl,rfl⟩
 | binOp op t x y u=>refine⟨by simp only[ao];rw[h x (by simp[aE]),h y (by simp[aE])],rfl,rfl⟩
 | makeSlice t x y=>refine⟨by simp only[ao];rw[h x (by simp[aE]),h y (by simp[aE])],rfl,rfl⟩
 | index t x y=>refine⟨by simp only[ao];rw[h x (by simp[aE]),h y (by simp[aE])],rfl,rfl⟩
 | move x=>refine⟨by simp only[ao];rw[h x (by simp[aE])],rfl,rfl⟩
 | assign x=>refine⟨by simp only[ao];rw[h x (by simp[aE])],rfl,rfl⟩
 | box t x=>refine⟨by simp only[ao];rw[h x (by simp[aE])],rfl,rfl⟩
 | nilCheck x=>refine⟨by simp only[ao];rw[h x (by simp[aE])],rfl,rfl⟩
 | unOp op t x=>refine⟨by simp only[ao];rw[h x (by simp[aE])],rfl,rfl⟩
 | convert s d x=>refine⟨by simp only[ao];rw[h x (by simp[aE])],rfl,rfl⟩
 | fieldAddr s x f=>refine⟨by simp only[ao];rw[h x (by simp[aE])],rfl,rfl⟩
 | field s x f=>refine⟨by simp only[ao];rw[h x (by simp[aE])],rfl,rfl⟩
 | extract x i=>refine⟨by simp only[ao];rw[h x (by simp[aE])],rfl,rfl⟩
 | makeMap t r=>cases r<;>exact⟨rfl,rfl,rfl⟩
 | lookup t m k ok=>exact⟨by simp only[ao];rw[h m (by simp[aE]),h k (by simp[aE])],by simp only[ak];rw[h m (by simp[aE])],rfl⟩
 | mapUpdate t m k x=>exact⟨by simp only[ao];rw[h m (by simp[aE]),h k (by simp[aE]),h x (by simp[aE])],by simp only[ak];rw[h m (by simp[aE])],by simp only[ai];rw[h m (by simp[aE])]⟩
 | range t x=>exact⟨by simp only[ao];rw[h x (by simp[aE])],rfl,rfl⟩
 | next it s=>cases s<;>exact⟨by simp only[ao]<;>rw[h it (by simp[aE])],by simp only[ak];rw[h it (by simp[aE])],by simp only[ai];rw[h it (by simp[aE])]⟩
 | _=>exact⟨rfl,rfl,rfl⟩
def jD(P:Program)(F:TypeId→Option (List TypeId))(o:Op)(ρ:Operand→AV)(b:Nat)(v:AV)(H' K:aa):Prop:=
 ∃K',ao P F o ρ b K=some (.val v K')∧K'.next=K.next∧∀c,K'.get c=if c∈ai o ρ∨c=b then H'.get c else K.get c
theorem jD.same{o:Op}{ρ:Operand→AV}{b:Nat}{v:AV}{H K:aa}(hb:K.get b=H.get b)(hw:ai o ρ=[])(h:ao P F o ρ b K=some (.val v K)):jD P F o ρ b v H K:=by
 refine⟨K,h,rfl,fun c=>?_⟩
 rw[hw]
 split
 ·rename_i hc
  rcases hc with hc | hc
  ·simp at hc
  ·rw[hc];exact hb
 ·rfl
theorem jD.new{o:Op}{ρ:Operand→AV}{b:Nat}{v:AV}{H K:aa}{x:Blk}(hw:ai o ρ=[])(h:ao P F o ρ b K=some (.val v (K.new b x))):jD P F o ρ b v (H.new b x) K:=by
 refine⟨_,h,rfl,fun c=>?_⟩
 rw[hw,aa.get_new,aa.get_new]
 by_cases hc:b=c
 ·rw[if_pos hc,if_pos hc,if_pos (.inr hc.symm)]
 ·rw[if_neg hc,if_neg]
  rintro(h1 | h1)
  ·simp at h1
  ·exact hc h1.symm
theorem jD.put{o:Op}{ρ:Operand→AV}{b q:Nat}{v:AV}{H K:aa}{x:Blk}(hb:K.get b=H.get b)(hw:ai o ρ=[q])(h:ao P F o ρ b K=some (.val v (K.put q (some x)))):jD P F o ρ b v (H.put q (some x)) K:=by
 refine⟨_,h,rfl,fun d=>?_⟩
 rw[hw,aa.get_put,aa.get_put]
 by_cases hd:q=d
 ·rw[if_pos hd,if_pos hd,if_pos (.inl (by simp[hd]))]
 ·rw[if_neg hd,if_neg hd]
  split
  ·rename_i hc
   rcases hc with hc | hc
   ·simp at hc;exact absurd hc.symm hd
   ·rw[hc];exact hb
  ·rfl
theorem jD.sameW{o:Op}{ρ:Operand→AV}{b q:Nat}{v:AV}{H K:aa}(hb:K.get b=H.get b)(hw:ai o ρ=[q])(hq:K.get q=H.get q)(h:ao P F o ρ b K=some (.val v K)):jD P F o ρ b v H K:=by
 refine⟨K,h,rfl,fun c=>?_⟩
 rw[hw]
 split
 ·rename_i hc
  rcases hc with hc | hc
  ·simp at hc;rw[hc];exact hq
  ·rw[hc];exact hb
 ·rfl
theorem jE{H K:aa}{n:Nat}{x:AV}(hr:∀c∈ac x,K.get c=H.get c):ch K n x=ch H n x:=by
 cases x<;>simp only[ch]
 rw[hr _ (by simp[ac])]
theorem o4{H K:aa}{x:AV}(hr:∀c∈dV x,K.get c=H.get c):ff K x=ff H x:=by
 cases x<;>simp only[ff]
 rw[hr _ (by simp[dV])]
theorem rx{o:Op}{ρ:Operand→AV}{b:Nat}{v:AV}{H H':aa}(h:ao P F o ρ b H=some (.val v H'))(K:aa)(hr:∀c∈ak o ρ,K.get c=H.get c)(hb:K.get b=H.get b):jD P F o ρ b v H' K:=by
 cases o with
 | load t a=>
  simp only[ao]at h
  obtain⟨h1,rfl⟩:=cf h
  refine .same hb rfl ?_
  have:fN P K t (ρ a)=fN P H' t (ρ a):=by
   simp only[ak]at hr
   generalize ρ a=x at hr
   cases x<;>simp only[fN]
   rw[hr _ (by simp[ac])]
  simp only[ao,this,h1,Option.map_some]
 | indexAddr t x ix=>
  simp only[ao]at h
  obtain⟨h1,rfl⟩:=cf h
  refine .same hb rfl ?_
  have:bx P (ff K (ρ x)) t (ρ x) (ρ ix)=some v:=by
   rw[o4 hr]
   exact h1
  simp only[ao,this,Option.map_some]
 | slice t x lo hi mx=>
  simp only[ao]at h
  split at h
  ·cases h
  ·rename_i hcnd
   obtain⟨h1,rfl⟩:=cf h
   refine .same hb rfl ?_
   have:eh P (ff K (ρ x)) t (ρ x) (lo.map ρ) (hi.map ρ) (mx.map ρ)=some v:=by
    rw[o4 hr]
    exact h1
   simp only[ao,this,Option.map_some]
   rw[if_neg hcnd]
 | store t a x=>
  simp only[ao]at h
  cases hst:cq P H t (ρ a) (ρ x)with
  | none=>rw[hst]at h;cases h
  | some H1=>
   rw[hst]at h
   cases h
   simp only[ak]at hr
   have hst2:=hst
   unfold cq at hst
   split at hst
   ·rename_i c i off cs n ha hcs hn
    rw[ha]at hr
    have hkc:=hr c (by simp[ac])
    split at hst
    ·rename_i y hy
     split at hst
     ·rename_i r hrw
      split at hst
      ·rename_i hcond
       cases hst
       refine⟨K.put c (some {y with rows:=y.rows.set i (aP r off cs)}),?_,rfl,fun d=>?_⟩
       ·simp only[ao,cq,ha,hcs,hn,hkc,hy,hrw]
        rw[if_pos hcond]
        rfl
       ·have hw:ai (.store t a x) ρ=[c]:=by simp[ai,ha,ac]
        rw[hw,aa.get_put,aa.get_put]
        by_cases hd:c=d
        ·rw[if_pos hd,if_pos hd,if_pos (.inl (by simp[hd]))]
        ·rw[if_neg hd,if_neg hd]
         split
         ·rename_i hc
          rcases hc with hc | hc
          ·simp at hc;exact absurd hc.symm hd
          ·rw[hc];exact hb
         ·rfl
      ·cases hst
     ·cases hst
    ·cases hst
   ·cases hst
 | call c=>
  simp only[ao]at h
  split at h
  ·rename_i bi hcal
   cases hbi:av P H b bi c.argTypes (c.args.toList.map ρ)with
   | none=>rw[hbi]at h;cases h
   | some r=>
    obtain⟨v0,H1⟩:=r
    rw[hbi]at h
    cases h
    have fin:∀{K':aa} {u:AV},av P K b bi c.argTypes (c.args.toList.map ρ)=some (u,K')→ao P F (.call c) ρ b K=some (.val u K'):=fun hk=>by
     simp only[ao,hcal,hk,Option.map_some]
    have wnil:bi≠.append∧bi≠.clear→ai (.call c) ρ=[]:=fun hne=>by
     simp only[ai,hcal]
     cases bi<;>first | rfl | exact absurd rfl hne.1 | exact absurd rfl hne.2
    have hbi0:=hbi
    unfold av at hbi
    split at hbi
    ·rename_i s heq
     split at hbi
     ·rename_i hty
      cases hbi
      exact .same hb (wnil (by simp)) (fin (by rw[heq];simp only[av,hty]))
     ·cases hbi
    ·rename_i x hne heq
     have e:H1=H:=by
      split at hbi
      ·rw[Option.map_eq_some_iff]at hbi
       obtain⟨n,_,hn⟩:=hbi
       cases hn
       rfl
      ·cases hbi;rfl
      ·cases hbi
     subst e
     refine .same hb (wnil (by simp)) (fin ?_)
     rw[heq]
     unfold av
     split
     ·rename_i s e1 e2;cases e2;exact absurd rfl (hne s)
     ·rename_i x' hne' e1 e2
      cases e2
      split at hbi
      ·rw[Option.map_eq_some_iff]at hbi
       obtain⟨n,hl,hn⟩:=hbi
       cases hn
       simp only[hl,Option.map_some]
      ·cases hbi;rfl
      ·cases hbi
     ·rename_i e1 e2;cases e2
     ·rename_i e1 e2;cases e2
     ·rename_i e1 e2;cases e2
     ·rename_i e1 e2;cases e1
     ·rename_i e1 e2 e3 e4 e5 e6;simp_all
    ·rename_i s x heq
     obtain⟨a0,a1,hargs,h0,h1⟩:=hY heq
     split at hbi
     ·rename_i t tx htt
      split at hbi
      ·rename_i e' hu'
       have hrs:∀c'∈ac s,K.get c'=H.get c':=fun c' hc'=>hr c' (by simp[ak,hcal,hargs,h0,hc'])
       have hrx:∀c'∈ac x,K.get c'=H.get c':=fun c' hc'=>hr c' (by simp[ak,hcal,hargs,h1,hc'])
       have red:∀{K':aa} {u:AV},aV P K b t s x=some (u,K')→av P K b .append c.argTypes (c.args.toList.map ρ)=some (u,K'):=fun hk=>by
        rw[heq]
        simp only[av,htt,hu',hk]
       unfold aV at hbi
       split at hbi
       ·rename_i e hu
        split at hbi
        ·rename_i n by_ z hn hby hz
         split at hbi
         ·rename_i l m hl hm
          have hl':ch K n s=some l:=by rw[jE hrs];exact hl
          have hm':ch K n x=some m:=by rw[jE hrx];exact hm
          split at hbi
          ·rename_i hcond
           split at hbi
           ·split at hbi
            ·rename_i hm0
             cases hbi
             refine .same hb (by simp[ai,hcal,hargs,h0,ac]) (fin (red ?_))
             simp only[aV,hu,hn,hby,hz,hl',hm']
             rw[if_pos hcond,if_pos hm0]
            ·rename_i hm0
             cases hbi
             refine .new (by simp[ai,hcal,hargs,h0,ac]) (fin (red ?_))
             simp only[aV,hu,hn,hby,hz,hl',hm']
             rw[if_pos hcond,if_neg hm0]
           ·split at hbi
            ·rename_i hm0
             cases hbi
             refine .same hb (by simp[ai,hcal,hargs,h0,ac]) (fin (red ?_))
             simp only[aV,hu,hn,hby,hz,hl',hm']
             rw[if_pos hcond,if_pos hm0]
            ·rename_i hm0
             cases hbi
             refine .new (by simp[ai,hcal,hargs,h0,ac]) (fin (red ?_))
             simp only[aV,hu,hn,hby,hz,hl',hm']
             rw[if_pos hcond,if_neg hm0]
           ·rename_i b' i k
            cases hbi
            have hw:ai (.call c) ρ=[b']:=by simp[ai,hcal,hargs,h0,ac]
            refine⟨(K.put b' none).new b ⟨n,l++m⟩,fin (red ?_),rfl,fun d=>?_⟩
            ·simp only[aV,hu,hn,hby,hz,hl',hm']
             rw[if_pos hcond]
            ·rw[hw,aa.get_new,aa.get_new,aa.get_put,aa.get_put]
             by_cases hd:b=d
             ·rw[if_pos hd,if_pos hd,if_pos (.inr hd.symm)]
             ·rw[if_neg hd,if_neg hd]
              by_cases hd':b'=d
              ·rw[if_pos hd',if_pos hd',if_pos (.inl (by simp[hd']))]
              ·rw[if_neg hd',if_neg hd',if_neg]
               rintro(h1 | h1)
               ·simp at h1;exact hd' h1.symm
               ·exact hd h1.symm
           ·cases hbi
          ·cases hbi
         ·cases hbi
        ·cases hbi
       ·cases hbi
      ·cases hbi
     ·cases hbi
    ·rename_i k a k' c' heq
     split at hbi
     ·rename_i hk;cases hbi;exact .same hb (wnil (by simp)) (fin (by rw[heq];simp only[av];rw[if_pos hk]))
     ·cases hbi
    ·rename_i k a k' c' heq
     split at hbi
     ·rename_i hk;cases hbi;exact .same hb (wnil (by simp)) (fin (by rw[heq];simp only[av];rw[if_pos hk]))
     ·cases hbi
    ·rename_i x heq
     split at hbi
     ·rename_i t htt
      cases hcl:b6 P H t x with
      | none=>rw[hcl]at hbi;cases hbi
      | some K1=>
       rw[hcl]at hbi
       cases hbi
       obtain⟨a0,hargs,h0⟩:=hU heq
       have red:∀{K':aa},b6 P K t x=some K'→av P K b .clear c.argTypes (c.args.toList.map ρ)=some (.tup [],K'):=fun hk=>by
        rw[heq]
        simp only[av,htt,hk,Option.map_some]
       unfold b6 at hcl
       split at hcl
       ·rename_i e hu
        split at hcl
        ·rename_i n z hn hz
         split at hcl
         ·cases hcl
          exact .same hb (by simp[ai,hcal,hargs,h0,ac]) (fin (red (by simp only[b6,hu,hn,hz])))
         ·rename_i d i k
          split at hcl
          ·rename_i y hy
           split at hcl
           ·rename_i hcond
            cases hcl
            have hkd:K.get d=some y:=by rw[hr d (by simp[ak,hcal,hargs,h0,ac])];exact hy
            have hw:ai (.call c) ρ=[d]:=by simp[ai,hcal,hargs,h0,ac]
            refine⟨K.put d (some {y with rows:=y.rows.take i++List.replicate k z++y.rows.drop (i+k)}),fin (red ?_),rfl,fun q=>?_⟩
            ·simp only[b6,hu,hn,hz,hkd]
             rw[if_pos hcond]
            ·rw[hw,aa.get_put,aa.get_put]
             by_cases hd:d=q
             ·rw[if_pos hd,if_pos hd,if_pos (.inl (by simp[hd]))]
             ·rw[if_neg hd,if_neg hd]
              split
              ·rename_i hc
               rcases hc with hc | hc
               ·simp at hc;exact absurd hc.symm hd
               ·rw[hc];exact hb
              ·rfl
           ·cases hcl
          ·cases hcl
         ·cases hcl
        ·cases hcl
       ·cases hcl
     ·cases hbi
    ·cases hbi
  ·split at h<;>cases h
  ·cases h
 | alloc t=>
  simp only[ao]at h
  split at h
  ·rename_i cs hcs;cases h;exact .new rfl (by simp only[ao,hcs])
  ·cases h
 | box t x=>
  simp only[ao]at h
  split at h
  ·rename_i cs hcs
   split at h
   ·rename_i ho;cases h;exact .new rfl (by simp only[ao,hcs];rw[if_pos ho])
   ·cases h
  ·cases h
 | buildSlice t len parts=>
  simp only[ao]at h
  split at h
  ·rename_i e hu
   split at h
   ·rename_i n z hn hz
    split at h
    ·rename_i hc
     cases hf:bC n (List.replicate len z) (parts.toList.map fun p=>(p.1,ρ p.2))with
     | none=>rw[hf]at h;cases h
     | some rows=>rw[hf]at h;cases h;exact .new rfl (by simp only[ao,hu,hn,hz];rw[if_pos hc,hf];rfl)
    ·cases h
   ·cases h
  ·cases h
 | makeSlice t l c=>
  simp only[ao]at h
  split at h
  ·rename_i e hu
   split at h
   ·rename_i n by_ z l' c' hn hby hz hl hc
    split at h
    ·rename_i hcond;cases h;exact .new rfl (by simp only[ao,hu,hn,hby,hz,hl,hc];rw[if_pos hcond])
    ·cases h
   ·cases h
  ·cases h
 | makeFunc fn first cap=>
  cases fn<;>simp only[ao]at h<;>(try (cases h;done))
  split at h
  ·rename_i hf;cases h;exact .same hb rfl (by simp only[ao];rw[if_pos hf])
  ·cases h
 | pick c x y=>
  simp only[ao]at h
  split at h
  ·rename_i t hc;cases h;exact .same hb rfl (by simp only[ao,hc])
  ·cases h
 | nilCheck x=>
  simp only[ao]at h
  split at h<;>(try (cases h;done))<;>(rename_i heq;cases h;exact .same hb rfl (by simp only[ao,heq]))
 | extract x i=>
  simp only[ao]at h
  split at h
  ·rename_i vs hx
   obtain⟨h1,rfl⟩:=cf h
   exact .same hb rfl (by simp only[ao,hx,h1];rfl)
  ·cases h
 | makeMap t r=>
  cases r with
  | none=>simp only[ao]at h;cases h;exact .new rfl rfl
  | some r=>simp[ao]at h
 | lookup t m k ok=>
  simp only[ao]at h
  obtain⟨h1,rfl⟩:=cf h
  obtain⟨c,x,hm,hx,hK⟩:=lQ h1
  refine .same hb rfl ?_
  simp only[ao]
  rw[hK K (by rw[hr c (by simp[ak,hm,ac]),hx])]
  rfl
 | mapUpdate t m k x=>
  simp only[ao]at h
  cases hs:bW P H t (ρ m) (ρ k) (ρ x)with
  | none=>rw[hs]at h;cases h
  | some H2=>
   rw[hs]at h
   cases h
   obtain⟨c,y,y',hm,hy,rfl,hK⟩:=fi hs
   refine .put hb (by simp[ai,hm,ac]) ?_
   simp only[ao]
   rw[hK K (by rw[hr c (by simp[ak,hm,ac]),hy])]
   rfl
 | range t x=>
  simp only[ao]at h
  split at h
  ·rename_i s hu hx
   cases h
   exact .new rfl (by simp only[ao,hu,hx])
  ·cases h
 | next it s=>
  cases s with
  | false=>simp[ao]at h
  | true=>
   simp only[ao]at h
   cases hs:dg H (ρ it)with
   | none=>rw[hs]at h;cases h
   | some r=>
    obtain⟨v0,H2⟩:=r
    rw[hs]at h
    cases h
    obtain⟨c,y,hm,hy,⟨rfl,hK⟩ | ⟨y',rfl,hK⟩⟩:=jz hs
    ·have hc:=hr c (by simp[ak,hm,ac])
     refine .sameW (q:=c) hb (by simp[ai,hm,ac]) hc ?_
     simp only[ao]
     rw[hK K (by rw[hc,hy])]
     rfl
    ·have hc:=hr c (by simp[ak,hm,ac])
     refine .put hb (by simp[ai,hm,ac]) ?_
     simp only[ao]
     rw[hK K (by rw[hc,hy])]
     rfl
 | move x=>simp only[ao]at h;cases h;exact .same hb rfl (by simp only[ao])
 | assign x=>simp only[ao]at h;cases h;exact .same hb rfl (by simp only[ao])
 | build t ps=>simp only[ao]at h;obtain⟨h1,rfl⟩:=cf h;exact .same hb rfl (by simp only[ao,h1];rfl)
 | binOp op t x y u=>simp only[ao]at h;obtain⟨h1,rfl⟩:=cf h;exact .same hb rfl (by simp only[ao,h1];rfl)
 | unOp op t x=>simp only[ao]at h;obtain⟨h1,rfl⟩:=cf h;exact .same hb rfl (by simp only[ao,h1];rfl)
 | convert s d x=>simp only[ao]at h;obtain⟨h1,rfl⟩:=cf h;exact .same hb rfl (by simp only[ao,h1];rfl)
 | fieldAddr s x f=>simp only[ao]at h;obtain⟨h1,rfl⟩:=cf h;exact .same hb rfl (by simp only[ao,h1];rfl)
 | field s x f=>simp only[ao]at h;obtain⟨h1,rfl⟩:=cf h;exact .same hb rfl (by simp only[ao,h1];rfl)
 | index t x y=>simp only[ao]at h;obtain⟨h1,rfl⟩:=cf h;exact .same hb rfl (by simp only[ao,h1];rfl)
 | _=>simp[ao]at h
theorem lV{o:Op}{ρ:Operand→AV}{b:Nat}{g:FuncId}{args:List AV}{H:aa}(h:ao P F o ρ b H=some (.call g args))(K:aa):ao P F o ρ b K=some (.call g args):=by
 cases o with
 | call c=>
  simp only[ao]at h ⊢
  split at h
  ·rename_i bi _
   cases hbi:av P H b bi c.argTypes (c.args.toList.map ρ)with
   | none=>rw[hbi]at h;cases h
   | some r=>rw[hbi]at h;cases h
  ·rename_i f hf
   exact h
  ·cases h
 | makeFunc fn first cap=>cases fn<;>simp only[ao]at h<;>(try split at h)<;>simp at h
 | makeMap t r=>cases r<;>simp[ao]at h
 | next it s=>cases s<;>simp[ao]at h
 | _=>
  exfalso
  simp only[ao]at h
  repeat' (first | (cases h;done) | (simp at h;done) | split at h)
end
end Go.Proofs.YtelgfgfgghpjgaaGreatDoor.Am
end
section
namespace Go.Proofs.YtelgfgfgghpjgaaGreatDoor.Am
set_option linter.unusedVariables false
theorem o5(f:Edge→Nat)(p:Edge→Bool)(k:Nat):∀(l:List Edge) (s:Nat),(l.foldl (fun s e=>if p e then s ||| f e else s) s).testBit k=true→s.testBit k=true∨∃e∈l,p e=true∧(f e).testBit k=true
 | [],s,h=>.inl h
 | e::l,s,h=>by
  rw[List.foldl_cons]at h
  rcases o5 f p k l _ h with h1 | ⟨e',h1,h2⟩
  ·split at h1
   ·rename_i hp
    rw[Nat.testBit_or,Bool.or_eq_true]at h1
    rcases h1 with h1 | h1
    ·exact .inl h1
    ·exact .inr ⟨e,by simp,hp,h1⟩
   ·exact .inl h1
  ·exact .inr ⟨e',by simp[h1],h2⟩
def i5(acc:List Nat)(o:Oper):Nat:=o.after.toList.foldl (fun s e=>if Region.binds .any e then s ||| 2^e.on ||| acc.getD e.on 0 else s) 0
theorem qf{acc:List Nat}{o:Oper}{k:Nat}(h:(i5 acc o).testBit k=true):∃e∈o.after.toList,Region.binds .any e=true∧(k=e.on∨(acc.getD e.on 0).testBit k=true):=by
 have hf:i5 acc o=o.after.toList.foldl (fun s e=>if Region.binds .any e then s ||| (2^e.on ||| acc.getD e.on 0)else s) 0:=by
  unfold i5
  congr 1
  funext s e
  split
  ·rw[Nat.or_assoc]
  ·rfl
 rw[hf]at h
 rcases o5 (fun e=>2^e.on ||| acc.getD e.on 0) (Region.binds .any) k _ _ h with h1 | ⟨e,h1,h2,h3⟩
 ·simp at h1
 ·refine⟨e,h1,h2,?_⟩
  rw[Nat.testBit_or,Bool.or_eq_true]at h3
  rcases h3 with h3 | h3
  ·rw[Nat.testBit_two_pow]at h3
   exact .inl (by have h4:=h3;simp at h4;exact h4.symm)
  ·exact .inr h3
theorem lW:∀(l:List Oper) (acc:List Nat),acc.length+l.length=(aH l acc).length∧(∀i,i<acc.length→(aH l acc).getD i 0=acc.getD i 0)∧
  ∀(i:Nat) (o:Oper),l[i]? =some o→∃acc',(aH l acc).getD (acc.length+i) 0=i5 acc' o∧(∀j,acc'.getD j 0=(aH l acc).getD j 0∨acc'.getD j 0=0)∧(∀j,acc.length+i≤j→acc'.getD j 0=0)
 | [],acc=>by simp[aH]
 | o::l,acc=>by
  obtain⟨h1,h2,h3⟩:=lW l (acc++[i5 acc o])
  have hm:aH (o::l) acc=aH l (acc++[i5 acc o]):=rfl
  rw[hm]
  simp only[List.length_append,List.length_singleton]at h1 h2 h3
  have keep:∀i,i<acc.length→(aH l (acc++[i5 acc o])).getD i 0=acc.getD i 0:=fun i hi=>by
   rw[h2 i (by omega)]
   simp[List.getD,List.getElem?_append_left hi]
  refine⟨by simp;omega,keep,fun i q hq=>?_⟩
  match i with
  | 0=>
   simp only[List.getElem?_cons_zero,Option.some.injEq]at hq
   subst hq
   refine⟨acc,?_,fun j=>?_,fun j hj=>?_⟩
   ·rw[Nat.add_zero,h2 acc.length (by omega)]
    simp[List.getD]
   ·rcases Nat.lt_or_ge j acc.length with hj | hj
    ·exact .inl (keep j hj).symm
    ·exact .inr (by simp[List.getD,List.getElem?_eq_none hj])
   ·simp[List.getD,List.getElem?_eq_none (show acc.length≤j by omega)]
  | i+1=>
   simp only[List.getElem?_cons_succ]at hq
   obtain⟨acc',g1,g2,g3⟩:=h3 i q hq
   exact⟨acc',by rw[←g1];congr 1;omega,g2,fun j hj=>g3 j (by omega)⟩
theorem ry{ops:Array Oper}{i:Nat}{o:Oper}(ho:ops[i]? =some o){k:Nat}(h:((aH ops.toList []).getD i 0).testBit k=true):
  ∃e∈o.after.toList,Region.binds .any e=true∧(k=e.on∨(e.on<i∧((aH ops.toList []).getD e.on 0).testBit k=true)):=by
 obtain⟨_,_,h3⟩:=lW ops.toList []
 obtain⟨acc',g1,g2,g3⟩:=h3 i o (by rw[Array.getElem?_toList];exact ho)
 simp only[List.length_nil,Nat.zero_add]at g1 g3
 rw[g1]at h
 obtain⟨e,e1,e2,e3⟩:=qf h
 refine⟨e,e1,e2,?_⟩
 rcases e3 with e3 | e3
 ·exact .inl e3
 ·right
  rcases Nat.lt_or_ge e.on i with hlt | hge
  ·refine⟨hlt,?_⟩
   rcases g2 e.on with h4 | h4
   ·rw[h4]at e3;exact e3
   ·rw[h4]at e3;simp at e3
  ·rw[g3 e.on hge]at e3;simp at e3
def oa(ops:Array Oper)(L:Nat→Bool):Prop:=∀(i:Nat) (o:Oper),ops[i]? =some o→L i=true→∀e∈o.after.toList,Region.binds .any e=true→L e.on=true
theorem oa.ahead{ops:Array Oper}{L:Nat→Bool}(hL:oa ops L):∀(i:Nat) (o:Oper),ops[i]? =some o→(∀e∈o.after.toList,Region.binds .any e=true→L e.on=true)→∀k,((aH ops.toList []).getD i 0).testBit k=true→L k=true:=by
 intro i
 induction i using Nat.strongRecOn with
 | _ i ih=>
  intro o ho he k hk
  obtain⟨e,e1,e2,e3⟩:=ry ho hk
  have hLe:=he e e1 e2
  rcases e3 with rfl | ⟨hlt,h4⟩
  ·exact hLe
  ·have hlt':e.on<ops.size:=by
    have:i<ops.size:=(Array.getElem?_eq_some_iff.1 ho).1
    omega
   have ho':ops[e.on]? =some ops[e.on]:=Array.getElem?_eq_getElem hlt'
   exact ih e.on hlt _ ho' (fun e' h5 h6=>hL e.on _ ho' hLe e' h5 h6) k h4
def aO(p:Nat→Bool):Nat→Option Nat
 | 0=>none
 | k+1=>if p k then some k else aO p k
theorem eb{p q:Nat→Bool}:∀{k:Nat},(∀i,i<k→p i=q i)→aO p k=aO q k
 | 0,_=>rfl
 | k+1,h=>by
  unfold aO
  rw[h k (by omega),eb fun i hi=>h i (by omega)]
theorem i6{p:Nat→Bool}{k m:Nat}(hkm:k≤m)(h:∀i,k≤i→i<m→p i=false):aO p m=aO p k:=by
 induction m with
 | zero=>rw[show k=0 by omega]
 | succ m ih=>
  rcases Nat.eq_or_lt_of_le hkm with rfl | hlt
  ·rfl
  ·rw[aO,h m (by omega) (by omega),if_neg (by simp)]
   exact ih (by omega) fun i h1 h2=>h i h1 (by omega)
theorem gA{p L:Nat→Bool}{n i:Nat}(hi:i<n)(hLi:L i=false)(h:∀j,j<n→j≠i→p j=true→(j<i→L j=true)∧(i<j→L j=false)):
  aO (fun j=>L j&&p j) n=aO p i:=by
 rw[i6 (k:=i) (by omega)]
 ·refine eb fun j hj=>?_
  cases hp:p j with
  | false=>simp
  | true=>simp[(h j (by omega) (by omega) hp).1 hj]
 ·intro j h1 h2
  rcases Nat.eq_or_lt_of_le h1 with rfl | hlt
  ·simp[hLi]
  ·cases hp:p j with
   | false=>simp
   | true=>simp[(h j h2 (by omega) hp).2 hlt]
theorem j9{p L:Nat→Bool}{n i:Nat}(hi:i<n)(hLi:L i=false)(hpi:p i=true)(h:∀j,j<n→j≠i→p j=true→(i<j→L j=false)):
  aO (fun j=>(if j=i then true else L j)&&p j) n=some i:=by
 rw[i6 (k:=i+1) (by omega)]
 ·simp[aO,hpi]
 ·intro j h1 h2
  cases hp:p j with
  | false=>simp
  | true=>simp[h j h2 (by omega) hp (by omega),show¬j=i by omega]
theorem fk{p L:Nat→Bool}{n i:Nat}(hpi:p i=false):aO (fun j=>(if j=i then true else L j)&&p j) n=aO (fun j=>L j&&p j) n:=by
 refine eb fun j _=>?_
 by_cases hj:j=i
 ·subst hj;simp[hpi]
 ·simp[hj]
end Go.Proofs.YtelgfgfgghpjgaaGreatDoor.Am
end
section
namespace Go.Proofs.YtelgfgfgghpjgaaGreatDoor.Am
set_option linter.unusedVariables false
section
variable (P:Program) (F:TypeId→Option (List TypeId)) (call:FuncId→List AV→aa→Option (AV×aa)) (ops:Array Oper) (base:Nat) (τ0:List AV) (H0:aa)
def bL:Nat→List AV×aa
 | 0=>(τ0,H0)
 | i+1=>match az P F call ops base i ((aH ops.toList []).getD i 0) (bL i).1 (bL i).2 with
  | some (τ,H,_)=>(τ,H)
  | none=>bL i
def cu(i:Nat):Option iL:=
 match az P F call ops base i ((aH ops.toList []).getD i 0) (bL P F call ops base τ0 H0 i).1 (bL P F call ops base τ0 H0 i).2 with
 | some (_,_,r)=>r
 | none=>none
structure eU:Prop where
 step:∀i,i<ops.size→az P F call ops base i ((aH ops.toList []).getD i 0) (bL P F call ops base τ0 H0 i).1 (bL P F call ops base τ0 H0 i).2 =
  some ((bL P F call ops base τ0 H0 (i+1)).1,(bL P F call ops base τ0 H0 (i+1)).2,cu P F call ops base τ0 H0 i)
 free:∀i j x r,j<i→i<ops.size→cu P F call ops base τ0 H0 j=some x→cu P F call ops base τ0 H0 i=some r→((aH ops.toList []).getD i 0).testBit j=true∨fO x r=false
end
section
variable {P:Program} {F:TypeId→Option (List TypeId)} {call:FuncId→List AV→aa→Option (AV×aa)} {ops:Array Oper} {base:Nat} {τ0:List AV} {H0:aa}
theorem o6{i mask:Nat}{τ τ':List AV}{H H':aa}{x:iL}(h:az P F call ops base i mask τ H=some (τ',H',some x)):x.op=i:=by
 unfold az at h
 repeat' (first | (cases h;rfl) | (cases h;done) | split at h)
theorem sf:∀(m k:Nat) (rs rs':List iL) (τ':List AV) (K:aa),
  bI P F call ops base (aH ops.toList []) (List.range' k m) (bL P F call ops base τ0 H0 k).1 (bL P F call ops base τ0 H0 k).2 rs=some (τ',K,rs')→(∀j x,j<k→cu P F call ops base τ0 H0 j=some x→x∈rs∧x.op=j)→
  (∀i,k≤i→i<k+m→az P F call ops base i ((aH ops.toList []).getD i 0) (bL P F call ops base τ0 H0 i).1 (bL P F call ops base τ0 H0 i).2 =
   some ((bL P F call ops base τ0 H0 (i+1)).1,(bL P F call ops base τ0 H0 (i+1)).2,cu P F call ops base τ0 H0 i))∧
  (∀i j x r,k≤i→i<k+m→j<i→cu P F call ops base τ0 H0 j=some x→cu P F call ops base τ0 H0 i=some r→((aH ops.toList []).getD i 0).testBit j=true∨fO x r=false)∧
  (τ',K)=bL P F call ops base τ0 H0 (k+m)
 | 0,k,rs,rs',τ',K,h,_=>by
  simp only[List.range'_zero,bI,Option.some.injEq,Prod.mk.injEq]at h
  obtain⟨rfl,rfl,rfl⟩:=h
  exact⟨fun i h1 h2=>by omega,fun i j x r h1 h2=>by omega,rfl⟩
 | m+1,k,rs,rs',τ',K,h,hrs=>by
  rw[List.range'_succ]at h
  unfold bI at h
  cases hd:az P F call ops base k ((aH ops.toList []).getD k 0) (bL P F call ops base τ0 H0 k).1 (bL P F call ops base τ0 H0 k).2 with
  | none=>rw[hd]at h;cases h
  | some q=>
   obtain⟨τ1,H1,r⟩:=q
   rw[hd]at h
   have e1:bL P F call ops base τ0 H0 (k+1)=(τ1,H1):=by rw[bL,hd]
   have e2:cu P F call ops base τ0 H0 k=r:=by rw[cu,hd]
   have next:∀rs2,bI P F call ops base (aH ops.toList []) (List.range' (k+1) m) τ1 H1 rs2=some (τ',K,rs')→(∀x,r=some x→x∈rs2)→(∀x∈rs,x∈rs2)→
     (∀j x,j<k→cu P F call ops base τ0 H0 j=some x→∀y,r=some y→((aH ops.toList []).getD k 0).testBit j=true∨fO x y=false)→_:=fun rs2 h2 hr2 hsub hfree=>by
    obtain⟨a1,a2,a3⟩:=sf m (k+1) rs2 rs' τ' K (by rw[e1];exact h2) (fun j x hj hx=>by
     rcases Nat.eq_or_lt_of_le (Nat.le_of_lt_succ hj)with rfl | hlt
     ·rw[e2]at hx
      refine⟨hr2 x hx,?_⟩
      rw[hx]at hd
      exact o6 hd
     ·obtain⟨b1,b2⟩:=hrs j x hlt hx
      exact⟨hsub x b1,b2⟩)
    refine(⟨fun i h1 h2=>?_,fun i j x y h1 h2 hji hx hy=>?_,by rw[a3];congr 1;omega⟩:(∀i,k≤i→i<k+(m+1)→az P F call ops base i ((aH ops.toList []).getD i 0) (bL P F call ops base τ0 H0 i).1 (bL P F call ops base τ0 H0 i).2 =
     some ((bL P F call ops base τ0 H0 (i+1)).1,(bL P F call ops base τ0 H0 (i+1)).2,cu P F call ops base τ0 H0 i))∧
     (∀i j x r,k≤i→i<k+(m+1)→j<i→cu P F call ops base τ0 H0 j=some x→cu P F call ops base τ0 H0 i=some r→((aH ops.toList []).getD i 0).testBit j=true∨fO x r=false)∧
     (τ',K)=bL P F call ops base τ0 H0 (k+(m+1)))
    ·rcases Nat.eq_or_lt_of_le h1 with rfl | hlt
     ·rw[hd,e1,e2]
     ·exact a1 i hlt (by omega)
    ·rcases Nat.eq_or_lt_of_le h1 with rfl | hlt
     ·rw[e2]at hy;exact hfree j x hji hx y hy
     ·exact a2 i j x y hlt (by omega) hji hx hy
   cases r with
   | none=>exact next rs h (by simp) (fun x hx=>hx) (by simp)
   | some y=>
    simp only[]at h
    split at h
    ·rename_i hall
     refine next (y::rs) h (by simp) (fun x hx=>by simp[hx]) (fun j x hj hx y' hy'=>?_)
     cases hy'
     rw[List.all_eq_true]at hall
     obtain⟨b1,b2⟩:=hrs j x hj hx
     have:=hall x b1
     rw[b2]at this
     simpa using this
    ·cases h
end
end Go.Proofs.YtelgfgfgghpjgaaGreatDoor.Am
end
section
namespace Go.Proofs.YtelgfgfgghpjgaaGreatDoor.Am
set_option linter.unusedVariables false
theorem aw.sig{w:World}{σ σ':aC}{T:Nat→Prop}(hm:σ'.map=σ.map){a:AV}{v:Value}(h:aw w σ T a v):aw w σ' T a v:=by
 have e:∀{b pl},σ.map b=some pl→σ'.map b=some pl:=fun hb=>by rw[hm];exact hb
 induction h with
 | int k n=>exact .int k n
 | bool b=>exact .bool b
 | str s=>exact .str s
 | nilp=>exact .nilp
 | ptr b i off pl h hp=>exact .ptr b i off pl (e h) hp
 | mp b pl h h1 h2=>exact .mp b pl (e h) h1 h2
 | it b pl h h1 h2=>exact .it b pl (e h) h1 h2
 | pptr rows i off b o sz hl h ih=>exact .pptr rows i off b o sz hl ih
 | nils=>exact .nils
 | emp a=>exact .emp a
 | sl b i n pl a cap h hp hn hm' ha=>exact .sl b i n pl a cap (e h) hp hn hm' ha
 | lst0 a cap hm'=>exact .lst0 a cap hm'
 | lst rows b o sz cap hl hn hm' h ih=>exact .lst rows b o sz cap hl hn hm' ih
 | agg cs vs hl h ih=>exact .agg cs vs hl ih
 | tup cs vs hl h ih=>exact .tup cs vs hl ih
 | fn f cs vs hl h ih=>exact .fn f cs vs hl ih
 | nilf=>exact .nilf
 | junk v=>exact .junk v
theorem j3.sig{w:World}{σ σ':aC}{T:Nat→Prop}(hm:σ'.map=σ.map){x:Blk}{pl:aM}{cs:Array Value}{e:TypeId}(h:j3 w σ T x pl cs e):j3 w σ' T x pl cs e:=
 ⟨h.size,h.block,h.even,h.room,fun i r j a u h1 h2 h3=>(h.rep i r j a u h1 h2 h3).sig hm⟩
theorem ea.sig{w:World}{σ σ':aC}{T:Nat→Prop}(hm:σ'.map=σ.map){x:Blk}{pl:aM}{cs:Array Value}{e:TypeId}(h:ea w σ T x pl cs e):ea w σ' T x pl cs e:=⟨fun hp=>(h.1 hp).sig hm,h.2⟩
def aC.part(σ:aC)(K Hc:aa):aC:=⟨σ.map,fun c=>aq σ K c∧¬np σ Hc c⟩
section
variable {w w':World} {σ σ':aC} {K Hc H1 K':aa}
theorem np.sub(hsub:∀c x,Hc.get c=some x→K.get c=some x){d:Nat}(h:np σ Hc d):np σ K d:=by
 obtain⟨b,x,pl,h1,h2,h3⟩:=h
 exact⟨b,x,pl,hsub b x h1,h2,h3⟩
theorem jF(hsub:∀c x,Hc.get c=some x→K.get c=some x):aq (σ.part K Hc) Hc=aq σ K:=by
 funext d
 apply propext
 constructor
 ·rintro(h | h)
  ·exact h.1
  ·exact .inr (np.sub hsub h)
 ·intro h
  by_cases ht:np σ Hc d
  ·exact .inr ht
  ·exact .inl ⟨h,ht⟩
theorem ay.part(hW:ay w σ K)(hsub:∀c x,Hc.get c=some x→K.get c=some x)(hn:K.next≤Hc.next):ay w (σ.part K Hc) Hc:=by
 refine⟨fun b pl hb=>Nat.lt_of_lt_of_le (hW.named b pl hb) hn,hW.lt,fun b x hb=>?_,fun c hc=>⟨?_,hc.2⟩,fun b b' x x' pl pl' h1 h2 h3 h4 h5=>hW.inj b b' x x' pl pl' (hsub _ _ h1) (hsub _ _ h2) h3 h4 h5,by rw[jF hsub];exact hW.glob⟩
 ·obtain⟨pl,cs,e,h1,h2⟩:=hW.live b x (hsub b x hb)
  rw[jF hsub]
  exact⟨pl,cs,e,h1,ea.sig (σ:=σ) (σ':=σ.part K Hc) rfl h2⟩
 ·rcases hc.1 with h | ⟨b,x,pl,h1,h2,rfl⟩
  ·exact(hW.apart c h).1
  ·exact hW.lt b pl h2
theorem ay.whole(hW:ay w σ K)(hsub:∀c x,Hc.get c=some x→K.get c=some x)(hn:Hc.next=K.next)(hW1:ay w' σ' H1)(hE:bV w (σ.part K Hc) (aq (σ.part K Hc) Hc) w' σ' (aq σ' H1))
  (hdom:∀c,c<Hc.next→Hc.get c=none→H1.get c=none) (hK':∀c,K'.get c=if Hc.get c=none∧c<K.next then K.get c else H1.get c) (hn':H1.next≤K'.next) :
  ay w' ⟨σ'.map,σ.fr⟩ K'∧bV w σ (aq σ K) w' ⟨σ'.map,σ.fr⟩ (aq ⟨σ'.map,σ.fr⟩ K')∧aq ⟨σ'.map,σ.fr⟩ K'=aq σ' H1:=by
 have hfr:∀c,σ'.fr c↔(aq σ K c∧¬np σ Hc c):=fun c=>by rw[hE.eqfr];exact Iff.rfl
 have hmap:∀b pl,σ.map b=some pl→σ'.map b=some pl:=fun b pl h=>hE.sig b pl h

 have rest:∀b x,Hc.get b=none→K.get b=some x→∃pl,σ.map b=some pl∧σ'.fr pl.block:=fun b x h0 hx=>by
  obtain⟨pl,cs,e,h1,h2⟩:=hW.live b x hx
  refine⟨pl,h1,(hfr _).2 ⟨.inr ⟨b,x,pl,hx,h1,rfl⟩,?_⟩⟩
  rintro⟨b2,x2,pl2,g1,g2,g3⟩
  have:=hW.inj b2 b x2 x pl2 pl (hsub _ _ g1) hx g2 h1 g3
  subst this
  rw[h0]at g1;cases g1
 have get':∀b x,K'.get b=some x→(Hc.get b=none∧b<K.next∧K.get b=some x)∨H1.get b=some x:=fun b x hx=>by
  rw[hK']at hx
  split at hx
  ·rename_i hc;exact .inl ⟨hc.1,hc.2,hx⟩
  ·exact .inr hx
 have frK:∀c,σ.fr c→σ'.fr c:=fun c hc=>(hfr c).2 ⟨.inl hc,fun ht=>(hW.apart c hc).2 (np.sub hsub ht)⟩
 have howns:aq ⟨σ'.map,σ.fr⟩ K'=aq σ' H1:=by
  funext d
  apply propext
  constructor
  ·rintro(h | ⟨b,x,pl,h1,h2,rfl⟩)
   ·exact .inl (frK d h)
   ·rcases get' b x h1 with⟨g1,g2,g3⟩ | g1
    ·obtain⟨pl0,e1,e2⟩:=rest b x g1 g3
     have h2':σ'.map b=some pl:=h2
     rw[hmap b pl0 e1]at h2'
     cases h2'
     exact .inl e2
    ·exact .inr ⟨b,x,pl,g1,h2,rfl⟩
  ·rintro(h | ⟨b,x,pl,h1,h2,rfl⟩)
   ·obtain⟨h3,h4⟩:=(hfr d).1 h
    rcases h3 with h3 | ⟨b,x,pl,g1,g2,g3⟩
    ·exact .inl h3
    ·have h0:Hc.get b=none:=by
      cases hg:Hc.get b with
      | none=>rfl
      | some y=>exact absurd ⟨b,y,pl,hg,g2,g3⟩ h4
     exact .inr ⟨b,x,pl,by rw[hK',if_pos ⟨h0,hW.named b pl g2⟩];exact g1,hmap b pl g2,g3⟩
   ·refine .inr ⟨b,x,pl,?_,h2,rfl⟩
    rw[hK',if_neg]
    ·exact h1
    ·rintro⟨h3,h4⟩
     rw[hdom b (by omega) h3]at h1;cases h1
 have hE2:bV w σ (aq σ K) w' ⟨σ'.map,σ.fr⟩ (aq ⟨σ'.map,σ.fr⟩ K'):=by
  rw[howns]
  have ho:=jF (σ:=σ) hsub
  exact⟨hE.os,hE.tape,hE.output,hE.size,fun c hc hT=>hE.keep c hc (by rw[ho];exact hT),hE.shape,hmap,rfl,fun c hc=>hE.frame c ((hfr c).1 (frK c hc)),fun c hc=>by have:=hE.own c hc;rwa [ho]at this⟩
 refine⟨⟨fun b pl hb=>Nat.lt_of_lt_of_le (hW1.named b pl hb) hn',hW1.lt,fun b x hx=>?_,fun c hc=>⟨?_,?_⟩,?_,by rw[howns];exact hW1.glob⟩,hE2,howns⟩
 ·rcases get' b x hx with⟨g1,g2,g3⟩ | g1
  ·obtain⟨pl,cs,e,h1,h2⟩:=hW.live b x g3
   obtain⟨pl0,e1,e2⟩:=rest b x g1 g3
   have h1':σ.map b=some pl:=h1
   rw[e1]at h1'
   cases h1'
   refine⟨pl,cs,e,hmap b pl e1,?_⟩
   exact h2.mono hE2 (hE.frame _ ((hfr _).1 e2))
  ·obtain⟨pl,cs,e,h1,h2⟩:=hW1.live b x g1
   rw[howns]
   exact⟨pl,cs,e,h1,ea.sig (σ:=σ') (σ':=⟨σ'.map,σ.fr⟩) rfl h2⟩
 ·have:=(hW.apart c hc).1
  have:=hE.size
  omega
 ·rintro⟨b,x,pl,h1,h2,h3⟩
  rcases get' b x h1 with⟨g1,g2,g3⟩ | g1
  ·obtain⟨pl0,e1,e2⟩:=rest b x g1 g3
   have h2':σ'.map b=some pl:=h2
   rw[hmap b pl0 e1]at h2'
   cases h2'
   exact(hW.apart c hc).2 ⟨b,x,pl,g3,e1,h3⟩
  ·exact(hW1.apart c (frK c hc)).2 ⟨b,x,pl,g1,h2,h3⟩
 ·intro b b' x x' pl pl' h1 h2 h3 h4 h5
  have h3':σ'.map b=some pl:=h3
  have h4':σ'.map b'=some pl':=h4
  rcases get' b x h1 with⟨g1,g2,g3⟩ | g1
  ·obtain⟨pl0,e1,e2⟩:=rest b x g1 g3
   rw[hmap b pl0 e1]at h3'
   cases h3'
   rcases get' b' x' h2 with⟨k1,k2,k3⟩ | k1
   ·obtain⟨pl1,f1,f2⟩:=rest b' x' k1 k3
    rw[hmap b' pl1 f1]at h4'
    cases h4'
    exact hW.inj b b' x x' pl pl' g3 k3 e1 f1 h5
   ·exact absurd ⟨b',x',pl',k1,h4,h5.symm⟩ (hW1.apart _ e2).2
  ·rcases get' b' x' h2 with⟨k1,k2,k3⟩ | k1
   ·obtain⟨pl1,f1,f2⟩:=rest b' x' k1 k3
    rw[hmap b' pl1 f1]at h4'
    cases h4'
    exact absurd ⟨b,x,pl,g1,h3,h5⟩ (hW1.apart _ f2).2
   ·exact hW1.inj b b' x x' pl pl' g1 k1 h3 h4 h5
end
end Go.Proofs.YtelgfgfgghpjgaaGreatDoor.Am
end
section
namespace Go.Proofs.YtelgfgfgghpjgaaGreatDoor.Am
set_option linter.unusedVariables false
def df(ops:Array Oper)(o:Oper):List Tmp:=
 o.dst.toList++(aE o.op).filterMap (fun | .tmp t=>some t | _=>none)++(match o.guard with | none=>[] | some (j,_)=>((ops[j]?).bind (·.dst)).toList)
def fm(ops:Array Oper):Prop:=∀(i j:Nat) (oi oj:Oper),j<i→ops[i]? =some oi→ops[j]? =some oj→
 ((aH ops.toList []).getD i 0).testBit j=true∨((∀t,oj.dst=some t→t∉df ops oi)∧(∀t,oi.dst=some t→t∉df ops oj))
def wr(ops:Array Oper)(t:Tmp)(i:Nat):Bool:=match ops[i]? with | some o=>o.dst==some t | none=>false
def aU(r:Option iL)(c:Nat):Bool:=match r with
 | none=>false
 | some x=>x.writes.contains c||x.made.contains c||(x.isCall&&decide (x.lo≤c)&&decide (c<x.hi))
theorem i7{r:Option iL}{c:Nat}:aU r c=true↔touched r c:=by
 cases r with
 | none=>simp[aU,touched]
 | some x=>simp[aU,touched,or_assoc,and_assoc]
def cZ(r:Option iL):Bool:=match r with | none=>false | some x=>x.isCall
section
variable {P:Program} {F:TypeId→Option (List TypeId)} {call:FuncId→List AV→aa→Option (AV×aa)} {ops:Array Oper} {base:Nat} {τ0:List AV} {H0:aa}
theorem o7{i mask:Nat}{τ τ':List AV}{H H':aa}{r:Option iL}(h:az P F call ops base i mask τ H=some (τ',H',r)):∃o v,ops[i]? =some o∧τ'=cp τ o.dst v:=by
 unfold az at h
 split at h
 ·cases h
 ·rename_i o ho
  refine⟨o,?_⟩
  repeat' (first | (cases h;exact⟨_,ho,rfl⟩) | (cases h;done) | split at h)
structure bc(P:Program)(F:TypeId→Option (List TypeId))(call:FuncId→List AV→aa→Option (AV×aa))(ops:Array Oper)(base:Nat)(τ0:List AV)(H0:aa):Prop where
 bd:∀i,i≤ops.size→Bd (bL P F call ops base τ0 H0 i).2
 le:∀i,i≤ops.size→H0.next≤(bL P F call ops base τ0 H0 i).2.next
 fresh:∀i j,i≤j→j<ops.size→(bL P F call ops base τ0 H0 i).2.get (base+j)=none
 len:∀i,i≤ops.size→(bL P F call ops base τ0 H0 i).1.length=τ0.length
 chg:∀i,i<ops.size→uF base i (bL P F call ops base τ0 H0 i).2 (bL P F call ops base τ0 H0 (i+1)).2 (cu P F call ops base τ0 H0 i)
theorem rB(hch:∀f args H v H',Bd H→call f args H=some (v,H')→kU H H')(run:eU P F call ops base τ0 H0)(hbd:Bd H0)(hn:base+ops.size=H0.next)(hfr:∀j,j<ops.size→H0.get (base+j)=none):bc P F call ops base τ0 H0:=by
 have key:∀i,i≤ops.size→Bd (bL P F call ops base τ0 H0 i).2∧H0.next≤(bL P F call ops base τ0 H0 i).2.next∧(∀j,i≤j→j<ops.size→(bL P F call ops base τ0 H0 i).2.get (base+j)=none)∧(bL P F call ops base τ0 H0 i).1.length=τ0.length:=by
  intro i
  induction i with
  | zero=>intro _;exact⟨hbd,Nat.le_refl _,fun j _ hj=>hfr j hj,rfl⟩
  | succ i ih=>
   intro hi
   obtain⟨a1,a2,a3,a4⟩:=ih (by omega)
   have hst:=run.step i (by omega)
   have d:=dy hch a1 (by omega) hst
   obtain⟨o,v,_,hv⟩:=o7 hst
   refine⟨d.bd a1,Nat.le_trans a2 d.next,fun j h1 h2=>d.dom _ (by omega) (by omega) (a3 j (by omega) h2),?_⟩
   rw[hv,←a4]
   cases o.dst<;>simp[cp]
 exact⟨fun i hi=>(key i hi).1,fun i hi=>(key i hi).2.1,fun i j h1 h2=>(key i (by omega)).2.2.1 j h1 h2,fun i hi=>(key i hi).2.2.2,fun i hi=>dy hch (key i (by omega)).1 (by have:=(key i (by omega)).2.1;omega) (run.step i hi)⟩
def gB(P:Program)(F:TypeId→Option (List TypeId))(call:FuncId→List AV→aa→Option (AV×aa))(ops:Array Oper)(base:Nat)(τ0:List AV)(H0:aa)(L:Nat→Bool)(t:Tmp):Option AV:=
 match aO (fun j=>L j&&wr ops t j) ops.size with
 | some j=>(bL P F call ops base τ0 H0 (j+1)).1[t]?
 | none=>τ0[t]?
def hget(P:Program)(F:TypeId→Option (List TypeId))(call:FuncId→List AV→aa→Option (AV×aa))(ops:Array Oper)(base:Nat)(τ0:List AV)(H0:aa)(L:Nat→Bool)(c:Nat):Option Blk:=
 match aO (fun j=>L j&&aU (cu P F call ops base τ0 H0 j) c) ops.size with
 | some j=>(bL P F call ops base τ0 H0 (j+1)).2.get c
 | none=>H0.get c
def oc(P:Program)(F:TypeId→Option (List TypeId))(call:FuncId→List AV→aa→Option (AV×aa))(ops:Array Oper)(base:Nat)(τ0:List AV)(H0:aa)(L:Nat→Bool):Nat:=
 match aO (fun j=>L j&&cZ (cu P F call ops base τ0 H0 j)) ops.size with
 | some j=>(bL P F call ops base τ0 H0 (j+1)).2.next
 | none=>H0.next
theorem tN{τ:List AV}{d:Option Tmp}{v:AV}{t:Tmp}(h:(d==some t)=false):(cp τ d v)[t]? =τ[t]? :=by
 cases d with
 | none=>rfl
 | some d=>
  have:d≠t:=by simpa using h
  simp only[cp,List.getElem?_set]
  rw[if_neg this]
theorem qg(run:eU P F call ops base τ0 H0)(t:Tmp):∀k,k≤ops.size→(bL P F call ops base τ0 H0 k).1[t]? =match aO (wr ops t) k with | some j=>(bL P F call ops base τ0 H0 (j+1)).1[t]? | none=>τ0[t]?
 | 0,_=>rfl
 | k+1,hk=>by
  unfold aO
  cases hw:wr ops t k with
  | true=>simp
  | false=>
   simp only[Bool.false_eq_true,if_false]
   rw[←qg run t k (by omega)]
   obtain⟨o,v,ho,hv⟩:=o7 (run.step k (by omega))
   rw[hv]
   simp only[wr,ho]at hw
   exact tN hw
theorem qh(run:eU P F call ops base τ0 H0)(rf:bc P F call ops base τ0 H0)(c:Nat):∀k,k≤ops.size→(bL P F call ops base τ0 H0 k).2.get c=match aO (fun j=>aU (cu P F call ops base τ0 H0 j) c) k with | some j=>(bL P F call ops base τ0 H0 (j+1)).2.get c | none=>H0.get c
 | 0,_=>rfl
 | k+1,hk=>by
  unfold aO
  cases hw:aU (cu P F call ops base τ0 H0 k) c with
  | true=>simp
  | false=>
   simp only[Bool.false_eq_true,if_false]
   rw[←qh run rf c k (by omega)]
   exact(rf.chg k (by omega)).keep (rf.bd k (by omega)) c (fun ht=>by rw[i7.2 ht]at hw;cases hw)
theorem nv{i mask:Nat}{τ τ':List AV}{H H':aa}{r:Option iL}(h:az P F call ops base i mask τ H=some (τ',H',r))(hc:cZ r=false):H'.next=H.next:=by
 unfold az at h
 split at h
 ·cases h
 ·split at h
  ·split at h
   ·rename_i hop;cases h;have:=lR hop;exact this
   ·split at h
    ·cases h;simp[cZ]at hc
    ·cases h
   ·cases h
  ·cases h;rfl
  ·cases h
theorem qi(run:eU P F call ops base τ0 H0):∀k,k≤ops.size→(bL P F call ops base τ0 H0 k).2.next=match aO (fun j=>cZ (cu P F call ops base τ0 H0 j)) k with | some j=>(bL P F call ops base τ0 H0 (j+1)).2.next | none=>H0.next
 | 0,_=>rfl
 | k+1,hk=>by
  unfold aO
  cases hw:cZ (cu P F call ops base τ0 H0 k)with
  | true=>simp
  | false=>
   simp only[Bool.false_eq_true,if_false]
   rw[←qi run k (by omega)]
   exact nv (run.step k (by omega)) hw
structure Next(ops:Array Oper)(L:Nat→Bool)(i:Nat):Prop where
 lt:i<ops.size
 not:L i=false
 closed:oa ops L
 edges:∀(o:Oper),ops[i]? =some o→∀e∈o.after.toList,Region.binds .any e=true→L e.on=true
theorem Next.before{L:Nat→Bool}{i:Nat}(h:Next ops L i){j:Nat}(hb:((aH ops.toList []).getD i 0).testBit j=true):L j=true:=
 h.closed.ahead i _ (Array.getElem?_eq_getElem h.lt) (h.edges _ (Array.getElem?_eq_getElem h.lt)) j hb
theorem Next.behind{L:Nat→Bool}{i:Nat}(h:Next ops L i){j:Nat}(hj:j<ops.size)(hb:((aH ops.toList []).getD j 0).testBit i=true):L j=false:=by
 cases hL:L j with
 | false=>rfl
 | true=>
  have:=h.closed.ahead j _ (Array.getElem?_eq_getElem hj) (h.closed j _ (Array.getElem?_eq_getElem hj) hL) i hb
  rw[h.not]at this;cases this
theorem tO(run:eU P F call ops base τ0 H0)(hst:fm ops){L:Nat→Bool}{i:Nat}(nx:Next ops L i){o:Oper}(ho:ops[i]? =some o){t:Tmp}(ht:t∈df ops o):
  gB P F call ops base τ0 H0 L t=(bL P F call ops base τ0 H0 i).1[t]? :=by
 have hord:∀j,j<ops.size→j≠i→wr ops t j=true→(j<i→L j=true)∧(i<j→L j=false):=fun j hj hne hw=>by
  have hoj:ops[j]? =some ops[j]:=Array.getElem?_eq_getElem hj
  simp only[wr,hoj]at hw
  have hd:(ops[j]).dst=some t:=by simpa using hw
  refine⟨fun hlt=>?_,fun hlt=>?_⟩
  ·rcases hst i j o _ hlt ho hoj with h1 | ⟨h1,_⟩
   ·exact nx.before h1
   ·exact absurd ht (h1 t hd)
  ·rcases hst j i _ o hlt hoj ho with h1 | ⟨_,h1⟩
   ·exact nx.behind hj h1
   ·exact absurd ht (h1 t hd)
 rw[qg run t i (by have:=nx.lt;omega),gB,gA nx.lt nx.not hord]
end
end Go.Proofs.YtelgfgfgghpjgaaGreatDoor.Am
end
section
namespace Go.Proofs.YtelgfgfgghpjgaaGreatDoor.Am
set_option linter.unusedVariables false
theorem eV{l m:List Nat}(h:apart l m=true){x:Nat}(hx:x∈l):x∉m:=by
 unfold apart at h
 rw[List.all_eq_true]at h
 have:=h x hx
 simpa using this
structure vV(x y:iL):Prop where
 wr:∀c∈x.writes,c∉y.reads
 ww:∀c∈x.writes,c∉y.writes
 rw:∀c∈x.reads,c∉y.writes
 mr:∀c∈x.made,c∉y.reads
 mw:∀c∈x.made,c∉y.writes
 cc:x.isCall=true→y.isCall=false
 cw:x.isCall=true→∀c,c∉y.writes
 cr:x.isCall=true→∀c∈y.reads,¬(x.lo≤c∧c<x.hi)
 wc:y.isCall=true→∀c,c∉x.writes
theorem bR{x y:iL}(h:fO x y=false):vV x y:=by
 unfold fO at h
 simp only[Bool.or_eq_false_iff,Bool.not_eq_false',Bool.and_eq_true,Bool.and_eq_false_iff]at h
 obtain⟨⟨⟨⟨⟨⟨h1,h2⟩,h3⟩,h4⟩,h5⟩,h6⟩,h7⟩:=h
 refine⟨fun c hc=>eV h1 hc,fun c hc=>eV h2 hc,fun c hc=>eV h3 hc,fun c hc=>eV h4 hc,fun c hc=>eV h5 hc,fun hx=>?_,fun hx c hc=>?_,fun hx c hc hr=>?_,fun hy c hc=>?_⟩
 ·rcases h6 with h6 | ⟨⟨h6,_⟩,_⟩
  ·rw[hx]at h6;cases h6
  ·exact h6
 ·rcases h6 with h6 | ⟨⟨_,h6⟩,_⟩
  ·rw[hx]at h6;cases h6
  ·simp at h6;rw[h6]at hc;simp at hc
 ·rcases h6 with h6 | ⟨_,h6⟩
  ·rw[hx]at h6;cases h6
  ·rw[List.any_eq_false]at h6
   exact h6 c hc (by simpa using hr)
 ·rcases h7 with h7 | h7
  ·rw[hy]at h7;cases h7
  ·simp at h7;rw[h7]at hc;simp at hc
section
variable {P:Program} {F:TypeId→Option (List TypeId)} {call:FuncId→List AV→aa→Option (AV×aa)} {ops:Array Oper} {base:Nat} {τ0:List AV} {H0:aa}
theorem nH(rf:bc P F call ops base τ0 H0){i:Nat}:∀{j:Nat},i≤j→j≤ops.size→(bL P F call ops base τ0 H0 i).2.next≤(bL P F call ops base τ0 H0 j).2.next
 | 0,h1,_=>by rw[show i=0 by omega];exact Nat.le_refl _
 | j+1,h1,h2=>by
  rcases Nat.eq_or_lt_of_le h1 with rfl | hlt
  ·exact Nat.le_refl _
  ·exact Nat.le_trans (nH rf (show i≤j by omega) (by omega)) (rf.chg j (by omega)).next
theorem later(run:eU P F call ops base τ0 H0)(rf:bc P F call ops base τ0 H0){i j c:Nat}{r y:iL}{b:Blk}(hij:i<j)(hj:j<ops.size)(hi:cu P F call ops base τ0 H0 i=some r)(hy:cu P F call ops base τ0 H0 j=some y)(ht:touched (cu P F call ops base τ0 H0 j) c)
  (hl:(bL P F call ops base τ0 H0 i).2.get c=some b):((aH ops.toList []).getD j 0).testBit i=true∨(vV r y∧(c∈y.writes∨(y.isCall=true∧False))):=by
 rcases run.free j i r y hij hj hi hy with h1 | h1
 ·exact .inl h1
 ·right
  refine⟨bR h1,?_⟩
  obtain⟨x,hx,ht⟩:=ht
  rw[hy]at hx
  cases hx
  rcases ht with ht | ht | ⟨t1,t2,_⟩
  ·exact .inl ht
  ·have:=((rf.chg j hj).made y hy).1 c ht
   subst this
   rw[rf.fresh i j (by omega) hj]at hl;cases hl
  ·have h2:=((rf.chg j hj).made y hy).2 t1
   have h3:=nH rf (show i≤j by omega) (by omega)
   rw[rf.bd i (by omega) c (by omega)]at hl;cases hl
theorem qL(run:eU P F call ops base τ0 H0)(rf:bc P F call ops base τ0 H0){L:Nat→Bool}{i:Nat}(nx:Next ops L i){c:Nat}
  (hord:∀j,j<ops.size→j≠i→touched (cu P F call ops base τ0 H0 j) c→(j<i→((aH ops.toList []).getD i 0).testBit j=true)∧(i<j→((aH ops.toList []).getD j 0).testBit i=true)) :
  hget P F call ops base τ0 H0 L c=(bL P F call ops base τ0 H0 i).2.get c:=by
 rw[qh run rf c i (by have:=nx.lt;omega),hget,gA (p:=fun j=>aU (cu P F call ops base τ0 H0 j) c) nx.lt nx.not]
 intro j hj hne ht
 obtain⟨h1,h2⟩:=hord j hj hne (i7.1 ht)
 exact⟨fun hlt=>nx.before (h1 hlt),fun hlt=>nx.behind hj (h2 hlt)⟩
theorem sg(run:eU P F call ops base τ0 H0)(rf:bc P F call ops base τ0 H0){i c:Nat}{r:iL}{b:Blk}(hi:i<ops.size)(hr:cu P F call ops base τ0 H0 i=some r)(hc:c∈r.reads)(hl:(bL P F call ops base τ0 H0 i).2.get c=some b):
  ∀j,j<ops.size→j≠i→touched (cu P F call ops base τ0 H0 j) c→(j<i→((aH ops.toList []).getD i 0).testBit j=true)∧(i<j→((aH ops.toList []).getD j 0).testBit i=true):=by
 intro j hj hne ht
 obtain⟨x,hx,ht'⟩:=ht
 refine⟨fun hlt=>?_,fun hlt=>?_⟩
 ·rcases run.free i j x r hlt hi hx hr with h1 | h1
  ·exact h1
  ·exfalso
   have fr:=bR h1
   rcases ht' with t | t | ⟨t1,t2,t3⟩
   ·exact fr.wr c t hc
   ·exact fr.mr c t hc
   ·exact fr.cr t1 c hc ⟨t2,t3⟩
 ·rcases later run rf hlt hj hr hx ⟨x,hx,ht'⟩ hl with h1 | ⟨h1,h2 | ⟨_,h2⟩⟩
  ·exact h1
  ·exact absurd h2 (h1.rw c hc)
  ·exact h2.elim
theorem o8{o:Op}{ρ:Operand→AV}{b c:Nat}{v:AV}{H H':aa}(h:ao P F o ρ b H=some (.val v H'))(hc:c∈ak o ρ):∃x,H.get c=some x:=by
 cases o with
 | load t a=>
  simp only[ao]at h
  obtain⟨h1,_⟩:=cf h
  simp only[ak]at hc
  generalize ρ a=y at h1 hc
  cases y<;>simp[ac]at hc<;>simp[fN]at h1
  subst hc
  cases hg:H.get _ with
  | none=>rw[hg]at h1;simp at h1
  | some x=>exact⟨x,rfl⟩
 | store t a x=>
  simp only[ao]at h
  cases hst:cq P H t (ρ a) (ρ x)with
  | none=>rw[hst]at h;cases h
  | some K=>
   simp only[ak]at hc
   unfold cq at hst
   split at hst
   ·rename_i d i off cs n ha hcs hn
    rw[ha]at hc
    simp[ac]at hc
    subst hc
    split at hst
    ·rename_i y hy;exact⟨y,hy⟩
    ·cases hst
   ·cases hst
 | indexAddr t x ix=>
  simp only[ao]at h
  obtain⟨h1,_⟩:=cf h
  simp only[ak]at hc
  generalize ρ x=y at h1 hc
  cases y<;>simp[dV]at hc
  subst hc
  cases hg:H.get c with
  | some x=>exact⟨x,rfl⟩
  | none=>
   exfalso
   simp only[bx,ff,hg,Option.map_none,Option.isSome_none,Bool.false_eq_true,false_and,and_false,if_false]at h1
   split at h1
   ·split at h1
    ·cases h1
    ·split at h1<;>simp_all
   ·cases h1
 | slice t x lo hi mx=>
  simp only[ao]at h
  split at h
  ·cases h
  ·obtain⟨h1,_⟩:=cf h
   simp only[ak]at hc
   generalize ρ x=y at h1 hc
   cases y<;>simp[dV]at hc
   subst hc
   cases hg:H.get c with
   | some x=>exact⟨x,rfl⟩
   | none=>
    exfalso
    simp only[eh,ff,hg,Option.map_none,Option.isSome_none,Bool.false_eq_true,false_and,if_false]at h1
    split at h1
    ·split at h1
     ·split at h1<;>cases h1
     ·cases h1
    ·cases h1
    ·cases h1
 | call k=>
  simp only[ak]at hc
  split at hc
  ·rename_i hk
   simp only[ao,hk]at h
   cases hbi:av P H b .append k.argTypes (k.args.toList.map ρ)with
   | none=>rw[hbi]at h;cases h
   | some q=>
    unfold av at hbi
    split at hbi
    ·rename_i e _;cases e
    ·rename_i _ e _;cases e
    ·rename_i s x e heq
     obtain⟨a0,a1,hargs,h0,h1⟩:=hY heq
     rw[hargs]at hc
     simp only[List.flatMap_cons,List.flatMap_nil,List.append_nil,h0,h1,List.mem_append]at hc
     split at hbi
     ·split at hbi
      ·unfold aV at hbi
       split at hbi
       ·split at hbi
        ·split at hbi
         ·rename_i l m hl hm
          have aux:∀{y:AV} {q n},ch H n y=some q→c∈ac y→∃x,H.get c=some x:=fun {y} {q} {n} hy hcy=>by
           cases y<;>simp[ac]at hcy<;>simp[ch]at hy
           subst hcy
           split at hy
           ·rename_i x hx;exact⟨x,hx⟩
           ·cases hy
          rcases hc with hc | hc
          ·exact aux hl hc
          ·exact aux hm hc
         ·cases hbi
        ·cases hbi
       ·cases hbi
      ·cases hbi
     ·cases hbi
    ·rename_i e _;cases e
    ·rename_i e _;cases e
    ·rename_i e _;cases e
    ·cases hbi
  ·rename_i hk
   simp only[ao,hk]at h
   cases hbi:av P H b .clear k.argTypes (k.args.toList.map ρ)with
   | none=>rw[hbi]at h;cases h
   | some q=>
    unfold av at hbi
    split at hbi
    ·rename_i e _;cases e
    ·rename_i _ e _;cases e
    ·rename_i e _;cases e
    ·rename_i e _;cases e
    ·rename_i e _;cases e
    ·rename_i x e heq
     obtain⟨a0,hargs,h0⟩:=hU heq
     rw[hargs]at hc
     simp only[List.flatMap_cons,List.flatMap_nil,List.append_nil,h0]at hc
     split at hbi
     ·rw[Option.map_eq_some_iff]at hbi
      obtain⟨K1,hk1,_⟩:=hbi
      unfold b6 at hk1
      split at hk1
      ·split at hk1
       ·split at hk1
        ·simp[ac]at hc
        ·simp[ac]at hc
         subst hc
         split at hk1
         ·rename_i y hy;exact⟨y,hy⟩
         ·cases hk1
        ·cases hk1
       ·cases hk1
      ·cases hk1
     ·cases hbi
    ·cases hbi
  ·simp at hc
 | lookup t m k ok=>
  simp only[ao]at h
  obtain⟨h1,rfl⟩:=cf h
  obtain⟨q,x,hm,hx,_⟩:=lQ h1
  simp only[ak,hm,ac,List.mem_singleton]at hc
  exact⟨x,by rw[hc];exact hx⟩
 | mapUpdate t m k x=>
  simp only[ao]at h
  cases hs:bW P H t (ρ m) (ρ k) (ρ x)with
  | none=>rw[hs]at h;cases h
  | some H2=>
   obtain⟨q,y,y',hm,hy,_⟩:=fi hs
   simp only[ak,hm,ac,List.mem_singleton]at hc
   exact⟨y,by rw[hc];exact hy⟩
 | next it s=>
  cases s with
  | false=>simp[ao]at h
  | true=>
   simp only[ao]at h
   cases hs:dg H (ρ it)with
   | none=>rw[hs]at h;cases h
   | some r=>
    obtain⟨q,y,hm,hy,_⟩:=jz hs
    simp only[ak,hm,ac,List.mem_singleton]at hc
    exact⟨y,by rw[hc];exact hy⟩
 | _=>simp[ak]at hc
theorem jG{o:Op}{ρ:Operand→AV}{c:Nat}(hc:c∈ai o ρ):c∈ak o ρ:=by
 cases o with
 | store t a x=>exact hc
 | call k=>
  simp only[ai]at hc
  simp only[ak]
  split at hc
  ·rename_i hk
   rw[List.mem_flatMap]at hc ⊢
   obtain⟨x,h1,h2⟩:=hc
   exact⟨x,List.mem_of_mem_take h1,h2⟩
  ·exact hc
  ·simp at hc
 | mapUpdate t m k x=>exact hc
 | next it s=>exact hc
 | _=>simp[ai]at hc
end
end Go.Proofs.YtelgfgfgghpjgaaGreatDoor.Am
end
section
namespace Go.Proofs.YtelgfgfgghpjgaaGreatDoor.Am
set_option linter.unusedVariables false
def dz(L:Nat→Bool)(i:Nat):Nat→Bool:=fun j=>if j=i then true else L j
theorem lX{p:Nat→Bool}:∀{k j:Nat},aO p k=some j→j<k
 | 0,j,h=>by cases h
 | k+1,j,h=>by
  unfold aO at h
  split at h
  ·cases h;omega
  ·have:=lX h;omega
def nI(H:aa):List Nat→aa→aa
 | [],K=>K
 | c::l,K=>nI H l {K with tr:=K.tr.set c (H.get c)}
theorem o9(H:aa):∀(l:List Nat) (K:aa) (c:Nat),(nI H l K).get c=if c∈l then H.get c else K.get c
 | [],K,c=>by simp[nI]
 | d::l,K,c=>by
  rw[nI,o9 H l]
  by_cases h1:c∈l
  ·rw[if_pos h1,if_pos (by simp[h1])]
  ·rw[if_neg h1]
   show(K.tr.set d (H.get d)).get c=_
   rw[Tr.get_set]
   by_cases h2:d=c
   ·subst h2;rw[if_pos rfl,if_pos (by simp)]
   ·rw[if_neg h2,if_neg (by simp[h1];exact fun e=>h2 e.symm)];rfl
section
variable {P:Program} {F:TypeId→Option (List TypeId)} {call:FuncId→List AV→aa→Option (AV×aa)} {ops:Array Oper} {base:Nat} {τ0:List AV} {H0:aa}
def vP(P:Program)(F:TypeId→Option (List TypeId))(call:FuncId→List AV→aa→Option (AV×aa))(ops:Array Oper)(base:Nat)(τ0:List AV)(H0:aa)(w0:World)(σ0:aC)(L:Nat→Bool)(a:Act)(w:World):Prop:=
 ∃σ K,ay w σ K∧(∀c,K.get c=hget P F call ops base τ0 H0 L c)∧K.next=oc P F call ops base τ0 H0 L∧a.tmps.size=τ0.length∧a.defers=[]∧(∀t x u,gB P F call ops base τ0 H0 L t=some x→a.tmps[t]? =some u→aw w σ (aq σ K) x u)∧
  bV w0 σ0 (aq σ0 H0) w σ (aq σ K)∧(∀c pl,σ c=some pl→σ0 c=some pl∨base≤c)∧(∀i,i<ops.size→L i=false→σ (base+i)=none)
def tl(P:Program)(F:TypeId→Option (List TypeId))(call:FuncId→List AV→aa→Option (AV×aa))(ops:Array Oper)(base:Nat)(τ0:List AV)(H0:aa)(L:Nat→Bool):List AV:=
 (List.range τ0.length).map fun t=>(gB P F call ops base τ0 H0 L t).getD aA
theorem pb(rf:bc P F call ops base τ0 H0)(L:Nat→Bool)(t:Tmp):(t<τ0.length→∃x,gB P F call ops base τ0 H0 L t=some x)∧(τ0.length≤t→gB P F call ops base τ0 H0 L t=none):=by
 unfold gB
 split
 ·rename_i j hj
  have hl:=rf.len (j+1) (lX hj)
  exact⟨fun ht=>⟨_,List.getElem?_eq_getElem (by rw[hl];exact ht)⟩,fun ht=>List.getElem?_eq_none (by rw[hl];exact ht)⟩
 ·exact⟨fun ht=>⟨_,List.getElem?_eq_getElem ht⟩,fun ht=>List.getElem?_eq_none ht⟩
theorem sh(rf:bc P F call ops base τ0 H0)(L:Nat→Bool)(t:Tmp):(tl P F call ops base τ0 H0 L)[t]? =gB P F call ops base τ0 H0 L t:=by
 unfold tl
 rw[List.getElem?_map]
 rcases Nat.lt_or_ge t τ0.length with h | h
 ·rw[List.getElem?_range h]
  obtain⟨x,hx⟩:=(pb rf L t).1 h
  simp[hx]
 ·rw[List.getElem?_eq_none (by simpa using h),(pb rf L t).2 h];rfl
theorem vW(rf:bc P F call ops base τ0 H0){L:Nat→Bool}{a:Act}{w:World}{σ:aC}{T:Nat→Prop}(h1:a.tmps.size=τ0.length)(h2:a.defers=[])(h3:∀t x u,gB P F call ops base τ0 H0 L t=some x→a.tmps[t]? =some u→aw w σ T x u):
  aQ w σ T (tl P F call ops base τ0 H0 L) a:=
 ⟨⟨by simp[tl,h1],fun t x u hx hu=>h3 t x u (by rw[←sh rf];exact hx) (by rw[←Array.getElem?_toList];exact hu)⟩,h2⟩
theorem tP{l m:List AV}{t:Nat}(h:l[t]? =m[t]?):l.getD t aA=m.getD t aA:=by simp[List.getD,h]
theorem si(run:eU P F call ops base τ0 H0)(rf:bc P F call ops base τ0 H0)(hst:fm ops){L:Nat→Bool}{i:Nat}(nx:Next ops L i){o:Oper}(ho:ops[i]? =some o):
  (∀x∈aE o.op,dU (bL P F call ops base τ0 H0 i).1 x=dU (tl P F call ops base τ0 H0 L) x)∧bl ops o (tl P F call ops base τ0 H0 L)=bl ops o (bL P F call ops base τ0 H0 i).1:=by
 have ht:∀t∈df ops o,(tl P F call ops base τ0 H0 L)[t]? =(bL P F call ops base τ0 H0 i).1[t]? :=fun t h=>by rw[sh rf,tO run hst nx ho h]
 refine⟨fun x hx=>?_,?_⟩
 ·cases x with
  | tmp t=>exact(tP (ht t (by
    simp only[df,List.mem_append]
    exact .inl (.inr (List.mem_filterMap.2 ⟨.tmp t,hx,rfl⟩))))).symm
  | const v=>rfl
  | global g=>rfl
  | func f=>rfl
 ·unfold bl
  cases hg:o.guard with
  | none=>rfl
  | some q=>
   obtain⟨j,want⟩:=q
   simp only[]
   cases hd:(ops[j]?).bind (·.dst)with
   | none=>rfl
   | some d=>
    simp only[]
    rw[ht d (by simp only[df,List.mem_append,hg,hd];right;simp)]
theorem lY(run:eU P F call ops base τ0 H0)(rf:bc P F call ops base τ0 H0)(hst:fm ops){L:Nat→Bool}{i:Nat}(nx:Next ops L i){o:Oper}(ho:ops[i]? =some o){v:AV}{v':Value}{a:Act}{w w':World}{σ σ':aC}{T T':Nat→Prop}
  (hv:(bL P F call ops base τ0 H0 (i+1)).1=cp (bL P F call ops base τ0 H0 i).1 o.dst v) (hr:aw w' σ' T' v v') (h1:a.tmps.size=τ0.length) (h3:∀t x u,gB P F call ops base τ0 H0 L t=some x→a.tmps[t]? =some u→aw w σ T x u) (hE:∀x u,aw w σ T x u→aw w' σ' T' x u) :
  (a.put o.dst v').tmps.size=τ0.length∧∀t x u,gB P F call ops base τ0 H0 (dz L i) t=some x→(a.put o.dst v').tmps[t]? =some u→aw w' σ' T' x u:=by
 refine⟨by cases o.dst<;>simp[Act.put,h1],fun t x u hx hu=>?_⟩
 by_cases hw:wr ops t i=true
 ·have hd:o.dst=some t:=by simpa[wr,ho]using hw
  have hl:aO (fun j=>dz L i j&&wr ops t j) ops.size=some i:=by
   refine j9 nx.lt nx.not hw fun j hj hne hwj hlt=>?_
   have hoj:ops[j]? =some ops[j]:=Array.getElem?_eq_getElem hj
   have hdj:(ops[j]).dst=some t:=by simpa[wr,hoj]using hwj
   rcases hst j i _ o hlt hoj ho with h4 | ⟨h4,_⟩
   ·exact nx.behind hj h4
   ·exact absurd (by simp[df,hdj]) (h4 t hd)
  unfold gB at hx
  rw[hl]at hx
  simp only[hv,hd,cp,List.getElem?_set]at hx
  simp only[hd,Act.put,Array.getElem?_setIfInBounds]at hu
  simp only[if_true]at hx hu
  split at hx
  ·split at hu
   ·cases hx;cases hu;exact hr
   ·cases hu
  ·cases hx
 ·have hw':wr ops t i=false:=by simpa using hw
  have hd:(o.dst==some t)=false:=by simpa[wr,ho]using hw'
  have hl:aO (fun j=>dz L i j&&wr ops t j) ops.size=aO (fun j=>L j&&wr ops t j) ops.size:=fk hw'
  have hx':gB P F call ops base τ0 H0 L t=some x:=by unfold gB at hx ⊢;rw[hl]at hx;exact hx
  refine hE x u (h3 t x u hx' ?_)
  rw[←hu]
  cases hdd:o.dst with
  | none=>rfl
  | some d=>
   have:d≠t:=by rw[hdd]at hd;simpa using hd
   simp[Act.put,this]
end
end Go.Proofs.YtelgfgfgghpjgaaGreatDoor.Am
end
section
namespace Go.Proofs.YtelgfgfgghpjgaaGreatDoor.Am
set_option linter.unusedVariables false
section
variable {P:Program} {F:TypeId→Option (List TypeId)} {call:FuncId→List AV→aa→Option (AV×aa)} {ops:Array Oper} {base:Nat} {τ0:List AV} {H0:aa}
theorem qM(rf:bc P F call ops base τ0 H0)(L:Nat→Bool):H0.next≤oc P F call ops base τ0 H0 L:=by
 unfold oc
 split
 ·rename_i j hj;exact rf.le (j+1) (lX hj)
 ·exact Nat.le_refl _
theorem ka{L:Nat→Bool}{i c:Nat}(h:aU (cu P F call ops base τ0 H0 i) c=false):hget P F call ops base τ0 H0 (dz L i) c=hget P F call ops base τ0 H0 L c:=by
 have hl:aO (fun j=>dz L i j&&aU (cu P F call ops base τ0 H0 j) c) ops.size=aO (fun j=>L j&&aU (cu P F call ops base τ0 H0 j) c) ops.size:=fk (p:=fun j=>aU (cu P F call ops base τ0 H0 j) c) h
 unfold hget
 rw[hl]
theorem pc{L:Nat→Bool}{i c:Nat}(nx:Next ops L i)(h:aU (cu P F call ops base τ0 H0 i) c=true)(hl:∀j,j<ops.size→j≠i→touched (cu P F call ops base τ0 H0 j) c→i<j→((aH ops.toList []).getD j 0).testBit i=true):hget P F call ops base τ0 H0 (dz L i) c=(bL P F call ops base τ0 H0 (i+1)).2.get c:=by
 have hw:aO (fun j=>dz L i j&&aU (cu P F call ops base τ0 H0 j) c) ops.size=some i:=j9 (p:=fun j=>aU (cu P F call ops base τ0 H0 j) c) nx.lt nx.not h fun j hj hne ht hlt=>nx.behind hj (hl j hj hne (i7.1 ht) hlt)
 unfold hget
 rw[hw]
theorem sj(fit:p7 P F)(hs:bY P call)(hch:∀f args H v H',Bd H→call f args H=some (v,H')→kU H H')(run:eU P F call ops base τ0 H0)(rf:bc P F call ops base τ0 H0)(hst:fm ops)(hb:base+ops.size=H0.next)
  {w0:World} {σ0:aC} {L:Nat→Bool} {i:Nat} {a:Act} {w:World} (nx:Next ops L i) (h:vP P F call ops base τ0 H0 w0 σ0 L a w) {Q:Exit→Act→World→Prop}:wpOp P ops Q i (vP P F call ops base τ0 H0 w0 σ0 (dz L i)) a w:=by
 obtain⟨σ,K,hW,hK,hn,hsz,hdf,hrep,hE0,hnm,hfr⟩:=h
 have hi:=nx.lt
 obtain⟨o,ho⟩:∃o,ops[i]? =some o:=⟨_,Array.getElem?_eq_getElem hi⟩
 obtain⟨hu,hwt⟩:=si run rf hst nx ho
 have htm:=vW rf hsz hdf hrep
 have hbi:σ (base+i)=none:=hfr i hi nx.not
 have hKb:K.get (base+i)=none:=by
  cases hg:K.get (base+i)with
  | none=>rfl
  | some x=>obtain⟨pl,_,_,h1,_⟩:=hW.live _ x hg;rw[hbi]at h1;cases h1
 have hSb:(bL P F call ops base τ0 H0 i).2.get (base+i)=none:=rf.fresh i i (Nat.le_refl _) hi
 have hlt:base+i<K.next:=by have:=qM rf L;rw[hn];omega
 have hfresh:∀{σ':aC},(∀c pl,σ' c=some pl→σ c=some pl∨c=base+i∨K.next≤c)→∀j,j<ops.size→dz L i j=false→σ' (base+j)=none:=fun {σ'} hσ j hj hLj=>by
  have hji:j≠i:=by rintro rfl;simp[dz]at hLj
  have hL:L j=false:=by simpa[dz,hji]using hLj
  cases hg:σ' (base+j)with
  | none=>rfl
  | some pl=>
   have hge:=qM rf L
   rcases hσ _ pl hg with h1 | h1 | h1
   ·rw[hfr j hj hL]at h1;cases h1
   ·omega
   ·omega
 have hstep:=run.step i hi
 unfold az at hstep
 rw[ho]at hstep
 simp only[]at hstep
 unfold wpOp
 rw[ho]
 simp only[]
 split at hstep
 ·rename_i hwant
  rw[←hwt]at hwant
  rw[if_pos (dx htm hwant)]
  left
  unfold Oper.wp
  split at hstep
  ·rename_i v H' hop
   simp only[Option.some.injEq,Prod.mk.injEq]at hstep
   obtain⟨e1,e2,e3⟩:=hstep
   obtain⟨q1,q2,q3⟩:=qK (P:=P) (F:=F) hu (base+i) (bL P F call ops base τ0 H0 i).2
   have hop2:ao P F o.op (dU (tl P F call ops base τ0 H0 L)) (base+i) (bL P F call ops base τ0 H0 i).2=some (.val v H'):=by rw[←q1];exact hop
   have hreads:∀c,c∈ak o.op (dU (tl P F call ops base τ0 H0 L))→∃x,(bL P F call ops base τ0 H0 i).2.get c=some x∧∀j,j<ops.size→j≠i→touched (cu P F call ops base τ0 H0 j) c→(j<i→((aH ops.toList []).getD i 0).testBit j=true)∧(i<j→((aH ops.toList []).getD j 0).testBit i=true):=fun c hc=>by
    obtain⟨x,hx⟩:=o8 hop2 hc
    exact⟨x,hx,sg run rf hi e3.symm (by show c∈ak o.op (dU (bL P F call ops base τ0 H0 i).1);rw[q2];exact hc) hx⟩
   have hr:∀c∈ak o.op (dU (tl P F call ops base τ0 H0 L)),K.get c=(bL P F call ops base τ0 H0 i).2.get c:=fun c hc=>by
    obtain⟨x,_,h1⟩:=hreads c hc
    rw[hK]
    exact qL run rf nx h1
   obtain⟨K',l1,l2,l3⟩:=rx hop2 K hr (by rw[hKb,hSb])
   obtain⟨v',w',σ',h1,h2,h3,h4,h5⟩:=nE fit hW hbi hlt (o:=o) (htm.eval hW.glob) l1
   have htouch:∀c,aU (cu P F call ops base τ0 H0 i) c=true↔(c∈ai o.op (dU (tl P F call ops base τ0 H0 L))∨c=base+i):=fun c=>by
    rw[←e3,←q3]
    simp[aU]
   have hinv:vP P F call ops base τ0 H0 w0 σ0 (dz L i) (a.put o.dst v') w':=by
    obtain⟨t1,t2⟩:=lY run rf hst nx ho e1.symm h2 hsz hrep (fun x u hxu=>hxu.mono h4)
    refine⟨σ',K',h3,fun c=>?_,?_,t1,by cases o.dst<;>exact hdf,t2,hE0.trans h4,fun c pl hc=>?_,hfresh (fun c pl hc=>?_)⟩
    ·rw[l3]
     cases ht:aU (cu P F call ops base τ0 H0 i) c with
     | true=>
      have hc:=(htouch c).1 ht
      rw[if_pos hc,pc nx ht,←e2]
      ·rfl
      ·intro j hj hne hjt hlt'
       rcases hc with hc | hc
       ·obtain⟨x,_,h6⟩:=hreads c (jG hc)
        exact(h6 j hj hne hjt).2 hlt'
       ·obtain⟨y,hy,hyt⟩:=hjt
        rcases run.free j i _ y hlt' hj e3.symm hy with h6 | h6
        ·exact h6
        ·exfalso
         have fr:=bR h6
         rcases hyt with t | t | ⟨t3,t4,_⟩
         ·exact fr.mw c (by simp[hc]) t
         ·have:=((rf.chg j hj).made y hy).1 c t;omega
         ·have:=((rf.chg j hj).made y hy).2 t3
          have:=rf.le j (by omega)
          omega
     | false=>
      rw[if_neg (fun hc=>by rw[(htouch c).2 hc]at ht;cases ht),ka ht,hK]
    ·rw[l2,hn]
     have:cZ (cu P F call ops base τ0 H0 i)=false:=by rw[←e3];rfl
     have hl:aO (fun j=>dz L i j&&cZ (cu P F call ops base τ0 H0 j)) ops.size=aO (fun j=>L j&&cZ (cu P F call ops base τ0 H0 j)) ops.size:=fk (p:=fun j=>cZ (cu P F call ops base τ0 H0 j)) this
     unfold oc
     rw[hl]
    ·rcases h5 c pl hc with h6 | h6
     ·exact hnm c pl h6
     ·exact .inr (by omega)
    ·rcases h5 c pl hc with h6 | h6
     ·exact .inl h6
     ·exact .inr (.inl h6)
   rcases h1 with h1 | ⟨h1,rfl⟩
   ·rw[h1];exact hinv
   ·rw[h1];exact hinv
  ·rename_i f args hop
   split at hstep
   ·rename_i v H1 hcall
    simp only[Option.some.injEq,Prod.mk.injEq]at hstep
    obtain⟨e1,e2,e3⟩:=hstep
    obtain⟨q1,q2,q3⟩:=qK (P:=P) (F:=F) hu (base+i) (bL P F call ops base τ0 H0 i).2
    have hop2:ao P F o.op (dU (tl P F call ops base τ0 H0 L)) (base+i) (bL P F call ops base τ0 H0 i).2=some (.call f args):=by rw[←q1];exact hop
    have hopK:=lV hop2 K
    obtain⟨fn,cd,hf,hbd⟩:=hs.body _ _ _ _ _ hcall
    obtain⟨vs,g1,g2⟩:=oZ fit (o:=o) (b:=base+i) (htm.eval hW.glob) hopK hf hbd
    have hHg:=cY base ((aH ops.toList []).getD i 0) i (bL P F call ops base τ0 H0 i).2
    have hHn:=(cl base ((aH ops.toList []).getD i 0) i (bL P F call ops base τ0 H0 i).2).1
    generalize hHc:bj base ((aH ops.toList []).getD i 0) i (bL P F call ops base τ0 H0 i).2=Hh at hcall e3 hHg hHn
    have hbdc:Bd ({Hh with log:=[]}:aa):=fun d hd=>by
     show Hh.get d=none
     rw[hHg]
     split
     ·rfl
     ·exact rf.bd i (by omega) d (by rw[←hHn];exact hd)
    have hcg:kU ({Hh with log:=[]}:aa) H1:=hch _ _ _ _ _ hbdc hcall
    generalize hHc2:({Hh with log:=[]}:aa)=Hc at hcall hcg hbdc
    have hHg:∀c,Hc.get c=if(∃j,j<i∧((aH ops.toList []).getD i 0).testBit j=false∧c=base+j)then none else(bL P F call ops base τ0 H0 i).2.get c:=fun c=>by rw[←hHc2];exact hHg c
    have hHn:Hc.next=(bL P F call ops base τ0 H0 i).2.next:=by rw[←hHc2];exact hHn
    have hHh:∀c,Hh.get c=Hc.get c:=fun c=>by rw[←hHc2];rfl
    have htouch:∀c,aU (cu P F call ops base τ0 H0 i) c=true↔((c∈H1.log∧(Hc.get c).isSome=true)∨((bL P F call ops base τ0 H0 i).2.next≤c∧c<H1.next)):=fun c=>by
     rw[←e3]
     simp[aU,hHh]
    have hKn:K.next=(bL P F call ops base τ0 H0 i).2.next:=by
     rw[hn,qi run i (by omega),oc,gA (p:=fun j=>cZ (cu P F call ops base τ0 H0 j)) hi nx.not]
     intro j hj hne hcj
     cases hx:cu P F call ops base τ0 H0 j with
     | none=>rw[hx]at hcj;cases hcj
     | some x=>
      rw[hx]at hcj
      refine⟨fun hl=>?_,fun hl=>?_⟩
      ·rcases run.free i j x _ hl hi hx e3.symm with h6 | h6
       ·exact nx.before h6
       ·have:=(bR h6).cc hcj;cases this
      ·rcases run.free j i _ x hl hj e3.symm hx with h6 | h6
       ·exact nx.behind hj h6
       ·have:=(bR h6).cc rfl
        have h7:x.isCall=true:=hcj
        rw[h7]at this;cases this
    have hsub:∀c x,Hc.get c=some x→K.get c=some x:=fun c x hx=>by
     rw[hHg]at hx
     split at hx
     ·cases hx
     ·rename_i hnh
      rw[hK,qL run rf nx ?_]
      ·exact hx
      ·intro j hj hne ht
       obtain⟨y,hy,hyt⟩:=ht
       refine⟨fun hl=>?_,fun hl=>?_⟩
       ·cases hbit:((aH ops.toList []).getD i 0).testBit j with
        | true=>rfl
        | false=>
         exfalso
         rcases run.free i j y _ hl hi hy e3.symm with h6 | h6
         ·rw[hbit]at h6;cases h6
         ·have fr:=bR h6
          rcases hyt with t | t | ⟨t3,_,_⟩
          ·exact fr.wc rfl c t
          ·exact hnh ⟨j,hl,hbit,((rf.chg j hj).made y hy).1 c t⟩
          ·have:=fr.cc t3;cases this
       ·rcases later run rf hl hj e3.symm hy ⟨y,hy,hyt⟩ hx with h6 | ⟨fr,h6 | ⟨_,h6⟩⟩
        ·exact h6
        ·exact absurd h6 (fr.cw rfl c)
        ·exact h6.elim
    have hnK:Hc.next=K.next:=by rw[hHn,hKn]
    have hWc:=hW.part hsub (by rw[hnK];exact Nat.le_refl _)
    rw[g1]
    refine(hs.ok _ _ _ _ _ hcall w (σ.part K Hc) vs hWc ⟨g2.1,fun q x u hx hu=>by rw[jF hsub];exact aw.sig (σ:=σ) (σ':=σ.part K Hc) rfl (g2.2 q x u hx hu)⟩).mono ?_
    rintro e w' ⟨v',σ',rfl,k1,k2,k3,k4⟩
    have hK1:=hcg.next
    obtain⟨K',hK'n,hK'g⟩:∃K':aa,K'.next=H1.next∧∀c,K'.get c=if aU (cu P F call ops base τ0 H0 i) c=true then H1.get c else K.get c:=by
     refine⟨{nI H1 (H1.log.filter (fun c=>(Hc.get c).isSome)++List.range' K.next (H1.next-K.next)) K with next:=H1.next},rfl,fun c=>?_⟩
     show(nI H1 _ K).get c=_
     rw[o9]
     have:c∈(H1.log.filter (fun c=>(Hc.get c).isSome)++List.range' K.next (H1.next-K.next))↔aU (cu P F call ops base τ0 H0 i) c=true:=by
      rw[htouch,List.mem_append,List.mem_filter,List.mem_range'_1,hKn]
      constructor
      ·rintro(h6 | h6)
       ·exact .inl h6
       ·exact .inr (by omega)
      ·rintro(h6 | h6)
       ·exact .inl h6
       ·exact .inr (by omega)
     by_cases ht:aU (cu P F call ops base τ0 H0 i) c=true
     ·rw[if_pos (this.2 ht),if_pos ht]
     ·rw[if_neg (fun h6=>ht (this.1 h6)),if_neg ht]
    have hbd1:Bd H1:=hcg.bd hbdc
    have hform:∀c,K'.get c=if Hc.get c=none∧c<K.next then K.get c else H1.get c:=fun c=>by
     rw[hK'g]
     by_cases ht:aU (cu P F call ops base τ0 H0 i) c=true
     ·rw[if_pos ht,if_neg]
      rintro⟨h6,h7⟩
      rcases(htouch c).1 ht with⟨_,h8⟩ | ⟨h8,_⟩
      ·rw[h6]at h8;cases h8
      ·omega
     ·rw[if_neg ht]
      split
      ·rfl
      ·rename_i hnn
       cases hg:Hc.get c with
       | some x=>
        have hcl:c∉H1.log:=fun h6=>ht ((htouch c).2 (.inl ⟨h6,by rw[hg];rfl⟩))
        have hcn:c<Hc.next:=by
         rcases Nat.lt_or_ge c Hc.next with h6 | h6
         ·exact h6
         ·rw[hbdc c h6]at hg;cases hg
        rw[hcg.keep c hcn hcl,hg]
        exact hsub c x hg
       | none=>
        have hcn:K.next≤c:=by
         rcases Nat.lt_or_ge c K.next with h6 | h6
         ·exact absurd ⟨hg,h6⟩ hnn
         ·exact h6
        have hc1:H1.next≤c:=by
         rcases Nat.lt_or_ge c H1.next with h6 | h6
         ·exact absurd ((htouch c).2 (.inr ⟨by rw[←hKn];exact hcn,h6⟩)) ht
         ·exact h6
        rw[hbd1 c hc1]
        cases hg2:K.get c with
        | none=>rfl
        | some x=>
         obtain⟨pl,_,_,h6,_⟩:=hW.live c x hg2
         have:=hW.named c pl h6
         omega
    obtain⟨z1,z2,z3⟩:=hW.whole hsub hnK k2 k3 hcg.dom hform (by rw[hK'n];exact Nat.le_refl _)
    obtain⟨t1,t2⟩:=lY run rf hst nx ho (v:=v) (v':=v') (w':=w') (σ':=⟨σ'.map,σ.fr⟩) (T':=aq ⟨σ'.map,σ.fr⟩ K') e1.symm (by rw[z3];exact aw.sig (σ:=σ') (σ':=⟨σ'.map,σ.fr⟩) rfl k1) hsz hrep (fun x u hxu=>hxu.mono z2)
    refine(⟨⟨σ'.map,σ.fr⟩,K',z1,fun c=>?_,?_,t1,by cases o.dst<;>exact hdf,t2,hE0.trans z2,fun c pl hc=>?_,hfresh (fun c pl hc=>?_)⟩:vP P F call ops base τ0 H0 w0 σ0 (dz L i) (a.put o.dst v') w')
    ·rw[hK'g]
     cases ht:aU (cu P F call ops base τ0 H0 i) c with
     | true=>
      have hnhid:¬ ∃j,j<i∧((aH ops.toList []).getD i 0).testBit j=false∧c=base+j:=by
       intro hh
       rcases(htouch c).1 ht with⟨_,h8⟩ | ⟨h8,_⟩
       ·rw[hHg,if_pos hh]at h8;cases h8
       ·obtain⟨j,hj,_,rfl⟩:=hh
        have:=rf.le i (by omega)
        omega
      rw[if_pos rfl,pc nx ht,←e2]
      ·show H1.get c=(dh _ _ _ _ _).get c
       rw[eT,if_neg hnhid]
      ·intro j hj hne hjt hl
       obtain⟨y,hy,hyt⟩:=hjt
       rcases run.free j i _ y hl hj e3.symm hy with h6 | h6
       ·exact h6
       ·exfalso
        have fr:=bR h6
        rcases hyt with t | t | ⟨t3,_,_⟩
        ·exact fr.cw rfl c t
        ·have hcj:=((rf.chg j hj).made y hy).1 c t
         rcases(htouch c).1 ht with⟨_,h8⟩ | ⟨h8,_⟩
         ·rw[hHg,if_neg hnhid,hcj,rf.fresh i j (by omega) hj]at h8;cases h8
         ·have:=rf.le i (by omega)
          omega
        ·have h7:=fr.cc rfl
         rw[t3]at h7;cases h7
     | false=>rw[if_neg (by simp),ka ht,hK]
    ·rw[hK'n]
     have hcb:cZ (cu P F call ops base τ0 H0 i)=true:=by rw[←e3];rfl
     have hl:aO (fun j=>dz L i j&&cZ (cu P F call ops base τ0 H0 j)) ops.size=some i:=j9 (p:=fun j=>cZ (cu P F call ops base τ0 H0 j)) hi nx.not hcb (fun j hj hne hcj hl=>by
      cases hx:cu P F call ops base τ0 H0 j with
      | none=>rw[hx]at hcj;cases hcj
      | some x=>
       rw[hx]at hcj
       rcases run.free j i _ x hl hj e3.symm hx with h6 | h6
       ·exact nx.behind hj h6
       ·have:=(bR h6).cc rfl
        have h7:x.isCall=true:=hcj
        rw[h7]at this;cases this)
     unfold oc
     rw[hl]
     simp only[]
     rw[←e2]
     exact(cP _ _ _ _ _).1.symm
    ·rcases k4 c pl hc with h6 | h6
     ·exact hnm c pl h6
     ·exact .inr (by have:=rf.le i (by omega);omega)
    ·rcases k4 c pl hc with h6 | h6
     ·exact .inl h6
     ·exact .inr (.inr (by omega))
   ·cases hstep
  ·cases hstep
 ·rename_i hwant
  rw[←hwt]at hwant
  rw[if_neg (by rw[dx htm hwant];simp)]
  simp only[Option.some.injEq,Prod.mk.injEq]at hstep
  obtain⟨e1,e2,e3⟩:=hstep
  obtain⟨t1,t2⟩:=lY run rf hst nx ho e1.symm eQ hsz hrep (fun x u hxu=>hxu)
  have ht:∀c,aU (cu P F call ops base τ0 H0 i) c=false:=fun c=>by rw[←e3];rfl
  refine⟨σ,K,hW,fun c=>by rw[ka (ht c),hK],?_,t1,by cases o.dst<;>exact hdf,t2,hE0,hnm,hfresh (fun c pl hc=>.inl hc)⟩
  rw[hn]
  have:cZ (cu P F call ops base τ0 H0 i)=false:=by rw[←e3];rfl
  have hl:aO (fun j=>dz L i j&&cZ (cu P F call ops base τ0 H0 j)) ops.size=aO (fun j=>L j&&cZ (cu P F call ops base τ0 H0 j)) ops.size:=fk (p:=fun j=>cZ (cu P F call ops base τ0 H0 j)) this
  unfold oc
  rw[hl]
 ·cases hstep
end
end Go.Proofs.YtelgfgfgghpjgaaGreatDoor.Am
end
