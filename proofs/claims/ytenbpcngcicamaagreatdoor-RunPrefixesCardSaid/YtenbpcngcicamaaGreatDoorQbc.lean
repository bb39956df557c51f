/- A part of the proof; the statement is proved in the last part. -/
import Derived.Test.YtenbpcngcicamaaGreatDoorQbb
set_option linter.unusedSimpArgs false
set_option linter.unusedVariables false
namespace Go.Proofs.YtenbpcngcicamaaGreatDoor.Am
section
def bH:Op→List Operand
 |.move x|.assign x|.box _ x|.load _ x|.nilCheck x|.unOp _ _ x|.convert _ _ x|.fieldAddr _ x _|.field _ x _|.extract x _=>[x]
 |.pick c a b=>[c,a,b]
 |.build _ ps|.buildSlice _ _ ps=>ps.toList.map (·.2)
 |.store _ a v|.binOp _ _ a v _|.makeSlice _ a v|.indexAddr _ a v|.index _ a v=>[a,v]
 |.makeFunc _ _ c=>c.toList
 |.lookup _ m k _=>[m,k]
 |.mapUpdate _ m k x=>[m,k,x]
 |.range _ x|.next x _=>[x]
 |.slice _ x l h m=>x::(l.toList++h.toList++m.toList)
 |.call c=>(match c.callee with|.value f=>[f]|_=>[])++c.args.toList
 |_=>[]
section
variable {P:Program} {F:TypeId→Option (List TypeId)}
theorem Kz{ρ ρ2:Operand→AV}{l:List Operand}(h:∀x∈l,ρ x=ρ2 x):l.map ρ=l.map ρ2:=List.map_congr_left h
theorem Fv{ρ ρ2:Operand→AV}{ps:List (Nat×Operand)}(h:∀x∈ps.map (·.2),ρ x=ρ2 x):(ps.map λp=>(p.1,ρ p.2))=ps.map λp=>(p.1,ρ2 p.2):=
 List.map_congr_left λp hp=>by rw[h p.2 (VY.2 ⟨p,hp,rfl⟩)]
theorem oW{ρ ρ2:Operand→AV}:∀{l:List Operand},(∀x∈l,ρ x=ρ2 x)→(l.flatMap λx=>aa (ρ x))=l.flatMap λx=>aa (ρ2 x)
 |[],_=>rfl
 |a::l,h=>by simp only[List.flatMap_cons];rw[h a W4,oW λx hx=>h x (by simp[hx])]
theorem KA{o:Op}{ρ ρ2:Operand→AV}(h:∀x∈bH o,ρ x=ρ2 x)(b:Nat)(H:ac):aJ P F o ρ b H=aJ P F o ρ2 b H∧aE o ρ=aE o ρ2∧aC o ρ=aC o ρ2:=by
 cases o with
 |build t ps=>refine⟨?_,rfl,rfl⟩;simp only[aJ];rw[Fv h]
 |buildSlice t n ps=>refine⟨?_,rfl,rfl⟩;simp only[aJ];rw[Fv h]
 |makeFunc fn first c=>refine⟨?_,rfl,rfl⟩;cases fn<;>simp only[aJ];rw[Kz (l:=c.toList) h]
 |slice t x l hi m=>
  have hx:=h x (by simp[bH]);have hl:l.map ρ=l.map ρ2:=by cases l with
   |none=>rfl
   |some y=>simp[h y (by simp[bH])]
  have hh:hi.map ρ=hi.map ρ2:=by cases hi with
   |none=>rfl
   |some y=>simp[h y (by simp[bH])]
  have hm:m.map ρ=m.map ρ2:=by cases m with
   |none=>rfl
   |some y=>simp[h y (by simp[bH])]
  exact⟨by simp only[aJ];rw[hx,hl,hh,hm],by simp only[aE];rw[hx],rfl⟩
 |call c=>
  have ha:c.args.toList.map ρ=c.args.toList.map ρ2:=Kz λx hx=>h x (by simp only[bH,Vz];exact .inr hx)
  have hm:∀x∈c.args.toList,ρ x=ρ2 x:=λx hx=>h x (by simp only[bH,Vz];exact .inr hx)
  have hr:aE (.call c) ρ=aE (.call c) ρ2:=by
   simp only[aE];split
   ·exact oW hm
   ·exact oW hm
   ·rfl
  have hk:aC (.call c) ρ=aC (.call c) ρ2:=by
   simp only[aC];split
   ·exact oW λx hx=>hm x (List.mem_of_mem_take hx)
   ·exact oW hm
   ·rfl
  refine⟨?_,hr,hk⟩;simp only[aJ];split
  ·rw[ha]
  ·rename_i f hf;rw[h f (by simp only[bH,hf];simp),ha]
  ·rfl
 |store t a v=>refine⟨by simp only[aJ];rw[h a (by simp[bH]),h v (by simp[bH])],by simp only[aE];rw[h a (by simp[bH])],by simp only[aC];rw[h a (by simp[bH])]⟩
 |load t a=>refine⟨by simp only[aJ];rw[h a (by simp[bH])],by simp only[aE];rw[h a (by simp[bH])],rfl⟩
 |indexAddr t a v=>refine⟨by simp only[aJ];rw[h a (by simp[bH]),h v (by simp[bH])],by simp only[aE];rw[h a (by simp[bH])],rfl⟩
 |pick c x y=>refine⟨by simp only[aJ];rw[h c (by simp[bH]),h x (by simp[bH]),h y (by simp[bH])],rfl,rfl⟩
 |binOp op t x y u=>refine⟨by simp only[aJ];rw[h x (by simp[bH]),h y (by simp[bH])],rfl,rfl⟩
 |makeSlice t x y=>refine⟨by simp only[aJ];rw[h x (by simp[bH]),h y (by simp[bH])],rfl,rfl⟩
 |index t x y=>refine⟨by simp only[aJ];rw[h x (by simp[bH]),h y (by simp[bH])],rfl,rfl⟩
 |move x=>refine⟨by simp only[aJ];rw[h x (by simp[bH])],rfl,rfl⟩
 |assign x=>refine⟨by simp only[aJ];rw[h x (by simp[bH])],rfl,rfl⟩
 |box t x=>refine⟨by simp only[aJ];rw[h x (by simp[bH])],rfl,rfl⟩
 |nilCheck x=>refine⟨by simp only[aJ];rw[h x (by simp[bH])],rfl,rfl⟩
 |unOp op t x=>refine⟨by simp only[aJ];rw[h x (by simp[bH])],rfl,rfl⟩
 |convert s d x=>refine⟨by simp only[aJ];rw[h x (by simp[bH])],rfl,rfl⟩
 |fieldAddr s x f=>refine⟨by simp only[aJ];rw[h x (by simp[bH])],rfl,rfl⟩
 |field s x f=>refine⟨by simp only[aJ];rw[h x (by simp[bH])],rfl,rfl⟩
 |extract x i=>refine⟨by simp only[aJ];rw[h x (by simp[bH])],rfl,rfl⟩
 |makeMap t r=>cases r<;>exact⟨rfl,rfl,rfl⟩
 |lookup t m k ok=>exact⟨by simp only[aJ];rw[h m (by simp[bH]),h k (by simp[bH])],by simp only[aE];rw[h m (by simp[bH])],rfl⟩
 |mapUpdate t m k x=>exact⟨by simp only[aJ];rw[h m (by simp[bH]),h k (by simp[bH]),h x (by simp[bH])],by simp only[aE];rw[h m (by simp[bH])],by simp only[aC];rw[h m (by simp[bH])]⟩
 |range t x=>exact⟨by simp only[aJ];rw[h x (by simp[bH])],rfl,rfl⟩
 |next it s=>cases s<;>exact⟨by simp only[aJ]<;>rw[h it (by simp[bH])],by simp only[aE];rw[h it (by simp[bH])],by simp only[aC];rw[h it (by simp[bH])]⟩
 |_=>exact⟨rfl,rfl,rfl⟩
def vW(P:Program)(F:TypeId→Option (List TypeId))(o:Op)(ρ:Operand→AV)(b:Nat)(v:AV)(H' K:ac):Prop:=
 ∃K',aJ P F o ρ b K=some (.val v K')∧K'.next=K.next∧∀c,K'.get c=if c∈aC o ρ∨c=b then H'.get c else K.get c
theorem vW.same{o:Op}{ρ:Operand→AV}{b:Nat}{v:AV}{H K:ac}(hb:K.get b=H.get b)(hw:aC o ρ=[])(h:aJ P F o ρ b K=some (.val v K)):vW P F o ρ b v H K:=by
 refine⟨K,h,rfl,λc=>?_⟩;rw[hw];split
 ·rename_i hc;rcases hc with hc|hc
  ·simp at hc
  ·rw[hc];exact hb
 ·rfl
theorem vW.new{o:Op}{ρ:Operand→AV}{b:Nat}{v:AV}{H K:ac}{x:Blk}(hw:aC o ρ=[])(h:aJ P F o ρ b K=some (.val v (K.new b x))):vW P F o ρ b v (H.new b x) K:=by
 refine⟨_,h,rfl,λc=>?_⟩;rw[hw,ac.get_new,ac.get_new];by_cases hc:b=c
 ·rw[if_pos hc,if_pos hc,if_pos (.inr hc.symm)]
 ·rw[if_neg hc,if_neg];rintro(h1|h1)
  ·simp at h1
  ·exact hc h1.symm
theorem vW.put{o:Op}{ρ:Operand→AV}{b q:Nat}{v:AV}{H K:ac}{x:Blk}(hb:K.get b=H.get b)(hw:aC o ρ=[q])(h:aJ P F o ρ b K=some (.val v (K.put q (some x)))):vW P F o ρ b v (H.put q (some x)) K:=by
 refine⟨_,h,rfl,λd=>?_⟩;rw[hw,ac.get_put,ac.get_put];by_cases hd:q=d
 ·rw[if_pos hd,if_pos hd,if_pos (.inl (by simp[hd]))]
 ·rw[if_neg hd,if_neg hd];split
  ·rename_i hc;rcases hc with hc|hc
   ·simp at hc;exact absurd hc.symm hd
   ·rw[hc];exact hb
  ·rfl
theorem vW.sameW{o:Op}{ρ:Operand→AV}{b q:Nat}{v:AV}{H K:ac}(hb:K.get b=H.get b)(hw:aC o ρ=[q])(hq:K.get q=H.get q)(h:aJ P F o ρ b K=some (.val v K)):vW P F o ρ b v H K:=by
 refine⟨K,h,rfl,λc=>?_⟩;rw[hw];split
 ·rename_i hc;rcases hc with hc|hc
  ·simp at hc;rw[hc];exact hq
  ·rw[hc];exact hb
 ·rfl
theorem vX{H K:ac}{n:Nat}{x:AV}(hr:∀c∈aa x,K.get c=H.get c):ft K n x=ft H n x:=by cases x<;>simp only[ft];rw[hr _ (by simp[aa])]
theorem HK{H K:ac}{x:AV}(hr:∀c∈dq x,K.get c=H.get c):ms K x=ms H x:=by cases x<;>simp only[ms];rw[hr _ (by simp[dq])]
theorem LD{o:Op}{ρ:Operand→AV}{b:Nat}{v:AV}{H H':ac}(h:aJ P F o ρ b H=some (.val v H'))(K:ac)(hr:∀c∈aE o ρ,K.get c=H.get c)(hb:K.get b=H.get b):vW P F o ρ b v H' K:=by
 cases o with
 |load t a=>
  simp only[aJ]at h;obtain⟨h1,rfl⟩:=fj h;refine .same hb rfl ?_;have:m7 P K t (ρ a)=m7 P H' t (ρ a):=by simp only[aE]at hr;generalize ρ a=x at hr;cases x<;>simp only[m7];rw[hr _ (by simp[aa])]
  simp only[aJ,this,h1,VL]
 |indexAddr t x ix=>
  simp only[aJ]at h;obtain⟨h1,rfl⟩:=fj h;refine .same hb rfl ?_;have:dH P (ms K (ρ x)) t (ρ x) (ρ ix)=some v:=by rw[HK hr];exact h1
  simp only[aJ,this,VL]
 |slice t x lo hi mx=>
  simp only[aJ]at h;split at h
  ·cases h
  ·rename_i hcnd;obtain⟨h1,rfl⟩:=fj h;refine .same hb rfl ?_;have:kI P (ms K (ρ x)) t (ρ x) (lo.map ρ) (hi.map ρ) (mx.map ρ)=some v:=by rw[HK hr];exact h1
   simp only[aJ,this,VL];rw[if_neg hcnd]
 |store t a x=>
  simp only[aJ]at h;cases hst:fL P H t (ρ a) (ρ x)with
  |none=>rw[hst]at h;cases h
  |some H1=>
   rw[hst]at h;cases h;simp only[aE]at hr;have hst2:=hst;unfold fL at hst;split at hst
   ·rename_i c i off cs n ha hcs hn;rw[ha]at hr;have hkc:=hr c (by simp[aa]);split at hst
    ·rename_i y hy;split at hst
     ·rename_i r hrw;split at hst
      ·rename_i hcond;cases hst;refine⟨K.put c (some {y with rows:=y.rows.set i (bv r off cs)}),?_,rfl,λd=>?_⟩
       ·simp only[aJ,fL,ha,hcs,hn,hkc,hy,hrw];rw[if_pos hcond];rfl
       ·have hw:aC (.store t a x) ρ=[c]:=by simp[aC,ha,aa]
        rw[hw,ac.get_put,ac.get_put];by_cases hd:c=d
        ·rw[if_pos hd,if_pos hd,if_pos (.inl (by simp[hd]))]
        ·rw[if_neg hd,if_neg hd];split
         ·rename_i hc;rcases hc with hc|hc
          ·simp at hc;exact absurd hc.symm hd
          ·rw[hc];exact hb
         ·rfl
      ·cases hst
     ·cases hst
    ·cases hst
   ·cases hst
 |call c=>
  simp only[aJ]at h;split at h
  ·rename_i bi hcal;cases hbi:aR P H b bi c.argTypes (c.args.toList.map ρ)with
   |none=>rw[hbi]at h;cases h
   |some r=>
    obtain⟨v0,H1⟩:=r;rw[hbi]at h;cases h;have fin:∀{K':ac} {u:AV},aR P K b bi c.argTypes (c.args.toList.map ρ)=some (u,K')→aJ P F (.call c) ρ b K=some (.val u K'):=λhk=>by simp only[aJ,hcal,hk,VL]
    have wnil:bi≠.append∧bi≠.clear→aC (.call c) ρ=[]:=λhne=>by simp only[aC,hcal];cases bi<;>first|rfl|exact absurd rfl hne.1|exact absurd rfl hne.2
    have hbi0:=hbi;unfold aR at hbi;split at hbi
    ·rename_i s heq;split at hbi
     ·rename_i hty;cases hbi;exact .same hb (wnil W4) (fin (by rw[heq];simp only[aR,hty]))
     ·cases hbi
    ·rename_i x hne heq;have e:H1=H:=by
      split at hbi
      ·rw[WL]at hbi;obtain⟨n,_,hn⟩:=hbi;cases hn;rfl
      ·cases hbi;rfl
      ·cases hbi
     subst e;refine .same hb (wnil W4) (fin ?_);rw[heq];unfold aR;split
     ·rename_i s e1 e2;cases e2;exact absurd rfl (hne s)
     ·rename_i x' hne' e1 e2;cases e2;split at hbi
      ·rw[WL]at hbi;obtain⟨n,hl,hn⟩:=hbi;cases hn;simp only[hl,VL]
      ·cases hbi;rfl
      ·cases hbi
     ·rename_i e1 e2;cases e2
     ·rename_i e1 e2;cases e2
     ·rename_i e1 e2;cases e2
     ·rename_i e1 e2;cases e1
     ·rename_i e1 e2 e3 e4 e5 e6;simp_all
    ·rename_i s x heq;obtain⟨a0,a1,hargs,h0,h1⟩:=qj heq;split at hbi
     ·rename_i t tx htt;split at hbi
      ·rename_i e' hu';have hrs:∀c'∈aa s,K.get c'=H.get c':=λc' hc'=>hr c' (by simp[aE,hcal,hargs,h0,hc'])
       have hrx:∀c'∈aa x,K.get c'=H.get c':=λc' hc'=>hr c' (by simp[aE,hcal,hargs,h1,hc'])
       have red:∀{K':ac} {u:AV},cK P K b t s x=some (u,K')→aR P K b .append c.argTypes (c.args.toList.map ρ)=some (u,K'):=λhk=>by rw[heq];simp only[aR,htt,hu',hk]
       unfold cK at hbi;split at hbi
       ·rename_i e hu;split at hbi
        ·rename_i n by_ z hn hby hz;split at hbi
         ·rename_i l m hl hm;have hl':ft K n s=some l:=by rw[vX hrs];exact hl
          have hm':ft K n x=some m:=by rw[vX hrx];exact hm
          split at hbi
          ·rename_i hcond;split at hbi
           ·split at hbi
            ·rename_i hm0;cases hbi;refine .same hb (by simp[aC,hcal,hargs,h0,aa]) (fin (red ?_));simp only[cK,hu,hn,hby,hz,hl',hm'];rw[if_pos hcond,if_pos hm0]
            ·rename_i hm0;cases hbi;refine .new (by simp[aC,hcal,hargs,h0,aa]) (fin (red ?_));simp only[cK,hu,hn,hby,hz,hl',hm'];rw[if_pos hcond,if_neg hm0]
           ·split at hbi
            ·rename_i hm0;cases hbi;refine .same hb (by simp[aC,hcal,hargs,h0,aa]) (fin (red ?_));simp only[cK,hu,hn,hby,hz,hl',hm'];rw[if_pos hcond,if_pos hm0]
            ·rename_i hm0;cases hbi;refine .new (by simp[aC,hcal,hargs,h0,aa]) (fin (red ?_));simp only[cK,hu,hn,hby,hz,hl',hm'];rw[if_pos hcond,if_neg hm0]
           ·rename_i b' i k;cases hbi;have hw:aC (.call c) ρ=[b']:=by simp[aC,hcal,hargs,h0,aa]
            refine⟨(K.put b' none).new b ⟨n,l++m⟩,fin (red ?_),rfl,λd=>?_⟩
            ·simp only[cK,hu,hn,hby,hz,hl',hm'];rw[if_pos hcond]
            ·rw[hw,ac.get_new,ac.get_new,ac.get_put,ac.get_put];by_cases hd:b=d
             ·rw[if_pos hd,if_pos hd,if_pos (.inr hd.symm)]
             ·rw[if_neg hd,if_neg hd];by_cases hd':b'=d
              ·rw[if_pos hd',if_pos hd',if_pos (.inl (by simp[hd']))]
              ·rw[if_neg hd',if_neg hd',if_neg];rintro(h1|h1)
               ·simp at h1;exact hd' h1.symm
               ·exact hd h1.symm
           ·cases hbi
          ·cases hbi
         ·cases hbi
        ·cases hbi
       ·cases hbi
      ·cases hbi
     ·cases hbi
    ·rename_i k a k' c' heq;split at hbi
     ·rename_i hk;cases hbi;exact .same hb (wnil W4) (fin (by rw[heq];simp only[aR];rw[if_pos hk]))
     ·cases hbi
    ·rename_i k a k' c' heq;split at hbi
     ·rename_i hk;cases hbi;exact .same hb (wnil W4) (fin (by rw[heq];simp only[aR];rw[if_pos hk]))
     ·cases hbi
    ·rename_i x heq;split at hbi
     ·rename_i t htt;cases hcl:eU P H t x with
      |none=>rw[hcl]at hbi;cases hbi
      |some K1=>
       rw[hcl]at hbi;cases hbi;obtain⟨a0,hargs,h0⟩:=qi heq;have red:∀{K':ac},eU P K t x=some K'→aR P K b .clear c.argTypes (c.args.toList.map ρ)=some (.tup [],K'):=λhk=>by rw[heq];simp only[aR,htt,hk,VL]
       unfold eU at hcl;split at hcl
       ·rename_i e hu;split at hcl
        ·rename_i n z hn hz;split at hcl
         ·cases hcl;exact .same hb (by simp[aC,hcal,hargs,h0,aa]) (fin (red (by simp only[eU,hu,hn,hz])))
         ·rename_i d i k;split at hcl
          ·rename_i y hy;split at hcl
           ·rename_i hcond;cases hcl;have hkd:K.get d=some y:=by rw[hr d (by simp[aE,hcal,hargs,h0,aa])];exact hy
            have hw:aC (.call c) ρ=[d]:=by simp[aC,hcal,hargs,h0,aa]
            refine⟨K.put d (some {y with rows:=y.rows.take i++List.replicate k z++y.rows.drop (i+k)}),fin (red ?_),rfl,λq=>?_⟩
            ·simp only[eU,hu,hn,hz,hkd];rw[if_pos hcond]
            ·rw[hw,ac.get_put,ac.get_put];by_cases hd:d=q
             ·rw[if_pos hd,if_pos hd,if_pos (.inl (by simp[hd]))]
             ·rw[if_neg hd,if_neg hd];split
              ·rename_i hc;rcases hc with hc|hc
               ·simp at hc;exact absurd hc.symm hd
               ·rw[hc];exact hb
              ·rfl
           ·cases hcl
          ·cases hcl
         ·cases hcl
        ·cases hcl
       ·cases hcl
     ·cases hbi
    ·cases hbi
  ·split at h<;>cases h
  ·cases h
 |alloc t=>
  simp only[aJ]at h;split at h
  ·rename_i cs hcs;cases h;exact .new rfl (by simp only[aJ,hcs])
  ·cases h
 |box t x=>
  simp only[aJ]at h;split at h
  ·rename_i cs hcs;split at h
   ·rename_i ho;cases h;exact .new rfl (by simp only[aJ,hcs];rw[if_pos ho])
   ·cases h
  ·cases h
 |buildSlice t len parts=>
  simp only[aJ]at h;split at h
  ·rename_i e hu;split at h
   ·rename_i n z hn hz;split at h
    ·rename_i hc;cases hf:dN n (List.replicate len z) (parts.toList.map λp=>(p.1,ρ p.2))with
     |none=>rw[hf]at h;cases h
     |some rows=>rw[hf]at h;cases h;exact .new rfl (by simp only[aJ,hu,hn,hz];rw[if_pos hc,hf];rfl)
    ·cases h
   ·cases h
  ·cases h
 |makeSlice t l c=>
  simp only[aJ]at h;split at h
  ·rename_i e hu;split at h
   ·rename_i n by_ z l' c' hn hby hz hl hc;split at h
    ·rename_i hcond;cases h;exact .new rfl (by simp only[aJ,hu,hn,hby,hz,hl,hc];rw[if_pos hcond])
    ·cases h
   ·cases h
  ·cases h
 |makeFunc fn first cap=>
  cases fn<;>simp only[aJ]at h<;>(try (cases h;done));split at h
  ·rename_i hf;cases h;exact .same hb rfl (by simp only[aJ];rw[if_pos hf])
  ·cases h
 |pick c x y=>
  simp only[aJ]at h;split at h
  ·rename_i t hc;cases h;exact .same hb rfl (by simp only[aJ,hc])
  ·cases h
 |nilCheck x=>simp only[aJ]at h;split at h<;>(try (cases h;done))<;>(rename_i heq;cases h;exact .same hb rfl (by simp only[aJ,heq]))
 |extract x i=>
  simp only[aJ]at h;split at h
  ·rename_i vs hx;obtain⟨h1,rfl⟩:=fj h;exact .same hb rfl (by simp only[aJ,hx,h1];rfl)
  ·cases h
 |makeMap t r=>
  cases r with
  |none=>simp only[aJ]at h;cases h;exact .new rfl rfl
  |some r=>simp[aJ]at h
 |lookup t m k ok=>simp only[aJ]at h;obtain⟨h1,rfl⟩:=fj h;obtain⟨c,x,hm,hx,hK⟩:=CG h1;refine .same hb rfl ?_;simp only[aJ];rw[hK K (by rw[hr c (by simp[aE,hm,aa]),hx])];rfl
 |mapUpdate t m k x=>
  simp only[aJ]at h;cases hs:eK P H t (ρ m) (ρ k) (ρ x)with
  |none=>rw[hs]at h;cases h
  |some H2=>rw[hs]at h;cases h;obtain⟨c,y,y',hm,hy,rfl,hK⟩:=my hs;refine .put hb (by simp[aC,hm,aa]) ?_;simp only[aJ];rw[hK K (by rw[hr c (by simp[aE,hm,aa]),hy])];rfl
 |range t x=>
  simp only[aJ]at h;split at h
  ·rename_i s hu hx;cases h;exact .new rfl (by simp only[aJ,hu,hx])
  ·cases h
 |next it s=>
  cases s with
  |false=>simp[aJ]at h
  |true=>
   simp only[aJ]at h;cases hs:iu H (ρ it)with
   |none=>rw[hs]at h;cases h
   |some r=>
    obtain⟨v0,H2⟩:=r;rw[hs]at h;cases h;obtain⟨c,y,hm,hy,⟨rfl,hK⟩|⟨y',rfl,hK⟩⟩:=vU hs
    ·have hc:=hr c (by simp[aE,hm,aa]);refine .sameW (q:=c) hb (by simp[aC,hm,aa]) hc ?_;simp only[aJ];rw[hK K (by rw[hc,hy])];rfl
    ·have hc:=hr c (by simp[aE,hm,aa]);refine .put hb (by simp[aC,hm,aa]) ?_;simp only[aJ];rw[hK K (by rw[hc,hy])];rfl
 |move x=>simp only[aJ]at h;cases h;exact .same hb rfl (by simp only[aJ])
 |assign x=>simp only[aJ]at h;cases h;exact .same hb rfl (by simp only[aJ])
 |build t ps=>simp only[aJ]at h;obtain⟨h1,rfl⟩:=fj h;exact .same hb rfl (by simp only[aJ,h1];rfl)
 |binOp op t x y u=>simp only[aJ]at h;obtain⟨h1,rfl⟩:=fj h;exact .same hb rfl (by simp only[aJ,h1];rfl)
 |unOp op t x=>simp only[aJ]at h;obtain⟨h1,rfl⟩:=fj h;exact .same hb rfl (by simp only[aJ,h1];rfl)
 |convert s d x=>simp only[aJ]at h;obtain⟨h1,rfl⟩:=fj h;exact .same hb rfl (by simp only[aJ,h1];rfl)
 |fieldAddr s x f=>simp only[aJ]at h;obtain⟨h1,rfl⟩:=fj h;exact .same hb rfl (by simp only[aJ,h1];rfl)
 |field s x f=>simp only[aJ]at h;obtain⟨h1,rfl⟩:=fj h;exact .same hb rfl (by simp only[aJ,h1];rfl)
 |index t x y=>simp only[aJ]at h;obtain⟨h1,rfl⟩:=fj h;exact .same hb rfl (by simp only[aJ,h1];rfl)
 |_=>simp[aJ]at h
theorem CL{o:Op}{ρ:Operand→AV}{b:Nat}{g:FuncId}{args:List AV}{H:ac}(h:aJ P F o ρ b H=some (.call g args))(K:ac):aJ P F o ρ b K=some (.call g args):=by
 cases o with
 |call c=>
  simp only[aJ]at h ⊢;split at h
  ·rename_i bi _;cases hbi:aR P H b bi c.argTypes (c.args.toList.map ρ)with
   |none=>rw[hbi]at h;cases h
   |some r=>rw[hbi]at h;cases h
  ·rename_i f hf;exact h
  ·cases h
 |makeFunc fn first cap=>cases fn<;>simp only[aJ]at h<;>(try split at h)<;>simp at h
 |makeMap t r=>cases r<;>simp[aJ]at h
 |next it s=>cases s<;>simp[aJ]at h
 |_=>
  exfalso;simp only[aJ]at h
  repeat' (first|(cases h;done)|(simp at h;done)|split at h)
end
end
theorem HL(f:Edge→Nat)(p:Edge→Bool)(k:Nat):∀(l:List Edge) (s:Nat),(l.foldl (λs e=>if p e then s ||| f e else s) s).testBit k=true→s.testBit k=true∨∃e∈l,p e=true∧(f e).testBit k=true
 |[],s,h=>.inl h
 | e::l,s,h=>by
  rw[WP]at h;rcases HL f p k l _ h with h1|⟨e',h1,h2⟩
  ·split at h1
   ·rename_i hp;rw[Nat.testBit_or,WS]at h1;rcases h1 with h1|h1
    ·exact .inl h1
    ·exact .inr ⟨e,W4,hp,h1⟩
   ·exact .inl h1
  ·exact .inr ⟨e',by simp[h1],h2⟩
def sM(acc:List Nat)(o:Oper):Nat:=o.after.toList.foldl (λs e=>if Region.binds .any e then s ||| 2^e.on ||| acc.getD e.on 0 else s) 0
theorem Jt{acc:List Nat}{o:Oper}{k:Nat}(h:(sM acc o).testBit k=true):∃e∈o.after.toList,Region.binds .any e=true∧(k=e.on∨(acc.getD e.on 0).testBit k=true):=by
 have hf:sM acc o=o.after.toList.foldl (λs e=>if Region.binds .any e then s ||| (2^e.on ||| acc.getD e.on 0)else s) 0:=by
  unfold sM;congr 1;funext s e;split
  ·rw[Nat.or_assoc]
  ·rfl
 rw[hf]at h;rcases HL (λe=>2^e.on ||| acc.getD e.on 0) (Region.binds .any) k _ _ h with h1|⟨e,h1,h2,h3⟩
 ·simp at h1
 ·refine⟨e,h1,h2,?_⟩;rw[Nat.testBit_or,WS]at h3;rcases h3 with h3|h3
  ·rw[Nat.testBit_two_pow]at h3;exact .inl (by have h4:=h3;simp at h4;exact h4.symm)
  ·exact .inr h3
theorem CM:∀(l:List Oper) (acc:List Nat),acc.length+l.length=(bP l acc).length∧(∀i,i<acc.length→(bP l acc).getD i 0=acc.getD i 0)∧
  ∀(i:Nat) (o:Oper),l[i]? =some o→∃acc',(bP l acc).getD (acc.length+i) 0=sM acc' o∧(∀j,acc'.getD j 0=(bP l acc).getD j 0∨acc'.getD j 0=0)∧(∀j,acc.length+i≤j→acc'.getD j 0=0)
 |[],acc=>by simp[bP]
 | o::l,acc=>by
  obtain⟨h1,h2,h3⟩:=CM l (acc++[sM acc o]);have hm:bP (o::l) acc=bP l (acc++[sM acc o]):=rfl;rw[hm];simp only[Vu,List.length_singleton]at h1 h2 h3;have keep:∀i,i<acc.length→(bP l (acc++[sM acc o])).getD i 0=acc.getD i 0:=λi hi=>by rw[h2 i W1];simp[List.getD,VC hi]
  refine⟨by simp;omega,keep,λi q hq=>?_⟩
  match i with
  |0=>
   simp only[List.getElem?_cons_zero,Vv]at hq;subst hq;refine⟨acc,?_,λj=>?_,λj hj=>?_⟩
   ·rw[WJ,h2 acc.length W1];simp[List.getD]
   ·rcases Vp j acc.length with hj|hj
    ·exact .inl (keep j hj).symm
    ·exact .inr (by simp[List.getD,Vq hj])
   ·simp[List.getD,Vq (show acc.length≤j by omega)]
  |i+1=>simp only[WG]at hq;obtain⟨acc',g1,g2,g3⟩:=h3 i q hq;exact⟨acc',by rw[←g1];congr 1;omega,g2,λj hj=>g3 j W1⟩
theorem LE{ops:Array Oper}{i:Nat}{o:Oper}(ho:ops[i]? =some o){k:Nat}(h:((bP ops.toList []).getD i 0).testBit k=true):
  ∃e∈o.after.toList,Region.binds .any e=true∧(k=e.on∨(e.on<i∧((bP ops.toList []).getD e.on 0).testBit k=true)):=by
 obtain⟨_,_,h3⟩:=CM ops.toList [];obtain⟨acc',g1,g2,g3⟩:=h3 i o (by rw[VJ];exact ho);simp only[VR,Wg]at g1 g3;rw[g1]at h;obtain⟨e,e1,e2,e3⟩:=Jt h;refine⟨e,e1,e2,?_⟩;rcases e3 with e3|e3
 ·exact .inl e3
 ·right;rcases Vp e.on i with hlt|hge
  ·refine⟨hlt,?_⟩;rcases g2 e.on with h4|h4
   ·rw[h4]at e3;exact e3
   ·rw[h4]at e3;simp at e3
  ·rw[g3 e.on hge]at e3;simp at e3
def Gf(ops:Array Oper)(L:Nat→Bool):Prop:=∀(i:Nat) (o:Oper),ops[i]? =some o→L i=true→∀e∈o.after.toList,Region.binds .any e=true→L e.on=true
theorem Gf.ahead{ops:Array Oper}{L:Nat→Bool}(hL:Gf ops L):∀(i:Nat) (o:Oper),ops[i]? =some o→(∀e∈o.after.toList,Region.binds .any e=true→L e.on=true)→∀k,((bP ops.toList []).getD i 0).testBit k=true→L k=true:=by
 intro i
 induction i using Nat.strongRecOn with
 |_ i ih=>
  intro o ho he k hk;obtain⟨e,e1,e2,e3⟩:=LE ho hk;have hLe:=he e e1 e2;rcases e3 with rfl|⟨hlt,h4⟩
  ·exact hLe
  ·have hlt':e.on<ops.size:=by have:i<ops.size:=(Wx.1 ho).1;omega
   have ho':ops[e.on]? =some ops[e.on]:=VM hlt';exact ih e.on hlt _ ho' (λe' h5 h6=>hL e.on _ ho' hLe e' h5 h6) k h4
def cp(p:Nat→Bool):Nat→Option Nat
 |0=>none
 |k+1=>if p k then some k else cp p k
theorem j5{p q:Nat→Bool}:∀{k:Nat},(∀i,i<k→p i=q i)→cp p k=cp q k
 |0,_=>rfl
 | k+1,h=>by unfold cp;rw[h k W1,j5 λi hi=>h i W1]
theorem sN{p:Nat→Bool}{k m:Nat}(hkm:k≤m)(h:∀i,k≤i→i<m→p i=false):cp p m=cp p k:=by
 induction m with
 |zero=>rw[show k=0 by omega]
 |succ m ih=>
  rcases Wt hkm with rfl|hlt
  ·rfl
  ·rw[cp,h m W1 W1,if_neg W4];exact ih W1 λi h1 h2=>h i h1 W1
theorem oX{p L:Nat→Bool}{n i:Nat}(hi:i<n)(hLi:L i=false)(h:∀j,j<n→j≠i→p j=true→(j<i→L j=true)∧(i<j→L j=false)):
  cp (λj=>L j&&p j) n=cp p i:=by
 rw[sN (k:=i) W1]
 ·refine j5 λj hj=>?_
  cases hp:p j with
  |false=>simp
  |true=>simp[(h j W1 W1 hp).1 hj]
 ·intro j h1 h2;rcases Wt h1 with rfl|hlt
  ·simp[hLi]
  ·cases hp:p j with
   |false=>simp
   |true=>simp[(h j h2 W1 hp).2 hlt]
theorem yV{p L:Nat→Bool}{n i:Nat}(hi:i<n)(hLi:L i=false)(hpi:p i=true)(h:∀j,j<n→j≠i→p j=true→(i<j→L j=false)):
  cp (λj=>(if j=i then true else L j)&&p j) n=some i:=by
 rw[sN (k:=i+1) W1]
 ·simp[cp,hpi]
 ·intro j h1 h2;cases hp:p j with
  |false=>simp
  |true=>simp[h j h2 W1 hp W1,show¬j=i by omega]
theorem mA{p L:Nat→Bool}{n i:Nat}(hpi:p i=false):cp (λj=>(if j=i then true else L j)&&p j) n=cp (λj=>L j&&p j) n:=by
 refine j5 λj _=>?_
 by_cases hj:j=i
 ·subst hj;simp[hpi]
 ·simp[hj]
section
section
variable (P:Program) (F:TypeId→Option (List TypeId)) (call:FuncId→List AV→ac→Option (AV×ac)) (ops:Array Oper) (base:Nat) (τ0:List AV) (H0:ac)
def eg:Nat→List AV×ac
 |0=>(τ0,H0)
 | i+1=>match bu P F call ops base i ((bP ops.toList []).getD i 0) (eg i).1 (eg i).2 with
  |some (τ,H,_)=>(τ,H)
  |none=>eg i
def fO(i:Nat):Option r6:=
 match bu P F call ops base i ((bP ops.toList []).getD i 0) (eg P F call ops base τ0 H0 i).1 (eg P F call ops base τ0 H0 i).2 with
 |some (_,_,r)=>r
 |none=>none
structure lD:Prop where
 step:∀i,i<ops.size→bu P F call ops base i ((bP ops.toList []).getD i 0) (eg P F call ops base τ0 H0 i).1 (eg P F call ops base τ0 H0 i).2 =
  some ((eg P F call ops base τ0 H0 (i+1)).1,(eg P F call ops base τ0 H0 (i+1)).2,fO P F call ops base τ0 H0 i)
 free:∀i j x r,j<i→i<ops.size→fO P F call ops base τ0 H0 j=some x→fO P F call ops base τ0 H0 i=some r→((bP ops.toList []).getD i 0).testBit j=true∨lu x r=false
end
section
variable {P:Program} {F:TypeId→Option (List TypeId)} {call:FuncId→List AV→ac→Option (AV×ac)} {ops:Array Oper} {base:Nat} {τ0:List AV} {H0:ac}
theorem HM{i mask:Nat}{τ τ':List AV}{H H':ac}{x:r6}(h:bu P F call ops base i mask τ H=some (τ',H',some x)):x.op=i:=by
 unfold bu at h
 repeat' (first|(cases h;rfl)|(cases h;done)|split at h)
theorem MG:∀(m k:Nat) (rs rs':List r6) (τ':List AV) (K:ac),
  dX P F call ops base (bP ops.toList []) (List.range' k m) (eg P F call ops base τ0 H0 k).1 (eg P F call ops base τ0 H0 k).2 rs=some (τ',K,rs')→(∀j x,j<k→fO P F call ops base τ0 H0 j=some x→x∈rs∧x.op=j)→
  (∀i,k≤i→i<k+m→bu P F call ops base i ((bP ops.toList []).getD i 0) (eg P F call ops base τ0 H0 i).1 (eg P F call ops base τ0 H0 i).2 =
   some ((eg P F call ops base τ0 H0 (i+1)).1,(eg P F call ops base τ0 H0 (i+1)).2,fO P F call ops base τ0 H0 i))∧
  (∀i j x r,k≤i→i<k+m→j<i→fO P F call ops base τ0 H0 j=some x→fO P F call ops base τ0 H0 i=some r→((bP ops.toList []).getD i 0).testBit j=true∨lu x r=false)∧
  (τ',K)=eg P F call ops base τ0 H0 (k+m)
 | 0,k,rs,rs',τ',K,h,_=>by simp only[List.range'_zero,dX,Vv,Prod.mk.injEq]at h;obtain⟨rfl,rfl,rfl⟩:=h;exact⟨λi h1 h2=>by omega,λi j x r h1 h2=>by omega,rfl⟩
 | m+1,k,rs,rs',τ',K,h,hrs=>by
  rw[List.range'_succ]at h;unfold dX at h;cases hd:bu P F call ops base k ((bP ops.toList []).getD k 0) (eg P F call ops base τ0 H0 k).1 (eg P F call ops base τ0 H0 k).2 with
  |none=>rw[hd]at h;cases h
  |some q=>
   obtain⟨τ1,H1,r⟩:=q;rw[hd]at h;have e1:eg P F call ops base τ0 H0 (k+1)=(τ1,H1):=by rw[eg,hd]
   have e2:fO P F call ops base τ0 H0 k=r:=by rw[fO,hd]
   have next:∀rs2,dX P F call ops base (bP ops.toList []) (List.range' (k+1) m) τ1 H1 rs2=some (τ',K,rs')→(∀x,r=some x→x∈rs2)→(∀x∈rs,x∈rs2)→
     (∀j x,j<k→fO P F call ops base τ0 H0 j=some x→∀y,r=some y→((bP ops.toList []).getD k 0).testBit j=true∨lu x y=false)→_:=λrs2 h2 hr2 hsub hfree=>by
    obtain⟨a1,a2,a3⟩:=MG m (k+1) rs2 rs' τ' K (by rw[e1];exact h2) (λj x hj hx=>by
     rcases Wt (Nat.le_of_lt_succ hj)with rfl|hlt
     ·rw[e2]at hx;refine⟨hr2 x hx,?_⟩;rw[hx]at hd;exact HM hd
     ·obtain⟨b1,b2⟩:=hrs j x hlt hx;exact⟨hsub x b1,b2⟩)
    refine(⟨λi h1 h2=>?_,λi j x y h1 h2 hji hx hy=>?_,by rw[a3];congr 1;omega⟩:(∀i,k≤i→i<k+(m+1)→bu P F call ops base i ((bP ops.toList []).getD i 0) (eg P F call ops base τ0 H0 i).1 (eg P F call ops base τ0 H0 i).2 =
     some ((eg P F call ops base τ0 H0 (i+1)).1,(eg P F call ops base τ0 H0 (i+1)).2,fO P F call ops base τ0 H0 i))∧
     (∀i j x r,k≤i→i<k+(m+1)→j<i→fO P F call ops base τ0 H0 j=some x→fO P F call ops base τ0 H0 i=some r→((bP ops.toList []).getD i 0).testBit j=true∨lu x r=false)∧
     (τ',K)=eg P F call ops base τ0 H0 (k+(m+1)))
    ·rcases Wt h1 with rfl|hlt
     ·rw[hd,e1,e2]
     ·exact a1 i hlt W1
    ·rcases Wt h1 with rfl|hlt
     ·rw[e2]at hy;exact hfree j x hji hx y hy
     ·exact a2 i j x y hlt W1 hji hx hy
   cases r with
   |none=>exact next rs h W4 (λx hx=>hx) W4
   |some y=>
    simp only[]at h;split at h
    ·rename_i hall;refine next (y::rs) h W4 (λx hx=>by simp[hx]) (λj x hj hx y' hy'=>?_)
     cases hy';rw[VB]at hall;obtain⟨b1,b2⟩:=hrs j x hj hx;have:=hall x b1;rw[b2]at this;simpa using this
    ·cases h
end
end
section
theorem aS.sig{w:World}{σ σ':bb}{T:Nat→Prop}(hm:σ'.map=σ.map){a:AV}{v:Value}(h:aS w σ T a v):aS w σ' T a v:=by
 have e:∀{b pl},σ.map b=some pl→σ'.map b=some pl:=λhb=>by rw[hm];exact hb
 induction h with
 |int k n=>exact .int k n
 |bool b=>exact .bool b
 |str s=>exact .str s
 |nilp=>exact .nilp
 |ptr b i off pl h hp=>exact .ptr b i off pl (e h) hp
 |mp b pl h h1 h2=>exact .mp b pl (e h) h1 h2
 |it b pl h h1 h2=>exact .it b pl (e h) h1 h2
 |pptr rows i off b o sz hl h ih=>exact .pptr rows i off b o sz hl ih
 |nils=>exact .nils
 |emp a=>exact .emp a
 |sl b i n pl a cap h hp hn hm' ha=>exact .sl b i n pl a cap (e h) hp hn hm' ha
 |lst0 a cap hm'=>exact .lst0 a cap hm'
 |lst rows b o sz cap hl hn hm' h ih=>exact .lst rows b o sz cap hl hn hm' ih
 |agg cs vs hl h ih=>exact .agg cs vs hl ih
 |tup cs vs hl h ih=>exact .tup cs vs hl ih
 |fn f cs vs hl h ih=>exact .fn f cs vs hl ih
 |nilf=>exact .nilf
 |junk v=>exact .junk v
theorem yQ.sig{w:World}{σ σ':bb}{T:Nat→Prop}(hm:σ'.map=σ.map){x:Blk}{pl:cg}{cs:Array Value}{e:TypeId}(h:yQ w σ T x pl cs e):yQ w σ' T x pl cs e:=
 ⟨h.size,h.block,h.even,h.room,λi r j a u h1 h2 h3=>(h.rep i r j a u h1 h2 h3).sig hm⟩
theorem j4.sig{w:World}{σ σ':bb}{T:Nat→Prop}(hm:σ'.map=σ.map){x:Blk}{pl:cg}{cs:Array Value}{e:TypeId}(h:j4 w σ T x pl cs e):j4 w σ' T x pl cs e:=⟨λhp=>(h.1 hp).sig hm,h.2⟩
def bb.part(σ:bb)(K Hc:ac):bb:=⟨σ.map,λc=>aH σ K c∧¬ER σ Hc c⟩
section
variable {w w':World} {σ σ':bb} {K Hc H1 K':ac}
theorem ER.sub(hsub:∀c x,Hc.get c=some x→K.get c=some x){d:Nat}(h:ER σ Hc d):ER σ K d:=by obtain⟨b,x,pl,h1,h2,h3⟩:=h;exact⟨b,x,pl,hsub b x h1,h2,h3⟩
theorem vY(hsub:∀c x,Hc.get c=some x→K.get c=some x):aH (σ.part K Hc) Hc=aH σ K:=by
 funext d;apply propext;constructor
 ·rintro(h|h)
  ·exact h.1
  ·exact .inr (ER.sub hsub h)
 ·intro h;by_cases ht:ER σ Hc d
  ·exact .inr ht
  ·exact .inl ⟨h,ht⟩
theorem aU.part(hW:aU w σ K)(hsub:∀c x,Hc.get c=some x→K.get c=some x)(hn:K.next≤Hc.next):aU w (σ.part K Hc) Hc:=by
 refine⟨λb pl hb=>VH (hW.named b pl hb) hn,hW.lt,λb x hb=>?_,λc hc=>⟨?_,hc.2⟩,λb b' x x' pl pl' h1 h2 h3 h4 h5=>hW.inj b b' x x' pl pl' (hsub _ _ h1) (hsub _ _ h2) h3 h4 h5,by rw[vY hsub];exact hW.glob⟩
 ·obtain⟨pl,cs,e,h1,h2⟩:=hW.live b x (hsub b x hb);rw[vY hsub];exact⟨pl,cs,e,h1,j4.sig (σ:=σ) (σ':=σ.part K Hc) rfl h2⟩
 ·rcases hc.1 with h|⟨b,x,pl,h1,h2,rfl⟩
  ·exact(hW.apart c h).1
  ·exact hW.lt b pl h2
theorem aU.whole(hW:aU w σ K)(hsub:∀c x,Hc.get c=some x→K.get c=some x)(hn:Hc.next=K.next)(hW1:aU w' σ' H1)(hE:ef w (σ.part K Hc) (aH (σ.part K Hc) Hc) w' σ' (aH σ' H1))
  (hdom:∀c,c<Hc.next→Hc.get c=none→H1.get c=none) (hK':∀c,K'.get c=if Hc.get c=none∧c<K.next then K.get c else H1.get c) (hn':H1.next≤K'.next) :
  aU w' ⟨σ'.map,σ.fr⟩ K'∧ef w σ (aH σ K) w' ⟨σ'.map,σ.fr⟩ (aH ⟨σ'.map,σ.fr⟩ K')∧aH ⟨σ'.map,σ.fr⟩ K'=aH σ' H1:=by
 have hfr:∀c,σ'.fr c↔(aH σ K c∧¬ER σ Hc c):=λc=>by rw[hE.eqfr];exact Iff.rfl
 have hmap:∀b pl,σ.map b=some pl→σ'.map b=some pl:=λb pl h=>hE.sig b pl h
 have rest:∀b x,Hc.get b=none→K.get b=some x→∃pl,σ.map b=some pl∧σ'.fr pl.block:=λb x h0 hx=>by obtain⟨pl,cs,e,h1,h2⟩:=hW.live b x hx;refine⟨pl,h1,(hfr _).2 ⟨.inr ⟨b,x,pl,hx,h1,rfl⟩,?_⟩⟩;rintro⟨b2,x2,pl2,g1,g2,g3⟩;have:=hW.inj b2 b x2 x pl2 pl (hsub _ _ g1) hx g2 h1 g3;subst this;rw[h0]at g1;cases g1
 have get':∀b x,K'.get b=some x→(Hc.get b=none∧b<K.next∧K.get b=some x)∨H1.get b=some x:=λb x hx=>by
  rw[hK']at hx;split at hx
  ·rename_i hc;exact .inl ⟨hc.1,hc.2,hx⟩
  ·exact .inr hx
 have frK:∀c,σ.fr c→σ'.fr c:=λc hc=>(hfr c).2 ⟨.inl hc,λht=>(hW.apart c hc).2 (ER.sub hsub ht)⟩
 have howns:aH ⟨σ'.map,σ.fr⟩ K'=aH σ' H1:=by
  funext d;apply propext;constructor
  ·rintro(h|⟨b,x,pl,h1,h2,rfl⟩)
   ·exact .inl (frK d h)
   ·rcases get' b x h1 with⟨g1,g2,g3⟩|g1
    ·obtain⟨pl0,e1,e2⟩:=rest b x g1 g3;have h2':σ'.map b=some pl:=h2;rw[hmap b pl0 e1]at h2';cases h2';exact .inl e2
    ·exact .inr ⟨b,x,pl,g1,h2,rfl⟩
  ·rintro(h|⟨b,x,pl,h1,h2,rfl⟩)
   ·obtain⟨h3,h4⟩:=(hfr d).1 h;rcases h3 with h3|⟨b,x,pl,g1,g2,g3⟩
    ·exact .inl h3
    ·have h0:Hc.get b=none:=by
      cases hg:Hc.get b with
      |none=>rfl
      |some y=>exact absurd ⟨b,y,pl,hg,g2,g3⟩ h4
     exact .inr ⟨b,x,pl,by rw[hK',if_pos ⟨h0,hW.named b pl g2⟩];exact g1,hmap b pl g2,g3⟩
   ·refine .inr ⟨b,x,pl,?_,h2,rfl⟩;rw[hK',if_neg]
    ·exact h1
    ·rintro⟨h3,h4⟩;rw[hdom b W1 h3]at h1;cases h1
 have hE2:ef w σ (aH σ K) w' ⟨σ'.map,σ.fr⟩ (aH ⟨σ'.map,σ.fr⟩ K'):=by rw[howns];have ho:=vY (σ:=σ) hsub;exact⟨hE.os,hE.tape,hE.output,hE.size,λc hc hT=>hE.keep c hc (by rw[ho];exact hT),hE.shape,hmap,rfl,λc hc=>hE.frame c ((hfr c).1 (frK c hc)),λc hc=>by have:=hE.own c hc;rwa [ho]at this⟩
 refine⟨⟨λb pl hb=>VH (hW1.named b pl hb) hn',hW1.lt,λb x hx=>?_,λc hc=>⟨?_,?_⟩,?_,by rw[howns];exact hW1.glob⟩,hE2,howns⟩
 ·rcases get' b x hx with⟨g1,g2,g3⟩|g1
  ·obtain⟨pl,cs,e,h1,h2⟩:=hW.live b x g3;obtain⟨pl0,e1,e2⟩:=rest b x g1 g3;have h1':σ.map b=some pl:=h1;rw[e1]at h1';cases h1';refine⟨pl,cs,e,hmap b pl e1,?_⟩;exact h2.mono hE2 (hE.frame _ ((hfr _).1 e2))
  ·obtain⟨pl,cs,e,h1,h2⟩:=hW1.live b x g1;rw[howns];exact⟨pl,cs,e,h1,j4.sig (σ:=σ') (σ':=⟨σ'.map,σ.fr⟩) rfl h2⟩
 ·have:=(hW.apart c hc).1;have:=hE.size;omega
 ·rintro⟨b,x,pl,h1,h2,h3⟩;rcases get' b x h1 with⟨g1,g2,g3⟩|g1
  ·obtain⟨pl0,e1,e2⟩:=rest b x g1 g3;have h2':σ'.map b=some pl:=h2;rw[hmap b pl0 e1]at h2';cases h2';exact(hW.apart c hc).2 ⟨b,x,pl,g3,e1,h3⟩
  ·exact(hW1.apart c (frK c hc)).2 ⟨b,x,pl,g1,h2,h3⟩
 ·intro b b' x x' pl pl' h1 h2 h3 h4 h5;have h3':σ'.map b=some pl:=h3;have h4':σ'.map b'=some pl':=h4;rcases get' b x h1 with⟨g1,g2,g3⟩|g1
  ·obtain⟨pl0,e1,e2⟩:=rest b x g1 g3;rw[hmap b pl0 e1]at h3';cases h3';rcases get' b' x' h2 with⟨k1,k2,k3⟩|k1
   ·obtain⟨pl1,f1,f2⟩:=rest b' x' k1 k3;rw[hmap b' pl1 f1]at h4';cases h4';exact hW.inj b b' x x' pl pl' g3 k3 e1 f1 h5
   ·exact absurd ⟨b',x',pl',k1,h4,h5.symm⟩ (hW1.apart _ e2).2
  ·rcases get' b' x' h2 with⟨k1,k2,k3⟩|k1
   ·obtain⟨pl1,f1,f2⟩:=rest b' x' k1 k3;rw[hmap b' pl1 f1]at h4';cases h4';exact absurd ⟨b,x,pl,g1,h3,h5⟩ (hW1.apart _ f2).2
   ·exact hW1.inj b b' x x' pl pl' g1 k1 h3 h4 h5
end
end
section
def ie(ops:Array Oper)(o:Oper):List Tmp:=
 o.dst.toList++(bH o.op).filterMap (fun|.tmp t=>some t|_=>none)++(match o.guard with|none=>[]|some (j,_)=>((ops[j]?).bind (·.dst)).toList)
def mB(ops:Array Oper):Prop:=∀(i j:Nat) (oi oj:Oper),j<i→ops[i]? =some oi→ops[j]? =some oj→
 ((bP ops.toList []).getD i 0).testBit j=true∨((∀t,oj.dst=some t→t∉ie ops oi)∧(∀t,oi.dst=some t→t∉ie ops oj))
def wr(ops:Array Oper)(t:Tmp)(i:Nat):Bool:=match ops[i]? with|some o=>o.dst==some t|none=>false
def cH(r:Option r6)(c:Nat):Bool:=match r with
 |none=>false
 |some x=>x.writes.contains c||x.made.contains c||(x.isCall&&decide (x.lo≤c)&&decide (c<x.hi))
theorem sO{r:Option r6}{c:Nat}:cH r c=true↔touched r c:=by
 cases r with
 |none=>simp[cH,touched]
 |some x=>simp[cH,touched,or_assoc,and_assoc]
def gU(r:Option r6):Bool:=match r with|none=>false|some x=>x.isCall
section
variable {P:Program} {F:TypeId→Option (List TypeId)} {call:FuncId→List AV→ac→Option (AV×ac)} {ops:Array Oper} {base:Nat} {τ0:List AV} {H0:ac}
theorem HN{i mask:Nat}{τ τ':List AV}{H H':ac}{r:Option r6}(h:bu P F call ops base i mask τ H=some (τ',H',r)):∃o v,ops[i]? =some o∧τ'=fK τ o.dst v:=by
 unfold bu at h;split at h
 ·cases h
 ·rename_i o ho;refine⟨o,?_⟩
  repeat' (first|(cases h;exact⟨_,ho,rfl⟩)|(cases h;done)|split at h)
structure cX(P:Program)(F:TypeId→Option (List TypeId))(call:FuncId→List AV→ac→Option (AV×ac))(ops:Array Oper)(base:Nat)(τ0:List AV)(H0:ac):Prop where
 bd:∀i,i≤ops.size→Bd (eg P F call ops base τ0 H0 i).2
 le:∀i,i≤ops.size→H0.next≤(eg P F call ops base τ0 H0 i).2.next
 fresh:∀i j,i≤j→j<ops.size→(eg P F call ops base τ0 H0 i).2.get (base+j)=none
 len:∀i,i≤ops.size→(eg P F call ops base τ0 H0 i).1.length=τ0.length
 chg:∀i,i<ops.size→Qo base i (eg P F call ops base τ0 H0 i).2 (eg P F call ops base τ0 H0 (i+1)).2 (fO P F call ops base τ0 H0 i)
theorem LF(hch:∀f args H v H',Bd H→call f args H=some (v,H')→AQ H H')(run:lD P F call ops base τ0 H0)(hbd:Bd H0)(hn:base+ops.size=H0.next)(hfr:∀j,j<ops.size→H0.get (base+j)=none):cX P F call ops base τ0 H0:=by
 have key:∀i,i≤ops.size→Bd (eg P F call ops base τ0 H0 i).2∧H0.next≤(eg P F call ops base τ0 H0 i).2.next∧(∀j,i≤j→j<ops.size→(eg P F call ops base τ0 H0 i).2.get (base+j)=none)∧(eg P F call ops base τ0 H0 i).1.length=τ0.length:=by
  intro i
  induction i with
  |zero=>intro _;exact⟨hbd,Vl _,λj _ hj=>hfr j hj,rfl⟩
  |succ i ih=>intro hi;obtain⟨a1,a2,a3,a4⟩:=ih W1;have hst:=run.step i W1;have d:=iO hch a1 W1 hst;obtain⟨o,v,_,hv⟩:=HN hst;refine⟨d.bd a1,VD a2 d.next,λj h1 h2=>d.dom _ W1 W1 (a3 j W1 h2),?_⟩;rw[hv,←a4];cases o.dst<;>simp[fK]
 exact⟨λi hi=>(key i hi).1,λi hi=>(key i hi).2.1,λi j h1 h2=>(key i W1).2.2.1 j h1 h2,λi hi=>(key i hi).2.2.2,λi hi=>iO hch (key i W1).1 (by have:=(key i W1).2.1;omega) (run.step i hi)⟩
def oY(P:Program)(F:TypeId→Option (List TypeId))(call:FuncId→List AV→ac→Option (AV×ac))(ops:Array Oper)(base:Nat)(τ0:List AV)(H0:ac)(L:Nat→Bool)(t:Tmp):Option AV:=
 match cp (λj=>L j&&wr ops t j) ops.size with
 |some j=>(eg P F call ops base τ0 H0 (j+1)).1[t]?
 |none=>τ0[t]?
def hget(P:Program)(F:TypeId→Option (List TypeId))(call:FuncId→List AV→ac→Option (AV×ac))(ops:Array Oper)(base:Nat)(τ0:List AV)(H0:ac)(L:Nat→Bool)(c:Nat):Option Blk:=
 match cp (λj=>L j&&cH (fO P F call ops base τ0 H0 j) c) ops.size with
 |some j=>(eg P F call ops base τ0 H0 (j+1)).2.get c
 |none=>H0.get c
def Gg(P:Program)(F:TypeId→Option (List TypeId))(call:FuncId→List AV→ac→Option (AV×ac))(ops:Array Oper)(base:Nat)(τ0:List AV)(H0:ac)(L:Nat→Bool):Nat:=
 match cp (λj=>L j&&gU (fO P F call ops base τ0 H0 j)) ops.size with
 |some j=>(eg P F call ops base τ0 H0 (j+1)).2.next
 |none=>H0.next
theorem O4{τ:List AV}{d:Option Tmp}{v:AV}{t:Tmp}(h:(d==some t)=false):(fK τ d v)[t]? =τ[t]? :=by
 cases d with
 |none=>rfl
 |some d=>
  have:d≠t:=by simpa using h
  simp only[fK,Wf];rw[if_neg this]
theorem Ju(run:lD P F call ops base τ0 H0)(t:Tmp):∀k,k≤ops.size→(eg P F call ops base τ0 H0 k).1[t]? =match cp (wr ops t) k with|some j=>(eg P F call ops base τ0 H0 (j+1)).1[t]?|none=>τ0[t]?
 |0,_=>rfl
 | k+1,hk=>by
  unfold cp;cases hw:wr ops t k with
  |true=>simp
  |false=>simp only[VN,if_false];rw[←Ju run t k W1];obtain⟨o,v,ho,hv⟩:=HN (run.step k W1);rw[hv];simp only[wr,ho]at hw;exact O4 hw
theorem Jv(run:lD P F call ops base τ0 H0)(rf:cX P F call ops base τ0 H0)(c:Nat):∀k,k≤ops.size→(eg P F call ops base τ0 H0 k).2.get c=match cp (λj=>cH (fO P F call ops base τ0 H0 j) c) k with|some j=>(eg P F call ops base τ0 H0 (j+1)).2.get c|none=>H0.get c
 |0,_=>rfl
 | k+1,hk=>by
  unfold cp;cases hw:cH (fO P F call ops base τ0 H0 k) c with
  |true=>simp
  |false=>simp only[VN,if_false];rw[←Jv run rf c k W1];exact(rf.chg k W1).keep (rf.bd k W1) c (λht=>by rw[sO.2 ht]at hw;cases hw)
theorem EX{i mask:Nat}{τ τ':List AV}{H H':ac}{r:Option r6}(h:bu P F call ops base i mask τ H=some (τ',H',r))(hc:gU r=false):H'.next=H.next:=by
 unfold bu at h;split at h
 ·cases h
 ·split at h
  ·split at h
   ·rename_i hop;cases h;have:=CH hop;exact this
   ·split at h
    ·cases h;simp[gU]at hc
    ·cases h
   ·cases h
  ·cases h;rfl
  ·cases h
theorem Jw(run:lD P F call ops base τ0 H0):∀k,k≤ops.size→(eg P F call ops base τ0 H0 k).2.next=match cp (λj=>gU (fO P F call ops base τ0 H0 j)) k with|some j=>(eg P F call ops base τ0 H0 (j+1)).2.next|none=>H0.next
 |0,_=>rfl
 | k+1,hk=>by
  unfold cp;cases hw:gU (fO P F call ops base τ0 H0 k)with
  |true=>simp
  |false=>simp only[VN,if_false];rw[←Jw run k W1];exact EX (run.step k W1) hw
structure Next(ops:Array Oper)(L:Nat→Bool)(i:Nat):Prop where
 lt:i<ops.size
 not:L i=false
 closed:Gf ops L
 edges:∀(o:Oper),ops[i]? =some o→∀e∈o.after.toList,Region.binds .any e=true→L e.on=true
theorem Next.before{L:Nat→Bool}{i:Nat}(h:Next ops L i){j:Nat}(hb:((bP ops.toList []).getD i 0).testBit j=true):L j=true:=
 h.closed.ahead i _ (VM h.lt) (h.edges _ (VM h.lt)) j hb
theorem Next.behind{L:Nat→Bool}{i:Nat}(h:Next ops L i){j:Nat}(hj:j<ops.size)(hb:((bP ops.toList []).getD j 0).testBit i=true):L j=false:=by
 cases hL:L j with
 |false=>rfl
 |true=>have:=h.closed.ahead j _ (VM hj) (h.closed j _ (VM hj) hL) i hb;rw[h.not]at this;cases this
theorem O5(run:lD P F call ops base τ0 H0)(hst:mB ops){L:Nat→Bool}{i:Nat}(nx:Next ops L i){o:Oper}(ho:ops[i]? =some o){t:Tmp}(ht:t∈ie ops o):
  oY P F call ops base τ0 H0 L t=(eg P F call ops base τ0 H0 i).1[t]? :=by
 have hord:∀j,j<ops.size→j≠i→wr ops t j=true→(j<i→L j=true)∧(i<j→L j=false):=λj hj hne hw=>by
  have hoj:ops[j]? =some ops[j]:=VM hj;simp only[wr,hoj]at hw;have hd:(ops[j]).dst=some t:=by simpa using hw
  refine⟨λhlt=>?_,λhlt=>?_⟩
  ·rcases hst i j o _ hlt ho hoj with h1|⟨h1,_⟩
   ·exact nx.before h1
   ·exact absurd ht (h1 t hd)
  ·rcases hst j i _ o hlt hoj ho with h1|⟨_,h1⟩
   ·exact nx.behind hj h1
   ·exact absurd ht (h1 t hd)
 rw[Ju run t i (by have:=nx.lt;omega),oY,oX nx.lt nx.not hord]
end
end
section
theorem lE{l m:List Nat}(h:apart l m=true){x:Nat}(hx:x∈l):x∉m:=by unfold apart at h;rw[VB]at h;have:=h x hx;simpa using this
structure S1(x y:r6):Prop where
 wr:∀c∈x.writes,c∉y.reads
 ww:∀c∈x.writes,c∉y.writes
 rw:∀c∈x.reads,c∉y.writes
 mr:∀c∈x.made,c∉y.reads
 mw:∀c∈x.made,c∉y.writes
 cc:x.isCall=true→y.isCall=false
 cw:x.isCall=true→∀c,c∉y.writes
 cr:x.isCall=true→∀c∈y.reads,¬(x.lo≤c∧c<x.hi)
 wc:y.isCall=true→∀c,c∉x.writes
theorem ew{x y:r6}(h:lu x y=false):S1 x y:=by
 unfold lu at h;simp only[Bool.or_eq_false_iff,Bool.not_eq_false',VP,Bool.and_eq_false_iff]at h;obtain⟨⟨⟨⟨⟨⟨h1,h2⟩,h3⟩,h4⟩,h5⟩,h6⟩,h7⟩:=h;refine⟨λc hc=>lE h1 hc,λc hc=>lE h2 hc,λc hc=>lE h3 hc,λc hc=>lE h4 hc,λc hc=>lE h5 hc,λhx=>?_,λhx c hc=>?_,λhx c hc hr=>?_,λhy c hc=>?_⟩
 ·rcases h6 with h6|⟨⟨h6,_⟩,_⟩
  ·rw[hx]at h6;cases h6
  ·exact h6
 ·rcases h6 with h6|⟨⟨_,h6⟩,_⟩
  ·rw[hx]at h6;cases h6
  ·simp at h6;rw[h6]at hc;simp at hc
 ·rcases h6 with h6|⟨_,h6⟩
  ·rw[hx]at h6;cases h6
  ·rw[List.any_eq_false]at h6;exact h6 c hc (by simpa using hr)
 ·rcases h7 with h7|h7
  ·rw[hy]at h7;cases h7
  ·simp at h7;rw[h7]at hc;simp at hc
section
variable {P:Program} {F:TypeId→Option (List TypeId)} {call:FuncId→List AV→ac→Option (AV×ac)} {ops:Array Oper} {base:Nat} {τ0:List AV} {H0:ac}
theorem Fw(rf:cX P F call ops base τ0 H0){i:Nat}:∀{j:Nat},i≤j→j≤ops.size→(eg P F call ops base τ0 H0 i).2.next≤(eg P F call ops base τ0 H0 j).2.next
 |0,h1,_=>by rw[show i=0 by omega];exact Vl _
 | j+1,h1,h2=>by
  rcases Wt h1 with rfl|hlt
  ·exact Vl _
  ·exact VD (Fw rf (show i≤j by omega) W1) (rf.chg j W1).next
theorem later(run:lD P F call ops base τ0 H0)(rf:cX P F call ops base τ0 H0){i j c:Nat}{r y:r6}{b:Blk}(hij:i<j)(hj:j<ops.size)(hi:fO P F call ops base τ0 H0 i=some r)(hy:fO P F call ops base τ0 H0 j=some y)(ht:touched (fO P F call ops base τ0 H0 j) c)
  (hl:(eg P F call ops base τ0 H0 i).2.get c=some b):((bP ops.toList []).getD j 0).testBit i=true∨(S1 r y∧(c∈y.writes∨(y.isCall=true∧False))):=by
 rcases run.free j i r y hij hj hi hy with h1|h1
 ·exact .inl h1
 ·right;refine⟨ew h1,?_⟩;obtain⟨x,hx,ht⟩:=ht;rw[hy]at hx;cases hx;rcases ht with ht|ht|⟨t1,t2,_⟩
  ·exact .inl ht
  ·have:=((rf.chg j hj).made y hy).1 c ht;subst this;rw[rf.fresh i j W1 hj]at hl;cases hl
  ·have h2:=((rf.chg j hj).made y hy).2 t1;have h3:=Fw rf (show i≤j by omega) W1;rw[rf.bd i W1 c W1]at hl;cases hl
theorem KB(run:lD P F call ops base τ0 H0)(rf:cX P F call ops base τ0 H0){L:Nat→Bool}{i:Nat}(nx:Next ops L i){c:Nat}
  (hord:∀j,j<ops.size→j≠i→touched (fO P F call ops base τ0 H0 j) c→(j<i→((bP ops.toList []).getD i 0).testBit j=true)∧(i<j→((bP ops.toList []).getD j 0).testBit i=true)) :
  hget P F call ops base τ0 H0 L c=(eg P F call ops base τ0 H0 i).2.get c:=by
 rw[Jv run rf c i (by have:=nx.lt;omega),hget,oX (p:=λj=>cH (fO P F call ops base τ0 H0 j) c) nx.lt nx.not];intro j hj hne ht;obtain⟨h1,h2⟩:=hord j hj hne (sO.1 ht);exact⟨λhlt=>nx.before (h1 hlt),λhlt=>nx.behind hj (h2 hlt)⟩
theorem MH(run:lD P F call ops base τ0 H0)(rf:cX P F call ops base τ0 H0){i c:Nat}{r:r6}{b:Blk}(hi:i<ops.size)(hr:fO P F call ops base τ0 H0 i=some r)(hc:c∈r.reads)(hl:(eg P F call ops base τ0 H0 i).2.get c=some b):
  ∀j,j<ops.size→j≠i→touched (fO P F call ops base τ0 H0 j) c→(j<i→((bP ops.toList []).getD i 0).testBit j=true)∧(i<j→((bP ops.toList []).getD j 0).testBit i=true):=by
 intro j hj hne ht;obtain⟨x,hx,ht'⟩:=ht;refine⟨λhlt=>?_,λhlt=>?_⟩
 ·rcases run.free i j x r hlt hi hx hr with h1|h1
  ·exact h1
  ·exfalso;have fr:=ew h1;rcases ht' with t|t|⟨t1,t2,t3⟩
   ·exact fr.wr c t hc
   ·exact fr.mr c t hc
   ·exact fr.cr t1 c hc ⟨t2,t3⟩
 ·rcases later run rf hlt hj hr hx ⟨x,hx,ht'⟩ hl with h1|⟨h1,h2|⟨_,h2⟩⟩
  ·exact h1
  ·exact absurd h2 (h1.rw c hc)
  ·exact h2.elim
theorem HO{o:Op}{ρ:Operand→AV}{b c:Nat}{v:AV}{H H':ac}(h:aJ P F o ρ b H=some (.val v H'))(hc:c∈aE o ρ):∃x,H.get c=some x:=by
 cases o with
 |load t a=>
  simp only[aJ]at h;obtain⟨h1,_⟩:=fj h;simp only[aE]at hc;generalize ρ a=y at h1 hc;cases y<;>simp[aa]at hc<;>simp[m7]at h1;subst hc;cases hg:H.get _ with
  |none=>rw[hg]at h1;simp at h1
  |some x=>exact⟨x,rfl⟩
 |store t a x=>
  simp only[aJ]at h;cases hst:fL P H t (ρ a) (ρ x)with
  |none=>rw[hst]at h;cases h
  |some K=>
   simp only[aE]at hc;unfold fL at hst;split at hst
   ·rename_i d i off cs n ha hcs hn;rw[ha]at hc;simp[aa]at hc;subst hc;split at hst
    ·rename_i y hy;exact⟨y,hy⟩
    ·cases hst
   ·cases hst
 |indexAddr t x ix=>
  simp only[aJ]at h;obtain⟨h1,_⟩:=fj h;simp only[aE]at hc;generalize ρ x=y at h1 hc;cases y<;>simp[dq]at hc;subst hc;cases hg:H.get c with
  |some x=>exact⟨x,rfl⟩
  |none=>
   exfalso;simp only[dH,ms,hg,Option.map_none,Option.isSome_none,VN,false_and,and_false,if_false]at h1;split at h1
   ·split at h1
    ·cases h1
    ·split at h1<;>simp_all
   ·cases h1
 |slice t x lo hi mx=>
  simp only[aJ]at h;split at h
  ·cases h
  ·obtain⟨h1,_⟩:=fj h;simp only[aE]at hc;generalize ρ x=y at h1 hc;cases y<;>simp[dq]at hc;subst hc;cases hg:H.get c with
   |some x=>exact⟨x,rfl⟩
   |none=>
    exfalso;simp only[kI,ms,hg,Option.map_none,Option.isSome_none,VN,false_and,if_false]at h1;split at h1
    ·split at h1
     ·split at h1<;>cases h1
     ·cases h1
    ·cases h1
    ·cases h1
 |call k=>
  simp only[aE]at hc;split at hc
  ·rename_i hk;simp only[aJ,hk]at h;cases hbi:aR P H b .append k.argTypes (k.args.toList.map ρ)with
   |none=>rw[hbi]at h;cases h
   |some q=>
    unfold aR at hbi;split at hbi
    ·rename_i e _;cases e
    ·rename_i _ e _;cases e
    ·rename_i s x e heq;obtain⟨a0,a1,hargs,h0,h1⟩:=qj heq;rw[hargs]at hc;simp only[List.flatMap_cons,List.flatMap_nil,V2,h0,h1,Vz]at hc;split at hbi
     ·split at hbi
      ·unfold cK at hbi;split at hbi
       ·split at hbi
        ·split at hbi
         ·rename_i l m hl hm;have aux:∀{y:AV} {q n},ft H n y=some q→c∈aa y→∃x,H.get c=some x:=λ{y} {q} {n} hy hcy=>by
           cases y<;>simp[aa]at hcy<;>simp[ft]at hy;subst hcy;split at hy
           ·rename_i x hx;exact⟨x,hx⟩
           ·cases hy
          rcases hc with hc|hc
          ·exact aux hl hc
          ·exact aux hm hc
         ·cases hbi
        ·cases hbi
       ·cases hbi
      ·cases hbi
     ·cases hbi
    ·rename_i e _;cases e
    ·rename_i e _;cases e
    ·rename_i e _;cases e
    ·cases hbi
  ·rename_i hk;simp only[aJ,hk]at h;cases hbi:aR P H b .clear k.argTypes (k.args.toList.map ρ)with
   |none=>rw[hbi]at h;cases h
   |some q=>
    unfold aR at hbi;split at hbi
    ·rename_i e _;cases e
    ·rename_i _ e _;cases e
    ·rename_i e _;cases e
    ·rename_i e _;cases e
    ·rename_i e _;cases e
    ·rename_i x e heq;obtain⟨a0,hargs,h0⟩:=qi heq;rw[hargs]at hc;simp only[List.flatMap_cons,List.flatMap_nil,V2,h0]at hc;split at hbi
     ·rw[WL]at hbi;obtain⟨K1,hk1,_⟩:=hbi;unfold eU at hk1;split at hk1
      ·split at hk1
       ·split at hk1
        ·simp[aa]at hc
        ·simp[aa]at hc;subst hc;split at hk1
         ·rename_i y hy;exact⟨y,hy⟩
         ·cases hk1
        ·cases hk1
       ·cases hk1
      ·cases hk1
     ·cases hbi
    ·cases hbi
  ·simp at hc
 |lookup t m k ok=>simp only[aJ]at h;obtain⟨h1,rfl⟩:=fj h;obtain⟨q,x,hm,hx,_⟩:=CG h1;simp only[aE,hm,aa,Vr]at hc;exact⟨x,by rw[hc];exact hx⟩
 |mapUpdate t m k x=>
  simp only[aJ]at h;cases hs:eK P H t (ρ m) (ρ k) (ρ x)with
  |none=>rw[hs]at h;cases h
  |some H2=>obtain⟨q,y,y',hm,hy,_⟩:=my hs;simp only[aE,hm,aa,Vr]at hc;exact⟨y,by rw[hc];exact hy⟩
 |next it s=>
  cases s with
  |false=>simp[aJ]at h
  |true=>
   simp only[aJ]at h;cases hs:iu H (ρ it)with
   |none=>rw[hs]at h;cases h
   |some r=>obtain⟨q,y,hm,hy,_⟩:=vU hs;simp only[aE,hm,aa,Vr]at hc;exact⟨y,by rw[hc];exact hy⟩
 |_=>simp[aE]at hc
theorem vZ{o:Op}{ρ:Operand→AV}{c:Nat}(hc:c∈aC o ρ):c∈aE o ρ:=by
 cases o with
 |store t a x=>exact hc
 |call k=>
  simp only[aC]at hc;simp only[aE];split at hc
  ·rename_i hk;rw[List.mem_flatMap]at hc ⊢;obtain⟨x,h1,h2⟩:=hc;exact⟨x,List.mem_of_mem_take h1,h2⟩
  ·exact hc
  ·simp at hc
 |mapUpdate t m k x=>exact hc
 |next it s=>exact hc
 |_=>simp[aC]at hc
end
end
section
def iP(L:Nat→Bool)(i:Nat):Nat→Bool:=λj=>if j=i then true else L j
theorem CN{p:Nat→Bool}:∀{k j:Nat},cp p k=some j→j<k
 |0,j,h=>by cases h
 | k+1,j,h=>by
  unfold cp at h;split at h
  ·cases h;omega
  ·have:=CN h;omega
def Fx(H:ac):List Nat→ac→ac
 |[],K=>K
 |c::l,K=>Fx H l {K with tr:=K.tr.set c (H.get c)}
theorem HP(H:ac):∀(l:List Nat) (K:ac) (c:Nat),(Fx H l K).get c=if c∈l then H.get c else K.get c
 |[],K,c=>by simp[Fx]
 | d::l,K,c=>by
  rw[Fx,HP H l];by_cases h1:c∈l
  ·rw[if_pos h1,if_pos (by simp[h1])]
  ·rw[if_neg h1];show(K.tr.set d (H.get d)).get c=_;rw[Tr.get_set];by_cases h2:d=c
   ·subst h2;rw[if_pos rfl,if_pos W4]
   ·rw[if_neg h2,if_neg (by simp[h1];exact λe=>h2 e.symm)];rfl
section
variable {P:Program} {F:TypeId→Option (List TypeId)} {call:FuncId→List AV→ac→Option (AV×ac)} {ops:Array Oper} {base:Nat} {τ0:List AV} {H0:ac}
def SW(P:Program)(F:TypeId→Option (List TypeId))(call:FuncId→List AV→ac→Option (AV×ac))(ops:Array Oper)(base:Nat)(τ0:List AV)(H0:ac)(w0:World)(σ0:bb)(L:Nat→Bool)(a:Act)(w:World):Prop:=
 ∃σ K,aU w σ K∧(∀c,K.get c=hget P F call ops base τ0 H0 L c)∧K.next=Gg P F call ops base τ0 H0 L∧a.tmps.size=τ0.length∧a.defers=[]∧(∀t x u,oY P F call ops base τ0 H0 L t=some x→a.tmps[t]? =some u→aS w σ (aH σ K) x u)∧
  ef w0 σ0 (aH σ0 H0) w σ (aH σ K)∧(∀c pl,σ c=some pl→σ0 c=some pl∨base≤c)∧(∀i,i<ops.size→L i=false→σ (base+i)=none)
def tl(P:Program)(F:TypeId→Option (List TypeId))(call:FuncId→List AV→ac→Option (AV×ac))(ops:Array Oper)(base:Nat)(τ0:List AV)(H0:ac)(L:Nat→Bool):List AV:=
 (List.range τ0.length).map λt=>(oY P F call ops base τ0 H0 L t).getD bz
theorem HQ(rf:cX P F call ops base τ0 H0)(L:Nat→Bool)(t:Tmp):(t<τ0.length→∃x,oY P F call ops base τ0 H0 L t=some x)∧(τ0.length≤t→oY P F call ops base τ0 H0 L t=none):=by
 unfold oY;split
 ·rename_i j hj;have hl:=rf.len (j+1) (CN hj);exact⟨λht=>⟨_,Vk (by rw[hl];exact ht)⟩,λht=>Vq (by rw[hl];exact ht)⟩
 ·exact⟨λht=>⟨_,Vk ht⟩,λht=>Vq ht⟩
theorem MI(rf:cX P F call ops base τ0 H0)(L:Nat→Bool)(t:Tmp):(tl P F call ops base τ0 H0 L)[t]? =oY P F call ops base τ0 H0 L t:=by
 unfold tl;rw[VA];rcases Vp t τ0.length with h|h
 ·rw[WW h];obtain⟨x,hx⟩:=(HQ rf L t).1 h;simp[hx]
 ·rw[Vq (by simpa using h),(HQ rf L t).2 h];rfl
theorem S2(rf:cX P F call ops base τ0 H0){L:Nat→Bool}{a:Act}{w:World}{σ:bb}{T:Nat→Prop}(h1:a.tmps.size=τ0.length)(h2:a.defers=[])(h3:∀t x u,oY P F call ops base τ0 H0 L t=some x→a.tmps[t]? =some u→aS w σ T x u):
  cu w σ T (tl P F call ops base τ0 H0 L) a:=
 ⟨⟨by simp[tl,h1],λt x u hx hu=>h3 t x u (by rw[←MI rf];exact hx) (by rw[←VJ];exact hu)⟩,h2⟩
theorem O6{l m:List AV}{t:Nat}(h:l[t]? =m[t]?):l.getD t bz=m.getD t bz:=by simp[List.getD,h]
theorem MJ(run:lD P F call ops base τ0 H0)(rf:cX P F call ops base τ0 H0)(hst:mB ops){L:Nat→Bool}{i:Nat}(nx:Next ops L i){o:Oper}(ho:ops[i]? =some o):
  (∀x∈bH o.op,jR (eg P F call ops base τ0 H0 i).1 x=jR (tl P F call ops base τ0 H0 L) x)∧dt ops o (tl P F call ops base τ0 H0 L)=dt ops o (eg P F call ops base τ0 H0 i).1:=by
 have ht:∀t∈ie ops o,(tl P F call ops base τ0 H0 L)[t]? =(eg P F call ops base τ0 H0 i).1[t]? :=λt h=>by rw[MI rf,O5 run hst nx ho h]
 refine⟨λx hx=>?_,?_⟩
 ·cases x with
  | tmp t=>exact(O6 (ht t (by
    simp only[ie,Vz];exact .inl (.inr (List.mem_filterMap.2 ⟨.tmp t,hx,rfl⟩))))).symm
  |const v=>rfl
  |global g=>rfl
  |func f=>rfl
 ·unfold dt;cases hg:o.guard with
  |none=>rfl
  |some q=>
   obtain⟨j,want⟩:=q;simp only[];cases hd:(ops[j]?).bind (·.dst)with
   |none=>rfl
   |some d=>simp only[];rw[ht d (by simp only[ie,Vz,hg,hd];right;simp)]
theorem CO(run:lD P F call ops base τ0 H0)(rf:cX P F call ops base τ0 H0)(hst:mB ops){L:Nat→Bool}{i:Nat}(nx:Next ops L i){o:Oper}(ho:ops[i]? =some o){v:AV}{v':Value}{a:Act}{w w':World}{σ σ':bb}{T T':Nat→Prop}
  (hv:(eg P F call ops base τ0 H0 (i+1)).1=fK (eg P F call ops base τ0 H0 i).1 o.dst v) (hr:aS w' σ' T' v v') (h1:a.tmps.size=τ0.length) (h3:∀t x u,oY P F call ops base τ0 H0 L t=some x→a.tmps[t]? =some u→aS w σ T x u) (hE:∀x u,aS w σ T x u→aS w' σ' T' x u) :
  (a.put o.dst v').tmps.size=τ0.length∧∀t x u,oY P F call ops base τ0 H0 (iP L i) t=some x→(a.put o.dst v').tmps[t]? =some u→aS w' σ' T' x u:=by
 refine⟨by cases o.dst<;>simp[Act.put,h1],λt x u hx hu=>?_⟩;by_cases hw:wr ops t i=true
 ·have hd:o.dst=some t:=by simpa[wr,ho]using hw
  have hl:cp (λj=>iP L i j&&wr ops t j) ops.size=some i:=by
   refine yV nx.lt nx.not hw λj hj hne hwj hlt=>?_
   have hoj:ops[j]? =some ops[j]:=VM hj;have hdj:(ops[j]).dst=some t:=by simpa[wr,hoj]using hwj
   rcases hst j i _ o hlt hoj ho with h4|⟨h4,_⟩
   ·exact nx.behind hj h4
   ·exact absurd (by simp[ie,hdj]) (h4 t hd)
  unfold oY at hx;rw[hl]at hx;simp only[hv,hd,fK,Wf]at hx;simp only[hd,Act.put,Array.getElem?_setIfInBounds]at hu;simp only[if_true]at hx hu;split at hx
  ·split at hu
   ·cases hx;cases hu;exact hr
   ·cases hu
  ·cases hx
 ·have hw':wr ops t i=false:=by simpa using hw
  have hd:(o.dst==some t)=false:=by simpa[wr,ho]using hw'
  have hl:cp (λj=>iP L i j&&wr ops t j) ops.size=cp (λj=>L j&&wr ops t j) ops.size:=mA hw';have hx':oY P F call ops base τ0 H0 L t=some x:=by unfold oY at hx ⊢;rw[hl]at hx;exact hx
  refine hE x u (h3 t x u hx' ?_);rw[←hu];cases hdd:o.dst with
  |none=>rfl
  |some d=>
   have:d≠t:=by rw[hdd]at hd;simpa using hd
   simp[Act.put,this]
end
end
section
section
variable {P:Program} {F:TypeId→Option (List TypeId)} {call:FuncId→List AV→ac→Option (AV×ac)} {ops:Array Oper} {base:Nat} {τ0:List AV} {H0:ac}
theorem KC(rf:cX P F call ops base τ0 H0)(L:Nat→Bool):H0.next≤Gg P F call ops base τ0 H0 L:=by
 unfold Gg;split
 ·rename_i j hj;exact rf.le (j+1) (CN hj)
 ·exact Vl _
theorem yW{L:Nat→Bool}{i c:Nat}(h:cH (fO P F call ops base τ0 H0 i) c=false):hget P F call ops base τ0 H0 (iP L i) c=hget P F call ops base τ0 H0 L c:=by have hl:cp (λj=>iP L i j&&cH (fO P F call ops base τ0 H0 j) c) ops.size=cp (λj=>L j&&cH (fO P F call ops base τ0 H0 j) c) ops.size:=mA (p:=λj=>cH (fO P F call ops base τ0 H0 j) c) h;unfold hget;rw[hl]
theorem HR{L:Nat→Bool}{i c:Nat}(nx:Next ops L i)(h:cH (fO P F call ops base τ0 H0 i) c=true)(hl:∀j,j<ops.size→j≠i→touched (fO P F call ops base τ0 H0 j) c→i<j→((bP ops.toList []).getD j 0).testBit i=true):hget P F call ops base τ0 H0 (iP L i) c=(eg P F call ops base τ0 H0 (i+1)).2.get c:=by
 have hw:cp (λj=>iP L i j&&cH (fO P F call ops base τ0 H0 j) c) ops.size=some i:=yV (p:=λj=>cH (fO P F call ops base τ0 H0 j) c) nx.lt nx.not h λj hj hne ht hlt=>nx.behind hj (hl j hj hne (sO.1 ht) hlt)
 unfold hget;rw[hw]
theorem MK(fit:Fit P F)(hs:dY P call)(hch:∀f args H v H',Bd H→call f args H=some (v,H')→AQ H H')(run:lD P F call ops base τ0 H0)(rf:cX P F call ops base τ0 H0)(hst:mB ops)(hb:base+ops.size=H0.next)
  {w0:World} {σ0:bb} {L:Nat→Bool} {i:Nat} {a:Act} {w:World} (nx:Next ops L i) (h:SW P F call ops base τ0 H0 w0 σ0 L a w) {Q:Exit→Act→World→Prop}:wpOp P ops Q i (SW P F call ops base τ0 H0 w0 σ0 (iP L i)) a w:=by
 obtain⟨σ,K,hW,hK,hn,hsz,hdf,hrep,hE0,hnm,hfr⟩:=h;have hi:=nx.lt;obtain⟨o,ho⟩:∃o,ops[i]? =some o:=⟨_,VM hi⟩;obtain⟨hu,hwt⟩:=MJ run rf hst nx ho;have htm:=S2 rf hsz hdf hrep;have hbi:σ (base+i)=none:=hfr i hi nx.not;have hKb:K.get (base+i)=none:=by
  cases hg:K.get (base+i)with
  |none=>rfl
  |some x=>obtain⟨pl,_,_,h1,_⟩:=hW.live _ x hg;rw[hbi]at h1;cases h1
 have hSb:(eg P F call ops base τ0 H0 i).2.get (base+i)=none:=rf.fresh i i (Vl _) hi;have hlt:base+i<K.next:=by have:=KC rf L;rw[hn];omega
 have hfresh:∀{σ':bb},(∀c pl,σ' c=some pl→σ c=some pl∨c=base+i∨K.next≤c)→∀j,j<ops.size→iP L i j=false→σ' (base+j)=none:=λ{σ'} hσ j hj hLj=>by
  have hji:j≠i:=by rintro rfl;simp[iP]at hLj
  have hL:L j=false:=by simpa[iP,hji]using hLj
  cases hg:σ' (base+j)with
  |none=>rfl
  |some pl=>
   have hge:=KC rf L;rcases hσ _ pl hg with h1|h1|h1
   ·rw[hfr j hj hL]at h1;cases h1
   ·omega
   ·omega
 have hstep:=run.step i hi;unfold bu at hstep;rw[ho]at hstep;simp only[]at hstep;unfold wpOp;rw[ho];simp only[];split at hstep
 ·rename_i hwant;rw[←hwt]at hwant;rw[if_pos (iN htm hwant)];left;unfold Oper.wp;split at hstep
  ·rename_i v H' hop;simp only[Vv,Prod.mk.injEq]at hstep;obtain⟨e1,e2,e3⟩:=hstep;obtain⟨q1,q2,q3⟩:=KA (P:=P) (F:=F) hu (base+i) (eg P F call ops base τ0 H0 i).2;have hop2:aJ P F o.op (jR (tl P F call ops base τ0 H0 L)) (base+i) (eg P F call ops base τ0 H0 i).2=some (.val v H'):=by rw[←q1];exact hop
   have hreads:∀c,c∈aE o.op (jR (tl P F call ops base τ0 H0 L))→∃x,(eg P F call ops base τ0 H0 i).2.get c=some x∧∀j,j<ops.size→j≠i→touched (fO P F call ops base τ0 H0 j) c→(j<i→((bP ops.toList []).getD i 0).testBit j=true)∧(i<j→((bP ops.toList []).getD j 0).testBit i=true):=λc hc=>by obtain⟨x,hx⟩:=HO hop2 hc;exact⟨x,hx,MH run rf hi e3.symm (by show c∈aE o.op (jR (eg P F call ops base τ0 H0 i).1);rw[q2];exact hc) hx⟩
   have hr:∀c∈aE o.op (jR (tl P F call ops base τ0 H0 L)),K.get c=(eg P F call ops base τ0 H0 i).2.get c:=λc hc=>by obtain⟨x,_,h1⟩:=hreads c hc;rw[hK];exact KB run rf nx h1
   obtain⟨K',l1,l2,l3⟩:=LD hop2 K hr (by rw[hKb,hSb]);obtain⟨v',w',σ',h1,h2,h3,h4,h5⟩:=Ft fit hW hbi hlt (o:=o) (htm.eval hW.glob) l1;have htouch:∀c,cH (fO P F call ops base τ0 H0 i) c=true↔(c∈aC o.op (jR (tl P F call ops base τ0 H0 L))∨c=base+i):=λc=>by rw[←e3,←q3];simp[cH]
   have hinv:SW P F call ops base τ0 H0 w0 σ0 (iP L i) (a.put o.dst v') w':=by
    obtain⟨t1,t2⟩:=CO run rf hst nx ho e1.symm h2 hsz hrep (λx u hxu=>hxu.mono h4);refine⟨σ',K',h3,λc=>?_,?_,t1,by cases o.dst<;>exact hdf,t2,hE0.trans h4,λc pl hc=>?_,hfresh (λc pl hc=>?_)⟩
    ·rw[l3];cases ht:cH (fO P F call ops base τ0 H0 i) c with
     |true=>
      have hc:=(htouch c).1 ht;rw[if_pos hc,HR nx ht,←e2]
      ·rfl
      ·intro j hj hne hjt hlt';rcases hc with hc|hc
       ·obtain⟨x,_,h6⟩:=hreads c (vZ hc);exact(h6 j hj hne hjt).2 hlt'
       ·obtain⟨y,hy,hyt⟩:=hjt;rcases run.free j i _ y hlt' hj e3.symm hy with h6|h6
        ·exact h6
        ·exfalso;have fr:=ew h6;rcases hyt with t|t|⟨t3,t4,_⟩
         ·exact fr.mw c (by simp[hc]) t
         ·have:=((rf.chg j hj).made y hy).1 c t;omega
         ·have:=((rf.chg j hj).made y hy).2 t3;have:=rf.le j W1;omega
     |false=>rw[if_neg (λhc=>by rw[(htouch c).2 hc]at ht;cases ht),yW ht,hK]
    ·rw[l2,hn];have:gU (fO P F call ops base τ0 H0 i)=false:=by rw[←e3];rfl
     have hl:cp (λj=>iP L i j&&gU (fO P F call ops base τ0 H0 j)) ops.size=cp (λj=>L j&&gU (fO P F call ops base τ0 H0 j)) ops.size:=mA (p:=λj=>gU (fO P F call ops base τ0 H0 j)) this;unfold Gg;rw[hl]
    ·rcases h5 c pl hc with h6|h6
     ·exact hnm c pl h6
     ·exact .inr W1
    ·rcases h5 c pl hc with h6|h6
     ·exact .inl h6
     ·exact .inr (.inl h6)
   rcases h1 with h1|⟨h1,rfl⟩
   ·rw[h1];exact hinv
   ·rw[h1];exact hinv
  ·rename_i f args hop;split at hstep
   ·rename_i v H1 hcall;simp only[Vv,Prod.mk.injEq]at hstep;obtain⟨e1,e2,e3⟩:=hstep;obtain⟨q1,q2,q3⟩:=KA (P:=P) (F:=F) hu (base+i) (eg P F call ops base τ0 H0 i).2;have hop2:aJ P F o.op (jR (tl P F call ops base τ0 H0 L)) (base+i) (eg P F call ops base τ0 H0 i).2=some (.call f args):=by rw[←q1];exact hop
    have hopK:=CL hop2 K;obtain⟨fn,cd,hf,hbd⟩:=hs.body _ _ _ _ _ hcall;obtain⟨vs,g1,g2⟩:=HG fit (o:=o) (b:=base+i) (htm.eval hW.glob) hopK hf hbd;have hHg:=gT base ((bP ops.toList []).getD i 0) i (eg P F call ops base τ0 H0 i).2;have hHn:=(fD base ((bP ops.toList []).getD i 0) i (eg P F call ops base τ0 H0 i).2).1;generalize hHc:df base ((bP ops.toList []).getD i 0) i (eg P F call ops base τ0 H0 i).2=Hh at hcall e3 hHg hHn;have hbdc:Bd ({Hh with log:=[]}:ac):=λd hd=>by
     show Hh.get d=none;rw[hHg];split
     ·rfl
     ·exact rf.bd i W1 d (by rw[←hHn];exact hd)
    have hcg:AQ ({Hh with log:=[]}:ac) H1:=hch _ _ _ _ _ hbdc hcall;generalize hHc2:({Hh with log:=[]}:ac)=Hc at hcall hcg hbdc;have hHg:∀c,Hc.get c=if(∃j,j<i∧((bP ops.toList []).getD i 0).testBit j=false∧c=base+j)then none else(eg P F call ops base τ0 H0 i).2.get c:=λc=>by rw[←hHc2];exact hHg c
    have hHn:Hc.next=(eg P F call ops base τ0 H0 i).2.next:=by rw[←hHc2];exact hHn
    have hHh:∀c,Hh.get c=Hc.get c:=λc=>by rw[←hHc2];rfl
    have htouch:∀c,cH (fO P F call ops base τ0 H0 i) c=true↔((c∈H1.log∧(Hc.get c).isSome=true)∨((eg P F call ops base τ0 H0 i).2.next≤c∧c<H1.next)):=λc=>by rw[←e3];simp[cH,hHh]
    have hKn:K.next=(eg P F call ops base τ0 H0 i).2.next:=by
     rw[hn,Jw run i W1,Gg,oX (p:=λj=>gU (fO P F call ops base τ0 H0 j)) hi nx.not];intro j hj hne hcj;cases hx:fO P F call ops base τ0 H0 j with
     |none=>rw[hx]at hcj;cases hcj
     |some x=>
      rw[hx]at hcj;refine⟨λhl=>?_,λhl=>?_⟩
      ·rcases run.free i j x _ hl hi hx e3.symm with h6|h6
       ·exact nx.before h6
       ·have:=(ew h6).cc hcj;cases this
      ·rcases run.free j i _ x hl hj e3.symm hx with h6|h6
       ·exact nx.behind hj h6
       ·have:=(ew h6).cc rfl;have h7:x.isCall=true:=hcj;rw[h7]at this;cases this
    have hsub:∀c x,Hc.get c=some x→K.get c=some x:=λc x hx=>by
     rw[hHg]at hx;split at hx
     ·cases hx
     ·rename_i hnh;rw[hK,KB run rf nx ?_]
      ·exact hx
      ·intro j hj hne ht;obtain⟨y,hy,hyt⟩:=ht;refine⟨λhl=>?_,λhl=>?_⟩
       ·cases hbit:((bP ops.toList []).getD i 0).testBit j with
        |true=>rfl
        |false=>
         exfalso;rcases run.free i j y _ hl hi hy e3.symm with h6|h6
         ·rw[hbit]at h6;cases h6
         ·have fr:=ew h6;rcases hyt with t|t|⟨t3,_,_⟩
          ·exact fr.wc rfl c t
          ·exact hnh ⟨j,hl,hbit,((rf.chg j hj).made y hy).1 c t⟩
          ·have:=fr.cc t3;cases this
       ·rcases later run rf hl hj e3.symm hy ⟨y,hy,hyt⟩ hx with h6|⟨fr,h6|⟨_,h6⟩⟩
        ·exact h6
        ·exact absurd h6 (fr.cw rfl c)
        ·exact h6.elim
    have hnK:Hc.next=K.next:=by rw[hHn,hKn]
    have hWc:=hW.part hsub (by rw[hnK];exact Vl _);rw[g1];refine(hs.ok _ _ _ _ _ hcall w (σ.part K Hc) vs hWc ⟨g2.1,λq x u hx hu=>by rw[vY hsub];exact aS.sig (σ:=σ) (σ':=σ.part K Hc) rfl (g2.2 q x u hx hu)⟩).mono ?_;rintro e w' ⟨v',σ',rfl,k1,k2,k3,k4⟩;have hK1:=hcg.next;obtain⟨K',hK'n,hK'g⟩:∃K':ac,K'.next=H1.next∧∀c,K'.get c=if cH (fO P F call ops base τ0 H0 i) c=true then H1.get c else K.get c:=by
     refine⟨{Fx H1 (H1.log.filter (λc=>(Hc.get c).isSome)++List.range' K.next (H1.next-K.next)) K with next:=H1.next},rfl,λc=>?_⟩;show(Fx H1 _ K).get c=_;rw[HP];have:c∈(H1.log.filter (λc=>(Hc.get c).isSome)++List.range' K.next (H1.next-K.next))↔cH (fO P F call ops base τ0 H0 i) c=true:=by
      rw[htouch,Vz,WI,List.mem_range'_1,hKn];constructor
      ·rintro(h6|h6)
       ·exact .inl h6
       ·exact .inr W1
      ·rintro(h6|h6)
       ·exact .inl h6
       ·exact .inr W1
     by_cases ht:cH (fO P F call ops base τ0 H0 i) c=true
     ·rw[if_pos (this.2 ht),if_pos ht]
     ·rw[if_neg (λh6=>ht (this.1 h6)),if_neg ht]
    have hbd1:Bd H1:=hcg.bd hbdc;have hform:∀c,K'.get c=if Hc.get c=none∧c<K.next then K.get c else H1.get c:=λc=>by
     rw[hK'g];by_cases ht:cH (fO P F call ops base τ0 H0 i) c=true
     ·rw[if_pos ht,if_neg];rintro⟨h6,h7⟩;rcases(htouch c).1 ht with⟨_,h8⟩|⟨h8,_⟩
      ·rw[h6]at h8;cases h8
      ·omega
     ·rw[if_neg ht];split
      ·rfl
      ·rename_i hnn;cases hg:Hc.get c with
       |some x=>
        have hcl:c∉H1.log:=λh6=>ht ((htouch c).2 (.inl ⟨h6,by rw[hg];rfl⟩))
        have hcn:c<Hc.next:=by
         rcases Vp c Hc.next with h6|h6
         ·exact h6
         ·rw[hbdc c h6]at hg;cases hg
        rw[hcg.keep c hcn hcl,hg];exact hsub c x hg
       |none=>
        have hcn:K.next≤c:=by
         rcases Vp c K.next with h6|h6
         ·exact absurd ⟨hg,h6⟩ hnn
         ·exact h6
        have hc1:H1.next≤c:=by
         rcases Vp c H1.next with h6|h6
         ·exact absurd ((htouch c).2 (.inr ⟨by rw[←hKn];exact hcn,h6⟩)) ht
         ·exact h6
        rw[hbd1 c hc1];cases hg2:K.get c with
        |none=>rfl
        |some x=>obtain⟨pl,_,_,h6,_⟩:=hW.live c x hg2;have:=hW.named c pl h6;omega
    obtain⟨z1,z2,z3⟩:=hW.whole hsub hnK k2 k3 hcg.dom hform (by rw[hK'n];exact Vl _);obtain⟨t1,t2⟩:=CO run rf hst nx ho (v:=v) (v':=v') (w':=w') (σ':=⟨σ'.map,σ.fr⟩) (T':=aH ⟨σ'.map,σ.fr⟩ K') e1.symm (by rw[z3];exact aS.sig (σ:=σ') (σ':=⟨σ'.map,σ.fr⟩) rfl k1) hsz hrep (λx u hxu=>hxu.mono z2);refine(⟨⟨σ'.map,σ.fr⟩,K',z1,λc=>?_,?_,t1,by cases o.dst<;>exact hdf,t2,hE0.trans z2,λc pl hc=>?_,hfresh (λc pl hc=>?_)⟩:SW P F call ops base τ0 H0 w0 σ0 (iP L i) (a.put o.dst v') w')
    ·rw[hK'g];cases ht:cH (fO P F call ops base τ0 H0 i) c with
     |true=>
      have hnhid:¬ ∃j,j<i∧((bP ops.toList []).getD i 0).testBit j=false∧c=base+j:=by
       intro hh;rcases(htouch c).1 ht with⟨_,h8⟩|⟨h8,_⟩
       ·rw[hHg,if_pos hh]at h8;cases h8
       ·obtain⟨j,hj,_,rfl⟩:=hh;have:=rf.le i W1;omega
      rw[if_pos rfl,HR nx ht,←e2]
      ·show H1.get c=(iv _ _ _ _ _).get c;rw[lC,if_neg hnhid]
      ·intro j hj hne hjt hl;obtain⟨y,hy,hyt⟩:=hjt;rcases run.free j i _ y hl hj e3.symm hy with h6|h6
       ·exact h6
       ·exfalso;have fr:=ew h6;rcases hyt with t|t|⟨t3,_,_⟩
        ·exact fr.cw rfl c t
        ·have hcj:=((rf.chg j hj).made y hy).1 c t;rcases(htouch c).1 ht with⟨_,h8⟩|⟨h8,_⟩
         ·rw[hHg,if_neg hnhid,hcj,rf.fresh i j W1 hj]at h8;cases h8
         ·have:=rf.le i W1;omega
        ·have h7:=fr.cc rfl;rw[t3]at h7;cases h7
     |false=>rw[if_neg W4,yW ht,hK]
    ·rw[hK'n];have hcb:gU (fO P F call ops base τ0 H0 i)=true:=by rw[←e3];rfl
     have hl:cp (λj=>iP L i j&&gU (fO P F call ops base τ0 H0 j)) ops.size=some i:=yV (p:=λj=>gU (fO P F call ops base τ0 H0 j)) hi nx.not hcb (λj hj hne hcj hl=>by
      cases hx:fO P F call ops base τ0 H0 j with
      |none=>rw[hx]at hcj;cases hcj
      |some x=>
       rw[hx]at hcj;rcases run.free j i _ x hl hj e3.symm hx with h6|h6
       ·exact nx.behind hj h6
       ·have:=(ew h6).cc rfl;have h7:x.isCall=true:=hcj;rw[h7]at this;cases this)
     unfold Gg;rw[hl];simp only[];rw[←e2];exact(gy _ _ _ _ _).1.symm
    ·rcases k4 c pl hc with h6|h6
     ·exact hnm c pl h6
     ·exact .inr (by have:=rf.le i W1;omega)
    ·rcases k4 c pl hc with h6|h6
     ·exact .inl h6
     ·exact .inr (.inr W1)
   ·cases hstep
  ·cases hstep
 ·rename_i hwant;rw[←hwt]at hwant;rw[if_neg (by rw[iN htm hwant];simp)];simp only[Vv,Prod.mk.injEq]at hstep;obtain⟨e1,e2,e3⟩:=hstep;obtain⟨t1,t2⟩:=CO run rf hst nx ho e1.symm lz hsz hrep (λx u hxu=>hxu);have ht:∀c,cH (fO P F call ops base τ0 H0 i) c=false:=λc=>by rw[←e3];rfl
  refine⟨σ,K,hW,λc=>by rw[yW (ht c),hK],?_,t1,by cases o.dst<;>exact hdf,t2,hE0,hnm,hfresh (λc pl hc=>.inl hc)⟩;rw[hn];have:gU (fO P F call ops base τ0 H0 i)=false:=by rw[←e3];rfl
  have hl:cp (λj=>iP L i j&&gU (fO P F call ops base τ0 H0 j)) ops.size=cp (λj=>L j&&gU (fO P F call ops base τ0 H0 j)) ops.size:=mA (p:=λj=>gU (fO P F call ops base τ0 H0 j)) this;unfold Gg;rw[hl]
 ·cases hstep
end
end
section
def wa(ops:Array Oper):Prop:=∀(i:Nat) (o:Oper),ops[i]? =some o→∀e∈o.after.toList,Region.binds .any e=true→e.on<i
def j6:Code→Prop
 |.region _ ops draw=>draw=true→mB ops∧wa ops
 |.seq a b=>j6 a∧j6 b
 |.cond _ a b=>j6 a∧j6 b
 |.block _ b=>j6 b
 |.loop b=>j6 b
 |_=>True
section
variable {P:Program} {F:TypeId→Option (List TypeId)} {call:FuncId→List AV→ac→Option (AV×ac)} {ops:Array Oper} {base:Nat} {τ0:List AV} {H0:ac}
theorem mC(hs:dY P call){before:List Nat}:∀(l:List Nat) (τ τ':List AV) (H K:ac) (rs rs':List r6),dX P F call ops base before l τ H rs=some (τ',K,rs')→H.next≤K.next
 |[],τ,τ',H,K,rs,rs',h=>by cases h;exact Vl _
 | i::l,τ,τ',H,K,rs,rs',h=>by
  have key:∀{mask τ1 H1 r},bu P F call ops base i mask τ H=some (τ1,H1,r)→H.next≤H1.next:=λ{mask τ1 H1 r} hd=>by
   unfold bu at hd;split at hd
   ·cases hd
   ·split at hd
    ·split at hd
     ·rename_i hop;cases hd;have:=CH hop;exact Nat.le_of_eq this.symm
     ·split at hd
      ·rename_i hcall;cases hd;have:=hs.next _ _ _ _ _ hcall;show H.next≤(iv _ _ _ _ _).next
       rw[(gy _ _ _ _ _).1];have h2:=(fD base mask i H).1;simp only[]at this;omega
      ·cases hd
     ·cases hd
    ·cases hd;exact Vl _
    ·cases hd
  unfold dX at h;split at h
  ·rename_i hd;exact VD (key hd) (mC hs l _ _ _ _ _ _ h)
  ·rename_i hd;split at h
   ·exact VD (key hd) (mC hs l _ _ _ _ _ _ h)
   ·cases h
  ·cases h
def cnt(L:Nat→Bool):Nat→Nat
 |0=>0
 |k+1=>cnt L k+(if L k then 0 else 1)
theorem HS{L:Nat→Bool}:∀{n:Nat},cnt L n=0→∀i,i<n→L i=true
 | n+1,h,i,hi=>by
  unfold cnt at h;rcases Wt (Nat.le_of_lt_succ hi)with rfl|hlt
  ·cases hL:L i with
   |true=>rfl
   |false=>rw[hL]at h;simp at h
  ·exact HS W1 i hlt
theorem Fy{L M:Nat→Bool}:∀{n:Nat},(∀i,i<n→L i=M i)→cnt L n=cnt M n
 |0,_=>rfl
 |n+1,h=>by rw[cnt,cnt,Fy λi hi=>h i W1,h n W1]
theorem KD{L:Nat→Bool}{i:Nat}(hL:L i=false):∀{n:Nat},i<n→cnt (iP L i) n+1=cnt L n
 | n+1,hi=>by
  unfold cnt;rcases Wt (Nat.le_of_lt_succ hi)with rfl|hlt
  ·rw[Fy (M:=L) λj hj=>by simp[iP,show¬j=i by omega]];simp[iP,hL]
  ·have:=KD hL hlt;have e:iP L i n=L n:=by simp[iP,show¬n=i by omega]
   rw[e];omega
theorem FA:∀n,cnt (λ_=>false) n=n
 |0=>rfl
 |n+1=>by simp[cnt,FA n]
theorem FB{L:Nat→Bool}:∀n,(∀i,i<n→L i=true)∨∃i,i<n∧L i=false∧∀j,j<i→L j=true
 |0=>.inl λi hi=>by omega
 | n+1=>by
  rcases FB (L:=L) n with h|⟨i,h1,h2,h3⟩
  ·by_cases hL:L n=true
   ·left;intro i hi;rcases Wt (Nat.le_of_lt_succ hi)with rfl|hlt
    ·exact hL
    ·exact h i hlt
   ·exact .inr ⟨n,W1,by simpa using hL,h⟩
  ·exact .inr ⟨i,W1,h2,h3⟩
theorem yX{l:Array Bool}{i:Nat}(hi:i<l.size):l.getD i true=l.getD i false:=by simp[Array.getD,hi]
theorem LG(fit:Fit P F)(hs:dY P call)(hch:∀f args H v H',Bd H→call f args H=some (v,H')→AQ H H')(run:lD P F call ops base τ0 H0)(rf:cX P F call ops base τ0 H0)(hst:mB ops)(hed:wa ops)(hb:base+ops.size=H0.next)
  {w0:World} {σ0:bb} {Q:Exit→Act→World→Prop} (hQ:∀a w,SW P F call ops base τ0 H0 w0 σ0 (λi=>decide (i<ops.size)) a w→Q .normal a w) :
  ∀(fuel:Nat) (listed:Array Bool) (a:Act) (w:World),listed.size=ops.size→Gf ops (λi=>listed.getD i false)→cnt (λi=>listed.getD i false) ops.size≤fuel→
   SW P F call ops base τ0 H0 w0 σ0 (λi=>listed.getD i false) a w→wpAny P .any ops Q fuel listed a w:=by
 intro fuel
 induction fuel with
 |zero=>
  intro listed a w hsz hcl hf hI;have hall:=HS (by omega:cnt (λi=>listed.getD i false) ops.size=0);unfold wpAny;refine⟨?_,?_⟩
  ·unfold Region.ready;rw[List.filter_eq_nil_iff];intro i hi;rw[Wi]at hi;have:=hall i hi;rw[yX W1,this];simp
  ·refine hQ a w ?_;have e:(λi=>listed.getD i false)=λi=>decide (i<ops.size):=by
    funext i;by_cases hi:i<ops.size
    ·rw[hall i hi];simp[hi]
    ·simp[Array.getD,hsz,hi]
   rw[←e];exact hI
 |succ fuel ih=>
  intro listed a w hsz hcl hf hI;unfold wpAny;refine⟨λhr=>?_,λi hi=>?_⟩
  ·rcases FB (L:=λi=>listed.getD i false) ops.size with hall|⟨i,h1,h2,h3⟩
   ·refine hQ a w ?_;have e:(λi=>listed.getD i false)=λi=>decide (i<ops.size):=by
     funext i;by_cases hi:i<ops.size
     ·rw[hall i hi];simp[hi]
     ·simp[Array.getD,hsz,hi]
    rw[←e];exact hI
   ·exfalso;unfold Region.ready at hr;rw[List.filter_eq_nil_iff]at hr;have ho:ops[i]? =some ops[i]:=VM h1;refine hr i (by rw[Wi];exact h1) ?_;rw[yX W1,ho];rw[h2];simp only[Bool.not_false,Bool.true_and,VL,WY];rw[Array.all_eq_true_iff_forall_mem];intro e he;cases hbn:Region.binds .any e with
    |false=>rfl
    |true=>have:=h3 e.on (hed i _ ho e (by rw[Array.mem_toList_iff];exact he) hbn);rw[this];rfl
  ·unfold Region.ready at hi;rw[WI,Wi]at hi;obtain⟨hi1,hi2⟩:=hi;obtain⟨o,ho⟩:∃o,ops[i]? =some o:=⟨_,VM hi1⟩;rw[VP,ho]at hi2;obtain⟨hi2,hi3⟩:=hi2;have hnot:listed.getD i false=false:=by rw[←yX W1];simpa using hi2
   simp only[VL,WY]at hi3;rw[Array.all_eq_true_iff_forall_mem]at hi3;have nx:Next ops (λi=>listed.getD i false) i:=⟨hi1,hnot,hcl,λo' ho' e he hbn=>by
    rw[ho]at ho';cases ho';have:=hi3 e (by rw[←Array.mem_toList_iff];exact he);rw[hbn]at this;simpa using this⟩
   have eL:(λj=>(listed.setIfInBounds i true).getD j false)=iP (λj=>listed.getD j false) i:=by
    funext j;unfold iP;by_cases hj:j=i
    ·subst hj;rw[if_pos rfl];simp[Array.getD,show j<listed.size by omega]
    ·rw[if_neg hj];by_cases hjl:j<listed.size
     ·simp[Array.getD,hjl,show¬i=j by omega]
     ·simp[Array.getD,hjl]
   refine wpOp_mono (λa' w' hI'=>?_) (MK fit hs hch run rf hst hb nx hI);refine ih _ a' w' (by simpa using hsz) ?_ ?_ (by rw[eL];exact hI')
   ·rw[eL];intro j oj hoj hLj e he hbn;unfold iP at hLj ⊢;split
    ·rfl
    ·split at hLj
     ·rename_i _ hji;subst hji;exact nx.edges oj hoj e he hbn
     ·exact hcl j oj hoj hLj e he hbn
   ·rw[eL];have:=KD (L:=λj=>listed.getD j false) hnot hi1;omega
theorem CP(fit:Fit P F)(hs:dY P call)(hch:∀f args H v H',Bd H→call f args H=some (v,H')→AQ H H')(hst:mB ops)(hed:wa ops){τ τ':List AV}{H H':ac}(h:du P F call ops true τ H=some (τ',H')):
  H.next≤H'.next∧∀(id:Nat) (w:World) (σ:bb) (a:Act),aU w σ H→cu w σ (aH σ H) τ a→∀Q:Exit→Act→World→Prop,(∀a' w',r9 w σ H τ' H' a' w'→Q .normal a' w')→(Code.region id ops true).wp P Q a w:=by
 simp only[du,if_true]at h;split at h
 ·rename_i τq K rs hd;cases h;refine⟨VD (VU _ _) (mC hs _ _ _ _ _ _ _ hd),λid w σ a hW hτ Q hQ=>?_⟩;have hbd:Bd H:=λb hb=>by
   cases hg:H.get b with
   |none=>rfl
   |some x=>obtain⟨pl,_,_,h1,_⟩:=hW.live b x hg;have:=hW.named b pl h1;omega
  have hn:H.next+ops.size=({H with next:=H.next+ops.size}:ac).next:=rfl
  have hg0:∀b,({H with next:=H.next+ops.size}:ac).get b=H.get b:=λ_=>rfl
  have hW0:aU w σ {H with next:=H.next+ops.size}:=hW.congr hg0 (VU _ _);have ho0:aH σ {H with next:=H.next+ops.size}=aH σ H:=aH.congr hg0;generalize hH0:({H with next:=H.next+ops.size}:ac)=H0 at hd hn hg0 hW0 ho0;have hbd0:Bd H0:=λb hb=>by rw[hg0];exact hbd b W1
  rw[List.range_eq_range']at hd;obtain⟨a1,a2,a3⟩:=MG (P:=P) (F:=F) (call:=call) (ops:=ops) (base:=H.next) (τ0:=τ) (H0:=H0) ops.size 0 [] rs τ' K hd (λj x hj=>by omega);simp only[Wg]at a1 a2 a3;have run:lD P F call ops H.next τ H0:=⟨λi hi=>a1 i (VX _) hi,λi j x r hji hi hx hr=>a2 i j x r (VX _) hi hji hx hr⟩;have rf:=LF hch run hbd0 hn (λj hj=>by rw[hg0];exact hbd _ (VU _ _));have hnone:∀(p:Nat→Bool) n,cp (λj=>false&&p j) n=none:=λp n=>by rw[sN (k:=0) (VX _) (λi _ _=>by simp)];rfl
  have hall:∀(p:Nat→Bool) n,cp (λj=>decide (j<n)&&p j) n=cp p n:=λp n=>j5 λi hi=>by simp[hi]
  refine wp_region_any fit.order (LG (w0:=w) (σ0:=σ) fit hs hch run rf hst hed hn ?_ ops.size _ a _ W4 ?_ ?_ ?_)
  ·intro a' w' hI;obtain⟨σ',K',k1,k2,k3,k4,k5,k6,k7,k8,_⟩:=hI;have eS:(eg P F call ops H.next τ H0 ops.size)=(τ',K):=a3.symm;have hget':∀c,K'.get c=K.get c:=λc=>by have:=Jv run rf c ops.size (Vl _);rw[eS]at this;rw[k2,hget,hall];exact this.symm
   have hnx:K'.next=K.next:=by have:=Jw run ops.size (Vl _);rw[eS]at this;rw[k3,Gg,hall];exact this.symm
   have htg:∀t,oY P F call ops H.next τ H0 (λi=>decide (i<ops.size)) t=τ'[t]? :=λt=>by have:=Ju run t ops.size (Vl _);rw[eS]at this;rw[oY,hall];exact this.symm
   have hlen:τ'.length=τ.length:=by have:=rf.len ops.size (Vl _);rw[eS]at this;exact this
   have hoK:aH σ' ({K with log:=rs.flatMap (·.writes)++K.log}:ac)=aH σ' K':=aH.congr λb=>(hget' b).symm
   refine hQ a' w' ⟨σ',⟨⟨by simp[hlen,k4],λt x u hx hu=>?_⟩,k5⟩,k1.congr (λb=>(hget' b).symm) (by rw[hnx];exact Vl _),by rw[hoK,←ho0];exact k7,λc pl hc=>k8 c pl hc⟩;rw[hoK];exact k6 t x u (by rw[htg];exact hx) (by rw[←VJ];exact hu)
  ·intro i o ho hL;simp[Array.getD]at hL
  ·have:(λi=>(Array.replicate ops.size false).getD i false)=λ_=>false:=by funext i;simp[Array.getD]
   rw[this,FA];exact Vl _
  ·have:(λi=>(Array.replicate ops.size false).getD i false)=λ_=>false:=by funext i;simp[Array.getD]
   rw[this];refine⟨σ,H0,hW0.same rfl rfl rfl rfl,λc=>by rw[hget,hnone],by rw[Gg,hnone],by have:=hτ.1.1;simpa using this.symm,hτ.2,λt x u hx hu=>?_,ef.same σ _ rfl rfl rfl rfl,λc pl hc=>.inl hc,λi hi _=>?_⟩
   ·rw[oY,hnone]at hx;have:=hτ.1.2 t x u hx (by rw[VJ];exact hu);rw[←ho0]at this;have e:ef w σ (aH σ H0) {w with drawn:=w.drawn+1} σ (aH σ H0):=ef.same σ _ rfl rfl rfl rfl;exact this.mono e
   ·cases hg:σ (H.next+i)with
    |none=>rfl
    |some pl=>have:=hW.named _ pl hg;omega
 ·cases h
def kK(P:Program)(n:Nat)(c:Code)(τ:List AV)(H:ac)(e:Ex)(τ':List AV)(H':ac):Prop:=
 H.next≤H'.next∧∀(w:World) (σ:bb) (a:Act),aU w σ H→cu w σ (aH σ H) τ a→∀Q:Exit→Act→World→Prop,(∀a' w',r9 w σ H τ' H' a' w'→Q (HI e) a' w')→Code.rounds P c Q n a w
end
end
section
open Go.RowKit
def KE(ops:Array Oper):Bool:=
 let M:=bP ops.toList []
 let N:=ops.toList.map λo=>(o.dst,ie ops o)
 (List.range ops.size).all λi=>(List.range i).all λj=>
  (M.getD i 0).testBit j ||
  (match N[i]?,N[j]? with
   |some (di,ni),some (dj,nj)=>(match dj with|some t=>!ni.contains t|none=>true)&&(match di with|some t=>!nj.contains t|none=>true)
   |_,_=>true)
def Gh(ops:Array Oper):Bool:=(List.range ops.size).all λi=>match ops[i]? with
 |some o=>o.after.toList.all λe=>!Region.binds .any e||decide (e.on<i)
 |none=>true
def iZ:Code→Bool
 |.region _ ops draw=>!draw||(KE ops&&Gh ops)
 |.seq a b=>iZ a&&iZ b
 |.cond _ a b=>iZ a&&iZ b
 |.block _ b=>iZ b
 |.loop b=>iZ b
 |_=>true
theorem HT{ops:Array Oper}(h:KE ops=true):mB ops:=by
 intro i j oi oj hji hoi hoj;have hi:i<ops.size:=(Wx.1 hoi).1;unfold KE at h;simp only[VB,Wi]at h;have h1:=h i hi j hji;have ei:(ops.toList.map λo=>(o.dst,ie ops o))[i]? =some (oi.dst,ie ops oi):=by rw[VA,VJ,hoi];rfl
 have ej:(ops.toList.map λo=>(o.dst,ie ops o))[j]? =some (oj.dst,ie ops oj):=by rw[VA,VJ,hoj];rfl
 rw[ei,ej]at h1;simp only[WS,VP]at h1;rcases h1 with h1|⟨h1,h2⟩
 ·exact .inl h1
 ·right;refine⟨λt ht=>?_,λt ht=>?_⟩
  ·rw[ht]at h1;simpa using h1
  ·rw[ht]at h2;simpa using h2
theorem FC{ops:Array Oper}(h:Gh ops=true):wa ops:=by intro i o ho e he hb;have hi:i<ops.size:=(Wx.1 ho).1;unfold Gh at h;simp only[VB,Wi]at h;have h1:=h i hi;rw[ho]at h1;simp only[VB]at h1;have:=h1 e he;rw[hb]at this;simpa using this
theorem gz:∀(c:Code),iZ c=true→j6 c
 | .region _ ops draw,h=>λhd=>by subst hd;simp only[iZ,Bool.not_true,Bool.false_or,VP]at h;exact⟨HT h.1,FC h.2⟩
 |.seq a b,h=>by simp only[iZ,VP]at h;exact⟨gz a h.1,gz b h.2⟩
 |.cond _ a b,h=>by simp only[iZ,VP]at h;exact⟨gz a h.1,gz b h.2⟩
 |.block _ b,h=>gz b h
 |.loop b,h=>gz b h
 |.skip,_=>trivial
 |.rangeFunc ..,_=>trivial
 |.exit _,_=>trivial
 |.scope _,_=>trivial
 |.label _,_=>trivial
 |.goto _,_=>trivial
 |.ret,_=>trivial
 |.refuse _,_=>trivial
def HU (fn : Func) : Bool := (fn.name != "runtime.NumGoroutine") && (match fn.body with | some c => iZ c | none => true)
theorem Qp {P : Program} (h : P.funcs.toList.all HU = true) : (∀ (g : Nat) (fn : Func), P.funcs[g]? = some fn → fn.name ≠ "runtime.NumGoroutine") ∧ ∀ (g : Nat) (fn : Func) (c : Code), P.funcs[g]? = some fn → fn.body = some c → j6 c := by
 rw[VB]at h;have key:∀(g:Nat) (fn:Func),P.funcs[g]? =some fn→HU fn=true:=λg fn hg=>h fn (by rw[Array.mem_toList_iff];exact Array.mem_of_getElem? hg)
 refine⟨λg fn hg=>?_,λg fn c hg hc=>?_⟩
 ·have:=key g fn hg;simp only[HU,VP]at this;simpa using this.1
 ·have:=key g fn hg;simp only[HU,VP,hc]at this;exact gz c this.2
end
section
open Go.RowKit
inductive aW:AV→Prop where
 |int (k:IntKind) (n:Int):aW (.int k n)
 |bool (b:Bool):aW (.bool b)
 |str (s:List UInt8):aW (.str s)
 |nilp:aW .nilp
 |nils:aW .nils
 |emp:aW .emp
 |nilf:aW .nilf
 |junk:aW .junk
 |lst (rows:List (List AV)) (h:∀(i:Nat) (r:List AV) (j:Nat) (a:AV),rows[i]? =some r→r[j]? =some a→aW a):aW (.lst rows)
 |agg (cs:List AV) (h:∀(i:Nat) (a:AV),cs[i]? =some a→aW a):aW (.agg cs)
 |tup (cs:List AV) (h:∀(i:Nat) (a:AV),cs[i]? =some a→aW a):aW (.tup cs)
 |fn (f:FuncId) (cs:List AV) (h:∀(i:Nat) (a:AV),cs[i]? =some a→aW a):aW (.fn f cs)
section
variable {P:Program} {F:TypeId→Option (List TypeId)} {w w':World} {σ σ':bb} {T T':Nat→Prop}
theorem sJ.shrink{rows:List (List AV)}{b o sz:Nat}(h:sJ w T rows b o sz)(hT:∀c,T' c→T c):sJ w T' rows b o sz:=⟨λht=>h.out (hT b ht),h.even,h.cell,h.pos,h.ne⟩
theorem aW.rep{a:AV}(hp:aW a):∀{v:Value},aS w σ T a v→(∀c,T' c→T c)→aS w σ' T' a v:=by
 induction hp with
 |int k n=>intro v h _;cases h;exact .int k n
 |bool b=>intro v h _;cases h;exact .bool b
 |str s=>intro v h _;cases h;exact .str _
 |nilp=>intro v h _;cases h;exact .nilp
 |nils=>intro v h _;cases h;exact .nils
 |emp=>intro v h _;cases h;exact .emp _
 |nilf=>intro v h _;cases h;exact .nilf
 |junk=>intro v h _;exact .junk v
 |lst rows h ih=>
  intro v hr hT;cases hr with
  |lst0 a cap hm=>exact .lst0 a cap hm
  |lst _ b o sz cap hl hn hm hc=>exact .lst rows b o sz cap (hl.shrink hT) hn hm λi r j a u h1 h2 h3=>ih i r j a h1 h2 (hc i r j a u h1 h2 h3) hT
 |agg cs h ih=>
  intro v hr hT;cases hr with
  |agg _ vs hl hc=>exact .agg cs vs hl λi a v h1 h2=>ih i a h1 (hc i a v h1 h2) hT
 |tup cs h ih=>
  intro v hr hT;cases hr with
  |tup _ vs hl hc=>exact .tup cs vs hl λi a v h1 h2=>ih i a h1 (hc i a v h1 h2) hT
 |fn f cs h ih=>
  intro v hr hT;cases hr with
  |fn _ _ vs hl hc=>exact .fn f cs vs hl λi a v h1 h2=>ih i a h1 (hc i a v h1 h2) hT
theorem cO(b:Nat):ac.empty.get b=none:=Tr.get_leaf b
def KG(P:Program)(f:FuncId)(args:List AV)(v:AV):Prop:=
 ∀(w:World) (σ:bb) (vs:List Value),aU w σ ac.empty→ee w σ (aH σ ac.empty) args vs→Calls P f vs.toArray w λe w'=>
  ∃v' σ' H',e=.returned v'∧aS w' σ' (aH σ' H') v v'∧ef w σ (aH σ ac.empty) w' σ' (aH σ' H')
theorem S3{f:FuncId}{args:List AV}{v:AV}(hv:aW v)(ha:∀(i:Nat) (a:AV),args[i]? =some a→aW a)(h:KG P f args v)(H:ac):oV P f args H v H:=by
 intro w σ vs hW hvs;have hown:aH ⟨λ_=>none,aH σ H⟩ ac.empty=aH σ H:=by
  funext c;apply propext;constructor
  ·rintro(h1|⟨b,x,pl,h1,_,_⟩)
   ·exact h1
   ·rw[cO]at h1;cases h1
  ·exact .inl
 have hlt:∀c,aH σ H c→c<w.heap.size:=λc hc=>by
  rcases hc with hc|⟨b,x,pl,h1,h2,rfl⟩
  ·exact(hW.apart c hc).1
  ·exact hW.lt b pl h2
 have hWe:aU w ⟨λ_=>none,aH σ H⟩ ac.empty:=⟨λb pl hb=>(by cases hb),λb pl hb=>(by cases hb),λb x hb=>(by rw[cO]at hb;cases hb),
  λc hc=>⟨hlt c hc,λ⟨b,x,pl,h1,_,_⟩=>(by rw[cO]at h1;cases h1)⟩,λb b' x x' pl pl' hb=>(by rw[cO]at hb;cases hb),by rw[hown];exact hW.glob⟩
 refine(h w _ vs hWe ⟨hvs.1,λi a u h1 h2=>(ha i a h1).rep (hvs.2 i a u h1 h2) (λc hc=>by rw[hown]at hc;exact hc)⟩).mono ?_;rintro e w' ⟨v',σ',H1,rfl,k1,k3⟩;have hE:ef w σ (aH σ H) w' σ (aH σ H):=
  ⟨k3.os,k3.tape,k3.output,k3.size,λc hc hT=>k3.keep c hc (by rw[hown];exact hT),k3.shape,λ_ _ h=>h,rfl,λc hc=>k3.frame c (.inl hc),λc hc=>.inl hc⟩
 refine⟨v',σ,rfl,hv.rep k1 (λc hc=>.inl (by rw[k3.eqfr];exact hc)),⟨hW.named,λb pl hb=>VH (hW.lt b pl hb) k3.size,λb x hb=>?_,λc hc=>⟨VH (hW.apart c hc).1 k3.size,(hW.apart c hc).2⟩,hW.inj,hW.glob.mono hE⟩,hE,λc pl hc=>.inl hc⟩;obtain⟨pl,cs,e,h1,h2⟩:=hW.live b x hb;exact⟨pl,cs,e,h1,h2.mono hE (k3.frame _ (.inr ⟨b,x,pl,hb,h1,rfl⟩))⟩
def Gi(P:Program)(c:Code)(Q:Ex→List AV→ac→Prop)(τ:List AV)(H:ac):Prop:=
 ∀(w:World) (σ:bb) (a:Act),aU w σ H→cu w σ (aH σ H) τ a→∀Q':Exit→Act→World→Prop,
  (∀e τ' H' a' w',Q e τ' H'→H.next≤H'.next→r9 w σ H τ' H' a' w'→Q' (HI e) a' w')→c.wp P Q' a w
variable {c c1 c2:Code} {Q Q2:Ex→List AV→ac→Prop} {τ:List AV} {H:ac}
theorem Gi.of_ok{e:Ex}{τ':List AV}{H':ac}(h:cE P c τ H e τ' H')(hQ:Q e τ' H'):Gi P c Q τ H:=
 λw σ a hW hτ Q' hQ'=>h.2 w σ a hW hτ Q' λa' w' haf=>hQ' e τ' H' a' w' hQ h.1 haf
def Ex.then(next:List AV→ac→Prop)(Q:Ex→List AV→ac→Prop):Ex→List AV→ac→Prop
 |.normal,τ,H=>next τ H
 |e,τ,H=>Q e τ H
theorem Gi.cond{x:Operand}{t:Bool}(hx:jR τ x=.bool t)(h:Gi P (if t then c1 else c2) Q τ H):Gi P (.cond x c1 c2) Q τ H:=by intro w σ a hW hτ Q' hQ';have hr:=hτ.eval hW.glob x;rw[hx]at hr;refine wp_cond (t:=t) ?_ (h w σ a hW hτ Q' hQ');generalize a.eval x=u at hr;cases hr;rfl
theorem Gi.exit{id:Nat}(h:Q (.exit id) τ H):Gi P (.exit id) Q τ H:=λw σ a hW hτ Q' hQ'=>wp_exit (hQ' (.exit id) τ H _ _ h (Vl _) (.refl hW hτ))
theorem Gi.ret(h:Q .ret τ H):Gi P .ret Q τ H:=λw σ a hW hτ Q' hQ'=>wp_ret (hQ' .ret τ H _ _ h (Vl _) (.refl hW hτ))
def Ex.inBlock(id:Nat)(Q:Ex→List AV→ac→Prop):Ex→List AV→ac→Prop
 |.exit id',τ,H=>if id'=id then Q .normal τ H else Q (.exit id') τ H
 |e,τ,H=>Q e τ H
theorem Gi.block{id:Nat}(h:Gi P c (Ex.inBlock id Q) τ H):Gi P (.block id c) Q τ H:=by
 intro w σ a hW hτ Q' hQ';refine wp_block (h w σ a hW hτ _ λe τ1 H1 a1 w1 hq hn haf=>?_);cases e with
 |normal=>exact hQ' _ _ _ _ _ hq hn haf
 |ret=>exact hQ' _ _ _ _ _ hq hn haf
 |exit id'=>
  simp only[Ex.inBlock]at hq;simp only[HI,Exit.inBlock];split
  ·rename_i he;rw[if_pos he]at hq;exact hQ' .normal _ _ _ _ hq hn haf
  ·rename_i he;rw[if_neg he]at hq;exact hQ' (.exit id') _ _ _ _ hq hn haf
theorem AR{Q':Exit→Act→World→Prop}:∀{n m:Nat} {a:Act} {w:World},n≤m→Code.rounds P c Q' n a w→Code.rounds P c Q' m a w
 |0,m,a,w,_,h=>h.elim
 | n+1,m,a,w,hm,h=>by
  obtain⟨k,rfl⟩:∃k,m=k+1:=⟨m-1,W1⟩;rw[rounds_succ]at h ⊢;refine wp_mono h λe a' w' he=>?_
  cases e with
  |normal=>exact AR W1 he
  |_=>exact he
theorem Gi.loop(I:Nat→List AV→ac→Prop)(hs:∀n τ H,I n τ H→Gi P c (Ex.then (λτ' H'=>∃m,m<n∧I m τ' H') Q) τ H)(n:Nat)(h0:I n τ H):Gi P (.loop c) Q τ H:=by
 have key:∀n τ H,I n τ H→∀(w:World) (σ:bb) (a:Act),aU w σ H→cu w σ (aH σ H) τ a→∀Q':Exit→Act→World→Prop,
   (∀e τ' H' a' w',Q e τ' H'→H.next≤H'.next→r9 w σ H τ' H' a' w'→Q' (HI e) a' w')→Code.rounds P c Q' (n+1) a w:=by
  intro n
  induction n using Nat.strongRecOn with
  |_ n ih=>
   intro τ H hI w σ a hW hτ Q' hQ';rw[rounds_succ];refine hs n τ H hI w σ a hW hτ _ λe τ1 H1 a1 w1 hq hn haf=>?_
   cases e with
   |normal=>obtain⟨m,hm,hI1⟩:=hq;obtain⟨σ1,t1,r1,e1,m1⟩:=haf;exact AR W1 (ih m hm τ1 H1 hI1 w1 σ1 a1 r1 t1 Q' λe2 τ2 H2 a2 w2 q2 n2 haf2=>hQ' e2 τ2 H2 a2 w2 q2 (VD hn n2) (haf2.trans e1 m1 hn))
   |exit id=>exact hQ' _ _ _ _ _ hq hn haf
   |ret=>exact hQ' _ _ _ _ _ hq hn haf
 intro w σ a hW hτ Q' hQ';exact wp_loop_rounds (n+1) (key n τ H h0 w σ a hW hτ Q' hQ')
end
def Jx:FuncId→List AV→ac→Option (AV×ac):=λ_ _ _=>none
theorem we(P:Program):dY P Jx:=⟨λ_ _ _ _ _ h=>(by cases h),λ_ _ _ _ _ h=>(by cases h),λ_ _ _ _ _ h=>(by cases h)⟩
theorem Gi.reg{P:Program}{F:TypeId→Option (List TypeId)}{call:FuncId→List AV→ac→Option (AV×ac)}(fit:Fit P F)(hs:dY P call){ops:Array Oper}{id:Nat}{Q:Ex→List AV→ac→Prop}{τ:List AV}{H:ac}{τ':List AV}{H':ac}(h:du P F call ops false τ H=some (τ',H'))(hQ:Q .normal τ' H'):Gi P (.region id ops false) Q τ H:=
 .of_ok (fN fit hs h) hQ
theorem Gi.ops{P:Program}{F:TypeId→Option (List TypeId)}{call:FuncId→List AV→ac→Option (AV×ac)}(fit:Fit P F)(hs:dY P call){ops:Array Oper}{id:Nat}{Q:Ex→List AV→ac→Prop}{τ:List AV}{H:ac}{τ':List AV}{H':ac}(h:mt P F call ops H.next (List.range ops.size) τ {H with next:=H.next+ops.size}=some (τ',H'))(hQ:Q .normal τ' H'):Gi P (.region id ops false) Q τ H:=
 .of_ok (fN fit hs (by simp only[du,VN,if_false];exact h)) hQ
end
def gA(P:Program)(f:FuncId)(args:List AV)(v:AV):Prop:=(∀H,oV P f args H v H)∧∃fn c,P.funcs[f]? =some fn∧fn.body=some c
theorem gA.of_v{P:Program}{f:FuncId}{args:List AV}{v:AV}{fn:Func}{c:Code}(hf:P.funcs[f]? =some fn)(hb:fn.body=some c)(hv:aW v)(ha:∀(i:Nat) (a:AV),args[i]? =some a→aW a)(h:KG P f args v):gA P f args v:=
 ⟨λH=>S3 hv ha h H,fn,c,hf,hb⟩
def wh(f:AV→Option AV)(rows:List (List AV)):Option (List (List AV)):=ca (rows.map λr=>ca (r.map f))
def frz(K:ac):Nat→AV→Option AV
 |0,_=>none
 | d+1,a=>match a with
  | .sl b i n=>if n=0 then some (.lst [])else match K.get b with
   |some x=>if 0<x.size∧i+n≤x.rows.length then(wh (frz K d) ((x.rows.drop i).take n)).map .lst else none
   |none=>none
  |.nils=>some (.lst [])
  |.lst rows=>(wh (frz K d) rows).map .lst
  |.agg cs=>(ca (cs.map (frz K d))).map .agg
  |.tup cs=>(ca (cs.map (frz K d))).map .tup
  |.ptr ..=>none
  |.pptr ..=>none
  |.fn ..=>none
  |.mp ..=>none
  |.it ..=>none
  |a=>some a
theorem oZ{f:AV→Option AV}{l m:List AV}(h:ca (l.map f)=some m):l.length=m.length∧∀(i:Nat) (y:AV),m[i]? =some y→∃x,l[i]? =some x∧f x=some y:=by
 obtain⟨h1,h2⟩:=iL _ _ h;refine⟨by simpa using h1,λi y hy=>?_⟩;have:=h2 i y hy;rw[VA]at this;cases hx:l[i]? with
 |none=>rw[hx]at this;cases this
 |some x=>rw[hx]at this;exact⟨x,rfl,by simpa using this⟩
theorem AS{f:AV→Option AV}{l m:List (List AV)}(h:wh f l=some m):l.length=m.length∧∀(i:Nat) (r':List AV),m[i]? =some r'→∃r,l[i]? =some r∧r.length=r'.length∧∀(j:Nat) (y:AV),r'[j]? =some y→∃x,r[j]? =some x∧f x=some y:=by
 obtain⟨h1,h2⟩:=iL _ _ h;refine⟨by simpa using h1,λi r' hr'=>?_⟩;have:=h2 i r' hr';rw[VA]at this;cases hx:l[i]? with
 |none=>rw[hx]at this;cases this
 |some r=>rw[hx]at this;simp only[VL,Vv]at this;obtain⟨h3,h4⟩:=oZ this;exact⟨r,rfl,h3,h4⟩
theorem wi{w:World}{σ:bb}{K:ac}(hW:aU w σ K):∀(d:Nat) (a a':AV) (v:Value),frz K d a=some a'→aS w σ (aH σ K) a v→aS w σ (aH σ ac.empty) a' v
 |0,a,a',v,h,_=>by cases h
 | d+1,a,a',v,h,hr=>by
  have hout:∀c,¬aH σ K c→¬aH σ ac.empty c:=λc hc ho=>by
   rcases ho with ho|⟨b,x,pl,h1,_,_⟩
   ·exact hc (.inl ho)
   ·rw[cO]at h1;cases h1
  cases a with
  |sl b i n=>
   simp only[frz]at h;obtain⟨pl,ad,cap,rfl,hs,hn,hm,ha⟩:=hr.sl_inv;split at h
   ·rename_i h0;cases h;rw[h0];exact .lst0 _ _ hm
   ·rename_i h0;split at h
    ·rename_i x hx;split at h
     ·rename_i hc;cases hf:wh (frz K d) ((x.rows.drop i).take n)with
      |none=>rw[hf]at h;cases h
      |some m=>
       rw[hf]at h;cases h;obtain⟨rfl,cs,ty,hcs,hroom⟩:=ha W1;obtain⟨pl',cs',e',g1,g2⟩:=hW.live b x hx;rw[hs]at g1;cases g1;replace g2:=g2.1 (hr.sl_ok hs);obtain⟨f1,f2⟩:=AS hf;have hlen:m.length=n:=by rw[←f1];simp;omega
       have get:∀(q:Nat) (r:List AV),((x.rows.drop i).take n)[q]? =some r→q<n∧x.rows[i+q]? =some r:=λq r hq=>by have hq':=ay hq;rw[←f1]at hlen;rw[hlen]at hq';rw[VT hq',Wc]at hq;exact⟨hq',hq⟩
       have hnot:¬aH σ ac.empty pl.block:=λho=>by
        rcases ho with ho|⟨b',x',pl'',h1,_,_⟩
        ·exact(hW.apart _ ho).2 ⟨b,x,pl,hx,hs,rfl⟩
        ·rw[cO]at h1;cases h1
       have:=aS.lst (w:=w) (σ:=σ) (T:=aH σ ac.empty) m pl.block (pl.base+i*pl.size) pl.size cap
        ⟨hnot,λq r' hr'=>by
         obtain⟨r,k1,k2,_⟩:=f2 q r' hr';rw[←k2,g2.even _ r (get q r k1).2,g2.size],λq j hq hj=>by
         obtain⟨r,k1,k2,_⟩:=f2 q m[q] (Vk hq);have hrow:=g2.row (get q r k1).2;have hj':j<r.length:=by rw[g2.even _ r (get q r k1).2,←g2.size];exact hj
         obtain⟨u,hu,_⟩:=hrow j _ (Vk hj');rw[V3,←Wd]at hu;exact⟨u,hu⟩,by rw[g2.size];exact hc.1,W1⟩ W1 hm
        (λq r' j y u hr' hy hu=>by
         obtain⟨r,k1,k2,k3⟩:=f2 q r' hr';obtain⟨z,k4,k5⟩:=k3 j y hy;obtain⟨u',hu',hz⟩:=g2.row (get q r k1).2 j z k4;rw[V3,←Wd]at hu';rw[hu]at hu';cases hu';exact wi hW d z y u k5 hz)
       rw[hlen]at this;exact this
     ·cases h
    ·cases h
  |nils=>simp only[frz]at h;cases h;cases hr;exact .lst0 _ _ (by unfold maxLen;omega)
  |lst rows=>
   simp only[frz]at h;cases hf:wh (frz K d) rows with
   |none=>rw[hf]at h;cases h
   |some m=>
    rw[hf]at h;cases h;obtain⟨f1,f2⟩:=AS hf;cases hr with
    |lst0 a cap hm=>
     have:m=[]:=by cases m with
      |nil=>rfl
      |cons x m=>simp at f1
     subst this;exact .lst0 a cap hm
    |lst _ b o sz cap hl hn hm hc=>
     have:=aS.lst (w:=w) (σ:=σ) (T:=aH σ ac.empty) m b o sz cap
      ⟨hout b hl.out,λq r' hr'=>by
       obtain⟨r,k1,k2,_⟩:=f2 q r' hr';rw[←k2,hl.even q r k1],λq j hq hj=>hl.cell q j W1 hj,hl.pos,by rw[←f1];exact hl.ne⟩ W1 hm
      (λq r' j y u hr' hy hu=>by
       obtain⟨r,k1,k2,k3⟩:=f2 q r' hr';obtain⟨z,k4,k5⟩:=k3 j y hy;exact wi hW d z y u k5 (hc q r j z u k1 k4 hu))
     rw[←f1]at this;exact this
  |agg cs=>
   simp only[frz]at h;cases hf:ca (cs.map (frz K d))with
   |none=>rw[hf]at h;cases h
   |some m=>
    rw[hf]at h;cases h;obtain⟨f1,f2⟩:=oZ hf;cases hr with
    |agg _ vs hl hc=>
     refine .agg m vs W1 λq y u hy hu=>?_
     obtain⟨x,k1,k2⟩:=f2 q y hy;exact wi hW d x y u k2 (hc q x u k1 hu)
  |tup cs=>
   simp only[frz]at h;cases hf:ca (cs.map (frz K d))with
   |none=>rw[hf]at h;cases h
   |some m=>
    rw[hf]at h;cases h;obtain⟨f1,f2⟩:=oZ hf;cases hr with
    |tup _ vs hl hc=>
     refine .tup m vs W1 λq y u hy hu=>?_
     obtain⟨x,k1,k2⟩:=f2 q y hy;exact wi hW d x y u k2 (hc q x u k1 hu)
  |int k n=>simp only[frz]at h;cases h;cases hr;exact .int k n
  |bool b=>simp only[frz]at h;cases h;cases hr;exact .bool b
  |str s=>simp only[frz]at h;cases h;cases hr;exact .str _
  |nilp=>simp only[frz]at h;cases h;cases hr;exact .nilp
  |emp=>simp only[frz]at h;cases h;cases hr;exact .emp _
  |nilf=>simp only[frz]at h;cases h;cases hr;exact .nilf
  |junk=>simp only[frz]at h;cases h;exact .junk v
  |ptr b i off=>simp[frz]at h
  |pptr rows i off=>simp[frz]at h
  |fn f cs=>simp[frz]at h
  |mp b=>simp[frz]at h
  |it b=>simp[frz]at h
end Go.Proofs.YtenbpcngcicamaaGreatDoor.Am
