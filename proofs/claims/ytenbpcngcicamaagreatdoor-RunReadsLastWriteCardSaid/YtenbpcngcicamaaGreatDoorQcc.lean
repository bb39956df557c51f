/- A part of the proof; the statement is proved in the last part. -/
import Derived.Test.YtenbpcngcicamaaGreatDoorQcb
set_option linter.unusedSimpArgs false
set_option linter.unusedVariables false
namespace Go.Proofs.YtenbpcngcicamaaGreatDoor.Am
section
def bL:Op→List Operand
 |.move x|.assign x|.box _ x|.load _ x|.nilCheck x|.unOp _ _ x|.convert _ _ x|.fieldAddr _ x _|.field _ x _|.extract x _=>[x]
 |.pick c a b=>[c,a,b]
 |.build _ ps|.buildSlice _ _ ps=>ps.toList.map (·.2)
 |.store _ a v|.binOp _ _ a v _|.makeSlice _ a v|.indexAddr _ a v|.index _ a v=>[a,v]
 |.makeFunc _ _ c=>c.toList
 |.lookup _ m k _=>[m,k]
 |.mapUpdate _ m k x=>[m,k,x]
 |.range _ x|.next x _=>[x]
 |.slice _ x l h m=>x::(l.toList++h.toList++m.toList)
 |.call c=>(match c.callee with|.value f=>[f]|_=>[])++c.args.toList
 |_=>[]
section
variable {P:Program} {F:TypeId→Option (List TypeId)}
theorem Kr{ρ ρ2:Operand→AV}{l:List Operand}(h:∀x∈l,ρ x=ρ2 x):l.map ρ=l.map ρ2:=List.map_congr_left h
theorem Fo{ρ ρ2:Operand→AV}{ps:List (Nat×Operand)}(h:∀x∈ps.map (·.2),ρ x=ρ2 x):(ps.map λp=>(p.1,ρ p.2))=ps.map λp=>(p.1,ρ2 p.2):=
 List.map_congr_left λp hp=>by rw[h p.2 (V0.2 ⟨p,hp,rfl⟩)]
theorem o7{ρ ρ2:Operand→AV}:∀{l:List Operand},(∀x∈l,ρ x=ρ2 x)→(l.flatMap λx=>aa (ρ x))=l.flatMap λx=>aa (ρ2 x)
 |[],_=>rfl
 |a::l,h=>by simp only[List.flatMap_cons];rw[h a W7,o7 λx hx=>h x (by simp[hx])]
theorem Ks{o:Op}{ρ ρ2:Operand→AV}(h:∀x∈bL o,ρ x=ρ2 x)(b:Nat)(H:ae):aL P F o ρ b H=aL P F o ρ2 b H∧aG o ρ=aG o ρ2∧aF o ρ=aF o ρ2:=by
 cases o with
 |build t ps=>refine⟨?_,rfl,rfl⟩;simp only[aL];rw[Fo h]
 |buildSlice t n ps=>refine⟨?_,rfl,rfl⟩;simp only[aL];rw[Fo h]
 |makeFunc fn first c=>refine⟨?_,rfl,rfl⟩;cases fn<;>simp only[aL];rw[Kr (l:=c.toList) h]
 |slice t x l hi m=>
  have hx:=h x (by simp[bL]);have hl:l.map ρ=l.map ρ2:=by cases l with
   |none=>rfl
   |some y=>simp[h y (by simp[bL])]
  have hh:hi.map ρ=hi.map ρ2:=by cases hi with
   |none=>rfl
   |some y=>simp[h y (by simp[bL])]
  have hm:m.map ρ=m.map ρ2:=by cases m with
   |none=>rfl
   |some y=>simp[h y (by simp[bL])]
  exact⟨by simp only[aL];rw[hx,hl,hh,hm],by simp only[aG];rw[hx],rfl⟩
 |call c=>
  have ha:c.args.toList.map ρ=c.args.toList.map ρ2:=Kr λx hx=>h x (by simp only[bL,VC];exact .inr hx)
  have hm:∀x∈c.args.toList,ρ x=ρ2 x:=λx hx=>h x (by simp only[bL,VC];exact .inr hx)
  have hr:aG (.call c) ρ=aG (.call c) ρ2:=by
   simp only[aG];split
   ·exact o7 hm
   ·exact o7 hm
   ·rfl
  have hk:aF (.call c) ρ=aF (.call c) ρ2:=by
   simp only[aF];split
   ·exact o7 λx hx=>hm x (List.mem_of_mem_take hx)
   ·exact o7 hm
   ·rfl
  refine⟨?_,hr,hk⟩;simp only[aL];split
  ·rw[ha]
  ·rename_i f hf;rw[h f (by simp only[bL,hf];simp),ha]
  ·rfl
 |store t a v=>refine⟨by simp only[aL];rw[h a (by simp[bL]),h v (by simp[bL])],by simp only[aG];rw[h a (by simp[bL])],by simp only[aF];rw[h a (by simp[bL])]⟩
 |load t a=>refine⟨by simp only[aL];rw[h a (by simp[bL])],by simp only[aG];rw[h a (by simp[bL])],rfl⟩
 |indexAddr t a v=>refine⟨by simp only[aL];rw[h a (by simp[bL]),h v (by simp[bL])],by simp only[aG];rw[h a (by simp[bL])],rfl⟩
 |pick c x y=>refine⟨by simp only[aL];rw[h c (by simp[bL]),h x (by simp[bL]),h y (by simp[bL])],rfl,rfl⟩
 |binOp op t x y u=>refine⟨by simp only[aL];rw[h x (by simp[bL]),h y (by simp[bL])],rfl,rfl⟩
 |makeSlice t x y=>refine⟨by simp only[aL];rw[h x (by simp[bL]),h y (by simp[bL])],rfl,rfl⟩
 |index t x y=>refine⟨by simp only[aL];rw[h x (by simp[bL]),h y (by simp[bL])],rfl,rfl⟩
 |move x=>refine⟨by simp only[aL];rw[h x (by simp[bL])],rfl,rfl⟩
 |assign x=>refine⟨by simp only[aL];rw[h x (by simp[bL])],rfl,rfl⟩
 |box t x=>refine⟨by simp only[aL];rw[h x (by simp[bL])],rfl,rfl⟩
 |nilCheck x=>refine⟨by simp only[aL];rw[h x (by simp[bL])],rfl,rfl⟩
 |unOp op t x=>refine⟨by simp only[aL];rw[h x (by simp[bL])],rfl,rfl⟩
 |convert s d x=>refine⟨by simp only[aL];rw[h x (by simp[bL])],rfl,rfl⟩
 |fieldAddr s x f=>refine⟨by simp only[aL];rw[h x (by simp[bL])],rfl,rfl⟩
 |field s x f=>refine⟨by simp only[aL];rw[h x (by simp[bL])],rfl,rfl⟩
 |extract x i=>refine⟨by simp only[aL];rw[h x (by simp[bL])],rfl,rfl⟩
 |makeMap t r=>cases r<;>exact⟨rfl,rfl,rfl⟩
 |lookup t m k ok=>exact⟨by simp only[aL];rw[h m (by simp[bL]),h k (by simp[bL])],by simp only[aG];rw[h m (by simp[bL])],rfl⟩
 |mapUpdate t m k x=>exact⟨by simp only[aL];rw[h m (by simp[bL]),h k (by simp[bL]),h x (by simp[bL])],by simp only[aG];rw[h m (by simp[bL])],by simp only[aF];rw[h m (by simp[bL])]⟩
 |range t x=>exact⟨by simp only[aL];rw[h x (by simp[bL])],rfl,rfl⟩
 |next it s=>cases s<;>exact⟨by simp only[aL]<;>rw[h it (by simp[bL])],by simp only[aG];rw[h it (by simp[bL])],by simp only[aF];rw[h it (by simp[bL])]⟩
 |_=>exact⟨rfl,rfl,rfl⟩
def vX(P:Program)(F:TypeId→Option (List TypeId))(o:Op)(ρ:Operand→AV)(b:Nat)(v:AV)(H' K:ae):Prop:=
 ∃K',aL P F o ρ b K=some (.val v K')∧K'.next=K.next∧∀c,K'.get c=if c∈aF o ρ∨c=b then H'.get c else K.get c
theorem vX.same{o:Op}{ρ:Operand→AV}{b:Nat}{v:AV}{H K:ae}(hb:K.get b=H.get b)(hw:aF o ρ=[])(h:aL P F o ρ b K=some (.val v K)):vX P F o ρ b v H K:=by
 refine⟨K,h,rfl,λc=>?_⟩;rw[hw];split
 ·rename_i hc;rcases hc with hc|hc
  ·simp at hc
  ·rw[hc];exact hb
 ·rfl
theorem vX.new{o:Op}{ρ:Operand→AV}{b:Nat}{v:AV}{H K:ae}{x:Blk}(hw:aF o ρ=[])(h:aL P F o ρ b K=some (.val v (K.new b x))):vX P F o ρ b v (H.new b x) K:=by
 refine⟨_,h,rfl,λc=>?_⟩;rw[hw,ae.get_new,ae.get_new];by_cases hc:b=c
 ·rw[if_pos hc,if_pos hc,if_pos (.inr hc.symm)]
 ·rw[if_neg hc,if_neg];rintro(h1|h1)
  ·simp at h1
  ·exact hc h1.symm
theorem vX.put{o:Op}{ρ:Operand→AV}{b q:Nat}{v:AV}{H K:ae}{x:Blk}(hb:K.get b=H.get b)(hw:aF o ρ=[q])(h:aL P F o ρ b K=some (.val v (K.put q (some x)))):vX P F o ρ b v (H.put q (some x)) K:=by
 refine⟨_,h,rfl,λd=>?_⟩;rw[hw,ae.get_put,ae.get_put];by_cases hd:q=d
 ·rw[if_pos hd,if_pos hd,if_pos (.inl (by simp[hd]))]
 ·rw[if_neg hd,if_neg hd];split
  ·rename_i hc;rcases hc with hc|hc
   ·simp at hc;exact absurd hc.symm hd
   ·rw[hc];exact hb
  ·rfl
theorem vX.sameW{o:Op}{ρ:Operand→AV}{b q:Nat}{v:AV}{H K:ae}(hb:K.get b=H.get b)(hw:aF o ρ=[q])(hq:K.get q=H.get q)(h:aL P F o ρ b K=some (.val v K)):vX P F o ρ b v H K:=by
 refine⟨K,h,rfl,λc=>?_⟩;rw[hw];split
 ·rename_i hc;rcases hc with hc|hc
  ·simp at hc;rw[hc];exact hq
  ·rw[hc];exact hb
 ·rfl
theorem vY{H K:ae}{n:Nat}{x:AV}(hr:∀c∈aa x,K.get c=H.get c):fy K n x=fy H n x:=by cases x<;>simp only[fy];rw[hr _ (by simp[aa])]
theorem HE{H K:ae}{x:AV}(hr:∀c∈dT x,K.get c=H.get c):mB K x=mB H x:=by cases x<;>simp only[mB];rw[hr _ (by simp[dT])]
theorem Ls{o:Op}{ρ:Operand→AV}{b:Nat}{v:AV}{H H':ae}(h:aL P F o ρ b H=some (.val v H'))(K:ae)(hr:∀c∈aG o ρ,K.get c=H.get c)(hb:K.get b=H.get b):vX P F o ρ b v H' K:=by
 cases o with
 |load t a=>
  simp only[aL]at h;obtain⟨h1,rfl⟩:=fo h;refine .same hb rfl ?_;have:nr P K t (ρ a)=nr P H' t (ρ a):=by simp only[aG]at hr;generalize ρ a=x at hr;cases x<;>simp only[nr];rw[hr _ (by simp[aa])]
  simp only[aL,this,h1,VO]
 |indexAddr t x ix=>
  simp only[aL]at h;obtain⟨h1,rfl⟩:=fo h;refine .same hb rfl ?_;have:dM P (mB K (ρ x)) t (ρ x) (ρ ix)=some v:=by rw[HE hr];exact h1
  simp only[aL,this,VO]
 |slice t x lo hi mx=>
  simp only[aL]at h;split at h
  ·cases h
  ·rename_i hcnd;obtain⟨h1,rfl⟩:=fo h;refine .same hb rfl ?_;have:kR P (mB K (ρ x)) t (ρ x) (lo.map ρ) (hi.map ρ) (mx.map ρ)=some v:=by rw[HE hr];exact h1
   simp only[aL,this,VO];rw[if_neg hcnd]
 |store t a x=>
  simp only[aL]at h;cases hst:fP P H t (ρ a) (ρ x)with
  |none=>rw[hst]at h;cases h
  |some H1=>
   rw[hst]at h;cases h;simp only[aG]at hr;have hst2:=hst;unfold fP at hst;split at hst
   ·rename_i c i off cs n ha hcs hn;rw[ha]at hr;have hkc:=hr c (by simp[aa]);split at hst
    ·rename_i y hy;split at hst
     ·rename_i r hrw;split at hst
      ·rename_i hcond;cases hst;refine⟨K.put c (some {y with rows:=y.rows.set i (bA r off cs)}),?_,rfl,λd=>?_⟩
       ·simp only[aL,fP,ha,hcs,hn,hkc,hy,hrw];rw[if_pos hcond];rfl
       ·have hw:aF (.store t a x) ρ=[c]:=by simp[aF,ha,aa]
        rw[hw,ae.get_put,ae.get_put];by_cases hd:c=d
        ·rw[if_pos hd,if_pos hd,if_pos (.inl (by simp[hd]))]
        ·rw[if_neg hd,if_neg hd];split
         ·rename_i hc;rcases hc with hc|hc
          ·simp at hc;exact absurd hc.symm hd
          ·rw[hc];exact hb
         ·rfl
      ·cases hst
     ·cases hst
    ·cases hst
   ·cases hst
 |call c=>
  simp only[aL]at h;split at h
  ·rename_i bi hcal;cases hbi:aT P H b bi c.argTypes (c.args.toList.map ρ)with
   |none=>rw[hbi]at h;cases h
   |some r=>
    obtain⟨v0,H1⟩:=r;rw[hbi]at h;cases h;have fin:∀{K':ae} {u:AV},aT P K b bi c.argTypes (c.args.toList.map ρ)=some (u,K')→aL P F (.call c) ρ b K=some (.val u K'):=λhk=>by simp only[aL,hcal,hk,VO]
    have wnil:bi≠.append∧bi≠.clear→aF (.call c) ρ=[]:=λhne=>by simp only[aF,hcal];cases bi<;>first|rfl|exact absurd rfl hne.1|exact absurd rfl hne.2
    have hbi0:=hbi;unfold aT at hbi;split at hbi
    ·rename_i s heq;split at hbi
     ·rename_i hty;cases hbi;exact .same hb (wnil W7) (fin (by rw[heq];simp only[aT,hty]))
     ·cases hbi
    ·rename_i x hne heq;have e:H1=H:=by
      split at hbi
      ·rw[WO]at hbi;obtain⟨n,_,hn⟩:=hbi;cases hn;rfl
      ·cases hbi;rfl
      ·cases hbi
     subst e;refine .same hb (wnil W7) (fin ?_);rw[heq];unfold aT;split
     ·rename_i s e1 e2;cases e2;exact absurd rfl (hne s)
     ·rename_i x' hne' e1 e2;cases e2;split at hbi
      ·rw[WO]at hbi;obtain⟨n,hl,hn⟩:=hbi;cases hn;simp only[hl,VO]
      ·cases hbi;rfl
      ·cases hbi
     ·rename_i e1 e2;cases e2
     ·rename_i e1 e2;cases e2
     ·rename_i e1 e2;cases e2
     ·rename_i e1 e2;cases e1
     ·rename_i e1 e2 e3 e4 e5 e6;simp_all
    ·rename_i s x heq;obtain⟨a0,a1,hargs,h0,h1⟩:=ql heq;split at hbi
     ·rename_i t tx htt;split at hbi
      ·rename_i e' hu';have hrs:∀c'∈aa s,K.get c'=H.get c':=λc' hc'=>hr c' (by simp[aG,hcal,hargs,h0,hc'])
       have hrx:∀c'∈aa x,K.get c'=H.get c':=λc' hc'=>hr c' (by simp[aG,hcal,hargs,h1,hc'])
       have red:∀{K':ae} {u:AV},cO P K b t s x=some (u,K')→aT P K b .append c.argTypes (c.args.toList.map ρ)=some (u,K'):=λhk=>by rw[heq];simp only[aT,htt,hu',hk]
       unfold cO at hbi;split at hbi
       ·rename_i e hu;split at hbi
        ·rename_i n by_ z hn hby hz;split at hbi
         ·rename_i l m hl hm;have hl':fy K n s=some l:=by rw[vY hrs];exact hl
          have hm':fy K n x=some m:=by rw[vY hrx];exact hm
          split at hbi
          ·rename_i hcond;split at hbi
           ·split at hbi
            ·rename_i hm0;cases hbi;refine .same hb (by simp[aF,hcal,hargs,h0,aa]) (fin (red ?_));simp only[cO,hu,hn,hby,hz,hl',hm'];rw[if_pos hcond,if_pos hm0]
            ·rename_i hm0;cases hbi;refine .new (by simp[aF,hcal,hargs,h0,aa]) (fin (red ?_));simp only[cO,hu,hn,hby,hz,hl',hm'];rw[if_pos hcond,if_neg hm0]
           ·split at hbi
            ·rename_i hm0;cases hbi;refine .same hb (by simp[aF,hcal,hargs,h0,aa]) (fin (red ?_));simp only[cO,hu,hn,hby,hz,hl',hm'];rw[if_pos hcond,if_pos hm0]
            ·rename_i hm0;cases hbi;refine .new (by simp[aF,hcal,hargs,h0,aa]) (fin (red ?_));simp only[cO,hu,hn,hby,hz,hl',hm'];rw[if_pos hcond,if_neg hm0]
           ·rename_i b' i k;cases hbi;have hw:aF (.call c) ρ=[b']:=by simp[aF,hcal,hargs,h0,aa]
            refine⟨(K.put b' none).new b ⟨n,l++m⟩,fin (red ?_),rfl,λd=>?_⟩
            ·simp only[cO,hu,hn,hby,hz,hl',hm'];rw[if_pos hcond]
            ·rw[hw,ae.get_new,ae.get_new,ae.get_put,ae.get_put];by_cases hd:b=d
             ·rw[if_pos hd,if_pos hd,if_pos (.inr hd.symm)]
             ·rw[if_neg hd,if_neg hd];by_cases hd':b'=d
              ·rw[if_pos hd',if_pos hd',if_pos (.inl (by simp[hd']))]
              ·rw[if_neg hd',if_neg hd',if_neg];rintro(h1|h1)
               ·simp at h1;exact hd' h1.symm
               ·exact hd h1.symm
           ·cases hbi
          ·cases hbi
         ·cases hbi
        ·cases hbi
       ·cases hbi
      ·cases hbi
     ·cases hbi
    ·rename_i k a k' c' heq;split at hbi
     ·rename_i hk;cases hbi;exact .same hb (wnil W7) (fin (by rw[heq];simp only[aT];rw[if_pos hk]))
     ·cases hbi
    ·rename_i k a k' c' heq;split at hbi
     ·rename_i hk;cases hbi;exact .same hb (wnil W7) (fin (by rw[heq];simp only[aT];rw[if_pos hk]))
     ·cases hbi
    ·rename_i x heq;split at hbi
     ·rename_i t htt;cases hcl:eY P H t x with
      |none=>rw[hcl]at hbi;cases hbi
      |some K1=>
       rw[hcl]at hbi;cases hbi;obtain⟨a0,hargs,h0⟩:=qk heq;have red:∀{K':ae},eY P K t x=some K'→aT P K b .clear c.argTypes (c.args.toList.map ρ)=some (.tup [],K'):=λhk=>by rw[heq];simp only[aT,htt,hk,VO]
       unfold eY at hcl;split at hcl
       ·rename_i e hu;split at hcl
        ·rename_i n z hn hz;split at hcl
         ·cases hcl;exact .same hb (by simp[aF,hcal,hargs,h0,aa]) (fin (red (by simp only[eY,hu,hn,hz])))
         ·rename_i d i k;split at hcl
          ·rename_i y hy;split at hcl
           ·rename_i hcond;cases hcl;have hkd:K.get d=some y:=by rw[hr d (by simp[aG,hcal,hargs,h0,aa])];exact hy
            have hw:aF (.call c) ρ=[d]:=by simp[aF,hcal,hargs,h0,aa]
            refine⟨K.put d (some {y with rows:=y.rows.take i++List.replicate k z++y.rows.drop (i+k)}),fin (red ?_),rfl,λq=>?_⟩
            ·simp only[eY,hu,hn,hz,hkd];rw[if_pos hcond]
            ·rw[hw,ae.get_put,ae.get_put];by_cases hd:d=q
             ·rw[if_pos hd,if_pos hd,if_pos (.inl (by simp[hd]))]
             ·rw[if_neg hd,if_neg hd];split
              ·rename_i hc;rcases hc with hc|hc
               ·simp at hc;exact absurd hc.symm hd
               ·rw[hc];exact hb
              ·rfl
           ·cases hcl
          ·cases hcl
         ·cases hcl
        ·cases hcl
       ·cases hcl
     ·cases hbi
    ·cases hbi
  ·split at h<;>cases h
  ·cases h
 |alloc t=>
  simp only[aL]at h;split at h
  ·rename_i cs hcs;cases h;exact .new rfl (by simp only[aL,hcs])
  ·cases h
 |box t x=>
  simp only[aL]at h;split at h
  ·rename_i cs hcs;split at h
   ·rename_i ho;cases h;exact .new rfl (by simp only[aL,hcs];rw[if_pos ho])
   ·cases h
  ·cases h
 |buildSlice t len parts=>
  simp only[aL]at h;split at h
  ·rename_i e hu;split at h
   ·rename_i n z hn hz;split at h
    ·rename_i hc;cases hf:dS n (List.replicate len z) (parts.toList.map λp=>(p.1,ρ p.2))with
     |none=>rw[hf]at h;cases h
     |some rows=>rw[hf]at h;cases h;exact .new rfl (by simp only[aL,hu,hn,hz];rw[if_pos hc,hf];rfl)
    ·cases h
   ·cases h
  ·cases h
 |makeSlice t l c=>
  simp only[aL]at h;split at h
  ·rename_i e hu;split at h
   ·rename_i n by_ z l' c' hn hby hz hl hc;split at h
    ·rename_i hcond;cases h;exact .new rfl (by simp only[aL,hu,hn,hby,hz,hl,hc];rw[if_pos hcond])
    ·cases h
   ·cases h
  ·cases h
 |makeFunc fn first cap=>
  cases fn<;>simp only[aL]at h<;>(try (cases h;done));split at h
  ·rename_i hf;cases h;exact .same hb rfl (by simp only[aL];rw[if_pos hf])
  ·cases h
 |pick c x y=>
  simp only[aL]at h;split at h
  ·rename_i t hc;cases h;exact .same hb rfl (by simp only[aL,hc])
  ·cases h
 |nilCheck x=>simp only[aL]at h;split at h<;>(try (cases h;done))<;>(rename_i heq;cases h;exact .same hb rfl (by simp only[aL,heq]))
 |extract x i=>
  simp only[aL]at h;split at h
  ·rename_i vs hx;obtain⟨h1,rfl⟩:=fo h;exact .same hb rfl (by simp only[aL,hx,h1];rfl)
  ·cases h
 |makeMap t r=>
  cases r with
  |none=>simp only[aL]at h;cases h;exact .new rfl rfl
  |some r=>simp[aL]at h
 |lookup t m k ok=>simp only[aL]at h;obtain⟨h1,rfl⟩:=fo h;obtain⟨c,x,hm,hx,hK⟩:=CF h1;refine .same hb rfl ?_;simp only[aL];rw[hK K (by rw[hr c (by simp[aG,hm,aa]),hx])];rfl
 |mapUpdate t m k x=>
  simp only[aL]at h;cases hs:eO P H t (ρ m) (ρ k) (ρ x)with
  |none=>rw[hs]at h;cases h
  |some H2=>rw[hs]at h;cases h;obtain⟨c,y,y',hm,hy,rfl,hK⟩:=mF hs;refine .put hb (by simp[aF,hm,aa]) ?_;simp only[aL];rw[hK K (by rw[hr c (by simp[aG,hm,aa]),hy])];rfl
 |range t x=>
  simp only[aL]at h;split at h
  ·rename_i s hu hx;cases h;exact .new rfl (by simp only[aL,hu,hx])
  ·cases h
 |next it s=>
  cases s with
  |false=>simp[aL]at h
  |true=>
   simp only[aL]at h;cases hs:iA H (ρ it)with
   |none=>rw[hs]at h;cases h
   |some r=>
    obtain⟨v0,H2⟩:=r;rw[hs]at h;cases h;obtain⟨c,y,hm,hy,⟨rfl,hK⟩|⟨y',rfl,hK⟩⟩:=vV hs
    ·have hc:=hr c (by simp[aG,hm,aa]);refine .sameW (q:=c) hb (by simp[aF,hm,aa]) hc ?_;simp only[aL];rw[hK K (by rw[hc,hy])];rfl
    ·have hc:=hr c (by simp[aG,hm,aa]);refine .put hb (by simp[aF,hm,aa]) ?_;simp only[aL];rw[hK K (by rw[hc,hy])];rfl
 |move x=>simp only[aL]at h;cases h;exact .same hb rfl (by simp only[aL])
 |assign x=>simp only[aL]at h;cases h;exact .same hb rfl (by simp only[aL])
 |build t ps=>simp only[aL]at h;obtain⟨h1,rfl⟩:=fo h;exact .same hb rfl (by simp only[aL,h1];rfl)
 |binOp op t x y u=>simp only[aL]at h;obtain⟨h1,rfl⟩:=fo h;exact .same hb rfl (by simp only[aL,h1];rfl)
 |unOp op t x=>simp only[aL]at h;obtain⟨h1,rfl⟩:=fo h;exact .same hb rfl (by simp only[aL,h1];rfl)
 |convert s d x=>simp only[aL]at h;obtain⟨h1,rfl⟩:=fo h;exact .same hb rfl (by simp only[aL,h1];rfl)
 |fieldAddr s x f=>simp only[aL]at h;obtain⟨h1,rfl⟩:=fo h;exact .same hb rfl (by simp only[aL,h1];rfl)
 |field s x f=>simp only[aL]at h;obtain⟨h1,rfl⟩:=fo h;exact .same hb rfl (by simp only[aL,h1];rfl)
 |index t x y=>simp only[aL]at h;obtain⟨h1,rfl⟩:=fo h;exact .same hb rfl (by simp only[aL,h1];rfl)
 |_=>simp[aL]at h
theorem CK{o:Op}{ρ:Operand→AV}{b:Nat}{g:FuncId}{args:List AV}{H:ae}(h:aL P F o ρ b H=some (.call g args))(K:ae):aL P F o ρ b K=some (.call g args):=by
 cases o with
 |call c=>
  simp only[aL]at h ⊢;split at h
  ·rename_i bi _;cases hbi:aT P H b bi c.argTypes (c.args.toList.map ρ)with
   |none=>rw[hbi]at h;cases h
   |some r=>rw[hbi]at h;cases h
  ·rename_i f hf;exact h
  ·cases h
 |makeFunc fn first cap=>cases fn<;>simp only[aL]at h<;>(try split at h)<;>simp at h
 |makeMap t r=>cases r<;>simp[aL]at h
 |next it s=>cases s<;>simp[aL]at h
 |_=>
  exfalso;simp only[aL]at h
  repeat' (first|(cases h;done)|(simp at h;done)|split at h)
end
end
theorem HG(f:Edge→Nat)(p:Edge→Bool)(k:Nat):∀(l:List Edge) (s:Nat),(l.foldl (λs e=>if p e then s ||| f e else s) s).testBit k=true→s.testBit k=true∨∃e∈l,p e=true∧(f e).testBit k=true
 |[],s,h=>.inl h
 | e::l,s,h=>by
  rw[WU]at h;rcases HG f p k l _ h with h1|⟨e',h1,h2⟩
  ·split at h1
   ·rename_i hp;rw[Nat.testBit_or,WW]at h1;rcases h1 with h1|h1
    ·exact .inl h1
    ·exact .inr ⟨e,W7,hp,h1⟩
   ·exact .inl h1
  ·exact .inr ⟨e',by simp[h1],h2⟩
def sL(acc:List Nat)(o:Oper):Nat:=o.after.toList.foldl (λs e=>if Region.binds .any e then s ||| 2^e.on ||| acc.getD e.on 0 else s) 0
theorem Jm{acc:List Nat}{o:Oper}{k:Nat}(h:(sL acc o).testBit k=true):∃e∈o.after.toList,Region.binds .any e=true∧(k=e.on∨(acc.getD e.on 0).testBit k=true):=by
 have hf:sL acc o=o.after.toList.foldl (λs e=>if Region.binds .any e then s ||| (2^e.on ||| acc.getD e.on 0)else s) 0:=by
  unfold sL;congr 1;funext s e;split
  ·rw[Nat.or_assoc]
  ·rfl
 rw[hf]at h;rcases HG (λe=>2^e.on ||| acc.getD e.on 0) (Region.binds .any) k _ _ h with h1|⟨e,h1,h2,h3⟩
 ·simp at h1
 ·refine⟨e,h1,h2,?_⟩;rw[Nat.testBit_or,WW]at h3;rcases h3 with h3|h3
  ·rw[Nat.testBit_two_pow]at h3;exact .inl (by have h4:=h3;simp at h4;exact h4.symm)
  ·exact .inr h3
theorem CL:∀(l:List Oper) (acc:List Nat),acc.length+l.length=(bR l acc).length∧(∀i,i<acc.length→(bR l acc).getD i 0=acc.getD i 0)∧
  ∀(i:Nat) (o:Oper),l[i]? =some o→∃acc',(bR l acc).getD (acc.length+i) 0=sL acc' o∧(∀j,acc'.getD j 0=(bR l acc).getD j 0∨acc'.getD j 0=0)∧(∀j,acc.length+i≤j→acc'.getD j 0=0)
 |[],acc=>by simp[bR]
 | o::l,acc=>by
  obtain⟨h1,h2,h3⟩:=CL l (acc++[sL acc o]);have hm:bR (o::l) acc=bR l (acc++[sL acc o]):=rfl;rw[hm];simp only[Vy,List.length_singleton]at h1 h2 h3;have keep:∀i,i<acc.length→(bR l (acc++[sL acc o])).getD i 0=acc.getD i 0:=λi hi=>by rw[h2 i W4];simp[List.getD,VF hi]
  refine⟨by simp;omega,keep,λi q hq=>?_⟩
  match i with
  |0=>
   simp only[List.getElem?_cons_zero,Vz]at hq;subst hq;refine⟨acc,?_,λj=>?_,λj hj=>?_⟩
   ·rw[WN,h2 acc.length W4];simp[List.getD]
   ·rcases Vt j acc.length with hj|hj
    ·exact .inl (keep j hj).symm
    ·exact .inr (by simp[List.getD,Vu hj])
   ·simp[List.getD,Vu (show acc.length≤j by omega)]
  |i+1=>simp only[WJ]at hq;obtain⟨acc',g1,g2,g3⟩:=h3 i q hq;exact⟨acc',by rw[←g1];congr 1;omega,g2,λj hj=>g3 j W4⟩
theorem Lt{ops:Array Oper}{i:Nat}{o:Oper}(ho:ops[i]? =some o){k:Nat}(h:((bR ops.toList []).getD i 0).testBit k=true):
  ∃e∈o.after.toList,Region.binds .any e=true∧(k=e.on∨(e.on<i∧((bR ops.toList []).getD e.on 0).testBit k=true)):=by
 obtain⟨_,_,h3⟩:=CL ops.toList [];obtain⟨acc',g1,g2,g3⟩:=h3 i o (by rw[VM];exact ho);simp only[VU,Wj]at g1 g3;rw[g1]at h;obtain⟨e,e1,e2,e3⟩:=Jm h;refine⟨e,e1,e2,?_⟩;rcases e3 with e3|e3
 ·exact .inl e3
 ·right;rcases Vt e.on i with hlt|hge
  ·refine⟨hlt,?_⟩;rcases g2 e.on with h4|h4
   ·rw[h4]at e3;exact e3
   ·rw[h4]at e3;simp at e3
  ·rw[g3 e.on hge]at e3;simp at e3
def F9(ops:Array Oper)(L:Nat→Bool):Prop:=∀(i:Nat) (o:Oper),ops[i]? =some o→L i=true→∀e∈o.after.toList,Region.binds .any e=true→L e.on=true
theorem F9.ahead{ops:Array Oper}{L:Nat→Bool}(hL:F9 ops L):∀(i:Nat) (o:Oper),ops[i]? =some o→(∀e∈o.after.toList,Region.binds .any e=true→L e.on=true)→∀k,((bR ops.toList []).getD i 0).testBit k=true→L k=true:=by
 intro i
 induction i using Nat.strongRecOn with
 |_ i ih=>
  intro o ho he k hk;obtain⟨e,e1,e2,e3⟩:=Lt ho hk;have hLe:=he e e1 e2;rcases e3 with rfl|⟨hlt,h4⟩
  ·exact hLe
  ·have hlt':e.on<ops.size:=by have:i<ops.size:=(WA.1 ho).1;omega
   have ho':ops[e.on]? =some ops[e.on]:=VP hlt';exact ih e.on hlt _ ho' (λe' h5 h6=>hL e.on _ ho' hLe e' h5 h6) k h4
def cu(p:Nat→Bool):Nat→Option Nat
 |0=>none
 |k+1=>if p k then some k else cu p k
theorem ko{p q:Nat→Bool}:∀{k:Nat},(∀i,i<k→p i=q i)→cu p k=cu q k
 |0,_=>rfl
 | k+1,h=>by unfold cu;rw[h k W4,ko λi hi=>h i W4]
theorem sM{p:Nat→Bool}{k m:Nat}(hkm:k≤m)(h:∀i,k≤i→i<m→p i=false):cu p m=cu p k:=by
 induction m with
 |zero=>rw[show k=0 by omega]
 |succ m ih=>
  rcases Ww hkm with rfl|hlt
  ·rfl
  ·rw[cu,h m W4 W4,if_neg W7];exact ih W4 λi h1 h2=>h i h1 W4
theorem o8{p L:Nat→Bool}{n i:Nat}(hi:i<n)(hLi:L i=false)(h:∀j,j<n→j≠i→p j=true→(j<i→L j=true)∧(i<j→L j=false)):
  cu (λj=>L j&&p j) n=cu p i:=by
 rw[sM (k:=i) W4]
 ·refine ko λj hj=>?_
  cases hp:p j with
  |false=>simp
  |true=>simp[(h j W4 W4 hp).1 hj]
 ·intro j h1 h2;rcases Ww h1 with rfl|hlt
  ·simp[hLi]
  ·cases hp:p j with
   |false=>simp
   |true=>simp[(h j h2 W4 hp).2 hlt]
theorem yU{p L:Nat→Bool}{n i:Nat}(hi:i<n)(hLi:L i=false)(hpi:p i=true)(h:∀j,j<n→j≠i→p j=true→(i<j→L j=false)):
  cu (λj=>(if j=i then true else L j)&&p j) n=some i:=by
 rw[sM (k:=i+1) W4]
 ·simp[cu,hpi]
 ·intro j h1 h2;cases hp:p j with
  |false=>simp
  |true=>simp[h j h2 W4 hp W4,show¬j=i by omega]
theorem mH{p L:Nat→Bool}{n i:Nat}(hpi:p i=false):cu (λj=>(if j=i then true else L j)&&p j) n=cu (λj=>L j&&p j) n:=by
 refine ko λj _=>?_
 by_cases hj:j=i
 ·subst hj;simp[hpi]
 ·simp[hj]
section
section
variable (P:Program) (F:TypeId→Option (List TypeId)) (call:FuncId→List AV→ae→Option (AV×ae)) (ops:Array Oper) (base:Nat) (τ0:List AV) (H0:ae)
def ey:Nat→List AV×ae
 |0=>(τ0,H0)
 | i+1=>match bz P F call ops base i ((bR ops.toList []).getD i 0) (ey i).1 (ey i).2 with
  |some (τ,H,_)=>(τ,H)
  |none=>ey i
def fS(i:Nat):Option r6:=
 match bz P F call ops base i ((bR ops.toList []).getD i 0) (ey P F call ops base τ0 H0 i).1 (ey P F call ops base τ0 H0 i).2 with
 |some (_,_,r)=>r
 |none=>none
structure lN:Prop where
 step:∀i,i<ops.size→bz P F call ops base i ((bR ops.toList []).getD i 0) (ey P F call ops base τ0 H0 i).1 (ey P F call ops base τ0 H0 i).2 =
  some ((ey P F call ops base τ0 H0 (i+1)).1,(ey P F call ops base τ0 H0 (i+1)).2,fS P F call ops base τ0 H0 i)
 free:∀i j x r,j<i→i<ops.size→fS P F call ops base τ0 H0 j=some x→fS P F call ops base τ0 H0 i=some r→((bR ops.toList []).getD i 0).testBit j=true∨lF x r=false
end
section
variable {P:Program} {F:TypeId→Option (List TypeId)} {call:FuncId→List AV→ae→Option (AV×ae)} {ops:Array Oper} {base:Nat} {τ0:List AV} {H0:ae}
theorem HH{i mask:Nat}{τ τ':List AV}{H H':ae}{x:r6}(h:bz P F call ops base i mask τ H=some (τ',H',some x)):x.op=i:=by
 unfold bz at h
 repeat' (first|(cases h;rfl)|(cases h;done)|split at h)
theorem MC:∀(m k:Nat) (rs rs':List r6) (τ':List AV) (K:ae),
  ed P F call ops base (bR ops.toList []) (List.range' k m) (ey P F call ops base τ0 H0 k).1 (ey P F call ops base τ0 H0 k).2 rs=some (τ',K,rs')→(∀j x,j<k→fS P F call ops base τ0 H0 j=some x→x∈rs∧x.op=j)→
  (∀i,k≤i→i<k+m→bz P F call ops base i ((bR ops.toList []).getD i 0) (ey P F call ops base τ0 H0 i).1 (ey P F call ops base τ0 H0 i).2 =
   some ((ey P F call ops base τ0 H0 (i+1)).1,(ey P F call ops base τ0 H0 (i+1)).2,fS P F call ops base τ0 H0 i))∧
  (∀i j x r,k≤i→i<k+m→j<i→fS P F call ops base τ0 H0 j=some x→fS P F call ops base τ0 H0 i=some r→((bR ops.toList []).getD i 0).testBit j=true∨lF x r=false)∧
  (τ',K)=ey P F call ops base τ0 H0 (k+m)
 | 0,k,rs,rs',τ',K,h,_=>by simp only[List.range'_zero,ed,Vz,Prod.mk.injEq]at h;obtain⟨rfl,rfl,rfl⟩:=h;exact⟨λi h1 h2=>by omega,λi j x r h1 h2=>by omega,rfl⟩
 | m+1,k,rs,rs',τ',K,h,hrs=>by
  rw[List.range'_succ]at h;unfold ed at h;cases hd:bz P F call ops base k ((bR ops.toList []).getD k 0) (ey P F call ops base τ0 H0 k).1 (ey P F call ops base τ0 H0 k).2 with
  |none=>rw[hd]at h;cases h
  |some q=>
   obtain⟨τ1,H1,r⟩:=q;rw[hd]at h;have e1:ey P F call ops base τ0 H0 (k+1)=(τ1,H1):=by rw[ey,hd]
   have e2:fS P F call ops base τ0 H0 k=r:=by rw[fS,hd]
   have next:∀rs2,ed P F call ops base (bR ops.toList []) (List.range' (k+1) m) τ1 H1 rs2=some (τ',K,rs')→(∀x,r=some x→x∈rs2)→(∀x∈rs,x∈rs2)→
     (∀j x,j<k→fS P F call ops base τ0 H0 j=some x→∀y,r=some y→((bR ops.toList []).getD k 0).testBit j=true∨lF x y=false)→_:=λrs2 h2 hr2 hsub hfree=>by
    obtain⟨a1,a2,a3⟩:=MC m (k+1) rs2 rs' τ' K (by rw[e1];exact h2) (λj x hj hx=>by
     rcases Ww (Nat.le_of_lt_succ hj)with rfl|hlt
     ·rw[e2]at hx;refine⟨hr2 x hx,?_⟩;rw[hx]at hd;exact HH hd
     ·obtain⟨b1,b2⟩:=hrs j x hlt hx;exact⟨hsub x b1,b2⟩)
    refine(⟨λi h1 h2=>?_,λi j x y h1 h2 hji hx hy=>?_,by rw[a3];congr 1;omega⟩:(∀i,k≤i→i<k+(m+1)→bz P F call ops base i ((bR ops.toList []).getD i 0) (ey P F call ops base τ0 H0 i).1 (ey P F call ops base τ0 H0 i).2 =
     some ((ey P F call ops base τ0 H0 (i+1)).1,(ey P F call ops base τ0 H0 (i+1)).2,fS P F call ops base τ0 H0 i))∧
     (∀i j x r,k≤i→i<k+(m+1)→j<i→fS P F call ops base τ0 H0 j=some x→fS P F call ops base τ0 H0 i=some r→((bR ops.toList []).getD i 0).testBit j=true∨lF x r=false)∧
     (τ',K)=ey P F call ops base τ0 H0 (k+(m+1)))
    ·rcases Ww h1 with rfl|hlt
     ·rw[hd,e1,e2]
     ·exact a1 i hlt W4
    ·rcases Ww h1 with rfl|hlt
     ·rw[e2]at hy;exact hfree j x hji hx y hy
     ·exact a2 i j x y hlt W4 hji hx hy
   cases r with
   |none=>exact next rs h W7 (λx hx=>hx) W7
   |some y=>
    simp only[]at h;split at h
    ·rename_i hall;refine next (y::rs) h W7 (λx hx=>by simp[hx]) (λj x hj hx y' hy'=>?_)
     cases hy';rw[VE]at hall;obtain⟨b1,b2⟩:=hrs j x hj hx;have:=hall x b1;rw[b2]at this;simpa using this
    ·cases h
end
end
section
theorem aU.sig{w:World}{σ σ':bq}{T:Nat→Prop}(hm:σ'.map=σ.map){a:AV}{v:Value}(h:aU w σ T a v):aU w σ' T a v:=by
 have e:∀{b pl},σ.map b=some pl→σ'.map b=some pl:=λhb=>by rw[hm];exact hb
 induction h with
 |int k n=>exact .int k n
 |bool b=>exact .bool b
 |str s=>exact .str s
 |nilp=>exact .nilp
 |ptr b i off pl h hp=>exact .ptr b i off pl (e h) hp
 |mp b pl h h1 h2=>exact .mp b pl (e h) h1 h2
 |it b pl h h1 h2=>exact .it b pl (e h) h1 h2
 |pptr rows i off b o sz hl h ih=>exact .pptr rows i off b o sz hl ih
 |nils=>exact .nils
 |emp a=>exact .emp a
 |sl b i n pl a cap h hp hn hm' ha=>exact .sl b i n pl a cap (e h) hp hn hm' ha
 |lst0 a cap hm'=>exact .lst0 a cap hm'
 |lst rows b o sz cap hl hn hm' h ih=>exact .lst rows b o sz cap hl hn hm' ih
 |agg cs vs hl h ih=>exact .agg cs vs hl ih
 |tup cs vs hl h ih=>exact .tup cs vs hl ih
 |fn f cs vs hl h ih=>exact .fn f cs vs hl ih
 |nilf=>exact .nilf
 |junk v=>exact .junk v
theorem yP.sig{w:World}{σ σ':bq}{T:Nat→Prop}(hm:σ'.map=σ.map){x:Blk}{pl:cl}{cs:Array Value}{e:TypeId}(h:yP w σ T x pl cs e):yP w σ' T x pl cs e:=
 ⟨h.size,h.block,h.even,h.room,λi r j a u h1 h2 h3=>(h.rep i r j a u h1 h2 h3).sig hm⟩
theorem km.sig{w:World}{σ σ':bq}{T:Nat→Prop}(hm:σ'.map=σ.map){x:Blk}{pl:cl}{cs:Array Value}{e:TypeId}(h:km w σ T x pl cs e):km w σ' T x pl cs e:=⟨λhp=>(h.1 hp).sig hm,h.2⟩
def bq.part(σ:bq)(K Hc:ae):bq:=⟨σ.map,λc=>aJ σ K c∧¬EN σ Hc c⟩
section
variable {w w':World} {σ σ':bq} {K Hc H1 K':ae}
theorem EN.sub(hsub:∀c x,Hc.get c=some x→K.get c=some x){d:Nat}(h:EN σ Hc d):EN σ K d:=by obtain⟨b,x,pl,h1,h2,h3⟩:=h;exact⟨b,x,pl,hsub b x h1,h2,h3⟩
theorem vZ(hsub:∀c x,Hc.get c=some x→K.get c=some x):aJ (σ.part K Hc) Hc=aJ σ K:=by
 funext d;apply propext;constructor
 ·rintro(h|h)
  ·exact h.1
  ·exact .inr (EN.sub hsub h)
 ·intro h;by_cases ht:EN σ Hc d
  ·exact .inr ht
  ·exact .inl ⟨h,ht⟩
theorem aX.part(hW:aX w σ K)(hsub:∀c x,Hc.get c=some x→K.get c=some x)(hn:K.next≤Hc.next):aX w (σ.part K Hc) Hc:=by
 refine⟨λb pl hb=>VK (hW.named b pl hb) hn,hW.lt,λb x hb=>?_,λc hc=>⟨?_,hc.2⟩,λb b' x x' pl pl' h1 h2 h3 h4 h5=>hW.inj b b' x x' pl pl' (hsub _ _ h1) (hsub _ _ h2) h3 h4 h5,by rw[vZ hsub];exact hW.glob⟩
 ·obtain⟨pl,cs,e,h1,h2⟩:=hW.live b x (hsub b x hb);rw[vZ hsub];exact⟨pl,cs,e,h1,km.sig (σ:=σ) (σ':=σ.part K Hc) rfl h2⟩
 ·rcases hc.1 with h|⟨b,x,pl,h1,h2,rfl⟩
  ·exact(hW.apart c h).1
  ·exact hW.lt b pl h2
theorem aX.whole(hW:aX w σ K)(hsub:∀c x,Hc.get c=some x→K.get c=some x)(hn:Hc.next=K.next)(hW1:aX w' σ' H1)(hE:ew w (σ.part K Hc) (aJ (σ.part K Hc) Hc) w' σ' (aJ σ' H1))
  (hdom:∀c,c<Hc.next→Hc.get c=none→H1.get c=none) (hK':∀c,K'.get c=if Hc.get c=none∧c<K.next then K.get c else H1.get c) (hn':H1.next≤K'.next) :
  aX w' ⟨σ'.map,σ.fr⟩ K'∧ew w σ (aJ σ K) w' ⟨σ'.map,σ.fr⟩ (aJ ⟨σ'.map,σ.fr⟩ K')∧aJ ⟨σ'.map,σ.fr⟩ K'=aJ σ' H1:=by
 have hfr:∀c,σ'.fr c↔(aJ σ K c∧¬EN σ Hc c):=λc=>by rw[hE.eqfr];exact Iff.rfl
 have hmap:∀b pl,σ.map b=some pl→σ'.map b=some pl:=λb pl h=>hE.sig b pl h
 have rest:∀b x,Hc.get b=none→K.get b=some x→∃pl,σ.map b=some pl∧σ'.fr pl.block:=λb x h0 hx=>by obtain⟨pl,cs,e,h1,h2⟩:=hW.live b x hx;refine⟨pl,h1,(hfr _).2 ⟨.inr ⟨b,x,pl,hx,h1,rfl⟩,?_⟩⟩;rintro⟨b2,x2,pl2,g1,g2,g3⟩;have:=hW.inj b2 b x2 x pl2 pl (hsub _ _ g1) hx g2 h1 g3;subst this;rw[h0]at g1;cases g1
 have get':∀b x,K'.get b=some x→(Hc.get b=none∧b<K.next∧K.get b=some x)∨H1.get b=some x:=λb x hx=>by
  rw[hK']at hx;split at hx
  ·rename_i hc;exact .inl ⟨hc.1,hc.2,hx⟩
  ·exact .inr hx
 have frK:∀c,σ.fr c→σ'.fr c:=λc hc=>(hfr c).2 ⟨.inl hc,λht=>(hW.apart c hc).2 (EN.sub hsub ht)⟩
 have howns:aJ ⟨σ'.map,σ.fr⟩ K'=aJ σ' H1:=by
  funext d;apply propext;constructor
  ·rintro(h|⟨b,x,pl,h1,h2,rfl⟩)
   ·exact .inl (frK d h)
   ·rcases get' b x h1 with⟨g1,g2,g3⟩|g1
    ·obtain⟨pl0,e1,e2⟩:=rest b x g1 g3;have h2':σ'.map b=some pl:=h2;rw[hmap b pl0 e1]at h2';cases h2';exact .inl e2
    ·exact .inr ⟨b,x,pl,g1,h2,rfl⟩
  ·rintro(h|⟨b,x,pl,h1,h2,rfl⟩)
   ·obtain⟨h3,h4⟩:=(hfr d).1 h;rcases h3 with h3|⟨b,x,pl,g1,g2,g3⟩
    ·exact .inl h3
    ·have h0:Hc.get b=none:=by
      cases hg:Hc.get b with
      |none=>rfl
      |some y=>exact absurd ⟨b,y,pl,hg,g2,g3⟩ h4
     exact .inr ⟨b,x,pl,by rw[hK',if_pos ⟨h0,hW.named b pl g2⟩];exact g1,hmap b pl g2,g3⟩
   ·refine .inr ⟨b,x,pl,?_,h2,rfl⟩;rw[hK',if_neg]
    ·exact h1
    ·rintro⟨h3,h4⟩;rw[hdom b W4 h3]at h1;cases h1
 have hE2:ew w σ (aJ σ K) w' ⟨σ'.map,σ.fr⟩ (aJ ⟨σ'.map,σ.fr⟩ K'):=by rw[howns];have ho:=vZ (σ:=σ) hsub;exact⟨hE.os,hE.tape,hE.output,hE.size,λc hc hT=>hE.keep c hc (by rw[ho];exact hT),hE.shape,hmap,rfl,λc hc=>hE.frame c ((hfr c).1 (frK c hc)),λc hc=>by have:=hE.own c hc;rwa [ho]at this⟩
 refine⟨⟨λb pl hb=>VK (hW1.named b pl hb) hn',hW1.lt,λb x hx=>?_,λc hc=>⟨?_,?_⟩,?_,by rw[howns];exact hW1.glob⟩,hE2,howns⟩
 ·rcases get' b x hx with⟨g1,g2,g3⟩|g1
  ·obtain⟨pl,cs,e,h1,h2⟩:=hW.live b x g3;obtain⟨pl0,e1,e2⟩:=rest b x g1 g3;have h1':σ.map b=some pl:=h1;rw[e1]at h1';cases h1';refine⟨pl,cs,e,hmap b pl e1,?_⟩;exact h2.mono hE2 (hE.frame _ ((hfr _).1 e2))
  ·obtain⟨pl,cs,e,h1,h2⟩:=hW1.live b x g1;rw[howns];exact⟨pl,cs,e,h1,km.sig (σ:=σ') (σ':=⟨σ'.map,σ.fr⟩) rfl h2⟩
 ·have:=(hW.apart c hc).1;have:=hE.size;omega
 ·rintro⟨b,x,pl,h1,h2,h3⟩;rcases get' b x h1 with⟨g1,g2,g3⟩|g1
  ·obtain⟨pl0,e1,e2⟩:=rest b x g1 g3;have h2':σ'.map b=some pl:=h2;rw[hmap b pl0 e1]at h2';cases h2';exact(hW.apart c hc).2 ⟨b,x,pl,g3,e1,h3⟩
  ·exact(hW1.apart c (frK c hc)).2 ⟨b,x,pl,g1,h2,h3⟩
 ·intro b b' x x' pl pl' h1 h2 h3 h4 h5;have h3':σ'.map b=some pl:=h3;have h4':σ'.map b'=some pl':=h4;rcases get' b x h1 with⟨g1,g2,g3⟩|g1
  ·obtain⟨pl0,e1,e2⟩:=rest b x g1 g3;rw[hmap b pl0 e1]at h3';cases h3';rcases get' b' x' h2 with⟨k1,k2,k3⟩|k1
   ·obtain⟨pl1,f1,f2⟩:=rest b' x' k1 k3;rw[hmap b' pl1 f1]at h4';cases h4';exact hW.inj b b' x x' pl pl' g3 k3 e1 f1 h5
   ·exact absurd ⟨b',x',pl',k1,h4,h5.symm⟩ (hW1.apart _ e2).2
  ·rcases get' b' x' h2 with⟨k1,k2,k3⟩|k1
   ·obtain⟨pl1,f1,f2⟩:=rest b' x' k1 k3;rw[hmap b' pl1 f1]at h4';cases h4';exact absurd ⟨b,x,pl,g1,h3,h5⟩ (hW1.apart _ f2).2
   ·exact hW1.inj b b' x x' pl pl' g1 k1 h3 h4 h5
end
end
section
def ik(ops:Array Oper)(o:Oper):List Tmp:=
 o.dst.toList++(bL o.op).filterMap (fun|.tmp t=>some t|_=>none)++(match o.guard with|none=>[]|some (j,_)=>((ops[j]?).bind (·.dst)).toList)
def mI(ops:Array Oper):Prop:=∀(i j:Nat) (oi oj:Oper),j<i→ops[i]? =some oi→ops[j]? =some oj→
 ((bR ops.toList []).getD i 0).testBit j=true∨((∀t,oj.dst=some t→t∉ik ops oi)∧(∀t,oi.dst=some t→t∉ik ops oj))
def wr(ops:Array Oper)(t:Tmp)(i:Nat):Bool:=match ops[i]? with|some o=>o.dst==some t|none=>false
def cK(r:Option r6)(c:Nat):Bool:=match r with
 |none=>false
 |some x=>x.writes.contains c||x.made.contains c||(x.isCall&&decide (x.lo≤c)&&decide (c<x.hi))
theorem sN{r:Option r6}{c:Nat}:cK r c=true↔touched r c:=by
 cases r with
 |none=>simp[cK,touched]
 |some x=>simp[cK,touched,or_assoc,and_assoc]
def gZ(r:Option r6):Bool:=match r with|none=>false|some x=>x.isCall
section
variable {P:Program} {F:TypeId→Option (List TypeId)} {call:FuncId→List AV→ae→Option (AV×ae)} {ops:Array Oper} {base:Nat} {τ0:List AV} {H0:ae}
theorem HI{i mask:Nat}{τ τ':List AV}{H H':ae}{r:Option r6}(h:bz P F call ops base i mask τ H=some (τ',H',r)):∃o v,ops[i]? =some o∧τ'=fO τ o.dst v:=by
 unfold bz at h;split at h
 ·cases h
 ·rename_i o ho;refine⟨o,?_⟩
  repeat' (first|(cases h;exact⟨_,ho,rfl⟩)|(cases h;done)|split at h)
structure dg(P:Program)(F:TypeId→Option (List TypeId))(call:FuncId→List AV→ae→Option (AV×ae))(ops:Array Oper)(base:Nat)(τ0:List AV)(H0:ae):Prop where
 bd:∀i,i≤ops.size→Bd (ey P F call ops base τ0 H0 i).2
 le:∀i,i≤ops.size→H0.next≤(ey P F call ops base τ0 H0 i).2.next
 fresh:∀i j,i≤j→j<ops.size→(ey P F call ops base τ0 H0 i).2.get (base+j)=none
 len:∀i,i≤ops.size→(ey P F call ops base τ0 H0 i).1.length=τ0.length
 chg:∀i,i<ops.size→Qq base i (ey P F call ops base τ0 H0 i).2 (ey P F call ops base τ0 H0 (i+1)).2 (fS P F call ops base τ0 H0 i)
theorem Lu(hch:∀f args H v H',Bd H→call f args H=some (v,H')→AO H H')(run:lN P F call ops base τ0 H0)(hbd:Bd H0)(hn:base+ops.size=H0.next)(hfr:∀j,j<ops.size→H0.get (base+j)=none):dg P F call ops base τ0 H0:=by
 have key:∀i,i≤ops.size→Bd (ey P F call ops base τ0 H0 i).2∧H0.next≤(ey P F call ops base τ0 H0 i).2.next∧(∀j,i≤j→j<ops.size→(ey P F call ops base τ0 H0 i).2.get (base+j)=none)∧(ey P F call ops base τ0 H0 i).1.length=τ0.length:=by
  intro i
  induction i with
  |zero=>intro _;exact⟨hbd,Vo _,λj _ hj=>hfr j hj,rfl⟩
  |succ i ih=>intro hi;obtain⟨a1,a2,a3,a4⟩:=ih W4;have hst:=run.step i W4;have d:=iR hch a1 W4 hst;obtain⟨o,v,_,hv⟩:=HI hst;refine⟨d.bd a1,VG a2 d.next,λj h1 h2=>d.dom _ W4 W4 (a3 j W4 h2),?_⟩;rw[hv,←a4];cases o.dst<;>simp[fO]
 exact⟨λi hi=>(key i hi).1,λi hi=>(key i hi).2.1,λi j h1 h2=>(key i W4).2.2.1 j h1 h2,λi hi=>(key i hi).2.2.2,λi hi=>iR hch (key i W4).1 (by have:=(key i W4).2.1;omega) (run.step i hi)⟩
def o9(P:Program)(F:TypeId→Option (List TypeId))(call:FuncId→List AV→ae→Option (AV×ae))(ops:Array Oper)(base:Nat)(τ0:List AV)(H0:ae)(L:Nat→Bool)(t:Tmp):Option AV:=
 match cu (λj=>L j&&wr ops t j) ops.size with
 |some j=>(ey P F call ops base τ0 H0 (j+1)).1[t]?
 |none=>τ0[t]?
def hget(P:Program)(F:TypeId→Option (List TypeId))(call:FuncId→List AV→ae→Option (AV×ae))(ops:Array Oper)(base:Nat)(τ0:List AV)(H0:ae)(L:Nat→Bool)(c:Nat):Option Blk:=
 match cu (λj=>L j&&cK (fS P F call ops base τ0 H0 j) c) ops.size with
 |some j=>(ey P F call ops base τ0 H0 (j+1)).2.get c
 |none=>H0.get c
def Ga(P:Program)(F:TypeId→Option (List TypeId))(call:FuncId→List AV→ae→Option (AV×ae))(ops:Array Oper)(base:Nat)(τ0:List AV)(H0:ae)(L:Nat→Bool):Nat:=
 match cu (λj=>L j&&gZ (fS P F call ops base τ0 H0 j)) ops.size with
 |some j=>(ey P F call ops base τ0 H0 (j+1)).2.next
 |none=>H0.next
theorem O2{τ:List AV}{d:Option Tmp}{v:AV}{t:Tmp}(h:(d==some t)=false):(fO τ d v)[t]? =τ[t]? :=by
 cases d with
 |none=>rfl
 |some d=>
  have:d≠t:=by simpa using h
  simp only[fO,Wf];rw[if_neg this]
theorem Jn(run:lN P F call ops base τ0 H0)(t:Tmp):∀k,k≤ops.size→(ey P F call ops base τ0 H0 k).1[t]? =match cu (wr ops t) k with|some j=>(ey P F call ops base τ0 H0 (j+1)).1[t]?|none=>τ0[t]?
 |0,_=>rfl
 | k+1,hk=>by
  unfold cu;cases hw:wr ops t k with
  |true=>simp
  |false=>simp only[VQ,if_false];rw[←Jn run t k W4];obtain⟨o,v,ho,hv⟩:=HI (run.step k W4);rw[hv];simp only[wr,ho]at hw;exact O2 hw
theorem Jo(run:lN P F call ops base τ0 H0)(rf:dg P F call ops base τ0 H0)(c:Nat):∀k,k≤ops.size→(ey P F call ops base τ0 H0 k).2.get c=match cu (λj=>cK (fS P F call ops base τ0 H0 j) c) k with|some j=>(ey P F call ops base τ0 H0 (j+1)).2.get c|none=>H0.get c
 |0,_=>rfl
 | k+1,hk=>by
  unfold cu;cases hw:cK (fS P F call ops base τ0 H0 k) c with
  |true=>simp
  |false=>simp only[VQ,if_false];rw[←Jo run rf c k W4];exact(rf.chg k W4).keep (rf.bd k W4) c (λht=>by rw[sN.2 ht]at hw;cases hw)
theorem ET{i mask:Nat}{τ τ':List AV}{H H':ae}{r:Option r6}(h:bz P F call ops base i mask τ H=some (τ',H',r))(hc:gZ r=false):H'.next=H.next:=by
 unfold bz at h;split at h
 ·cases h
 ·split at h
  ·split at h
   ·rename_i hop;cases h;have:=CG hop;exact this
   ·split at h
    ·cases h;simp[gZ]at hc
    ·cases h
   ·cases h
  ·cases h;rfl
  ·cases h
theorem Jp(run:lN P F call ops base τ0 H0):∀k,k≤ops.size→(ey P F call ops base τ0 H0 k).2.next=match cu (λj=>gZ (fS P F call ops base τ0 H0 j)) k with|some j=>(ey P F call ops base τ0 H0 (j+1)).2.next|none=>H0.next
 |0,_=>rfl
 | k+1,hk=>by
  unfold cu;cases hw:gZ (fS P F call ops base τ0 H0 k)with
  |true=>simp
  |false=>simp only[VQ,if_false];rw[←Jp run k W4];exact ET (run.step k W4) hw
structure Next(ops:Array Oper)(L:Nat→Bool)(i:Nat):Prop where
 lt:i<ops.size
 not:L i=false
 closed:F9 ops L
 edges:∀(o:Oper),ops[i]? =some o→∀e∈o.after.toList,Region.binds .any e=true→L e.on=true
theorem Next.before{L:Nat→Bool}{i:Nat}(h:Next ops L i){j:Nat}(hb:((bR ops.toList []).getD i 0).testBit j=true):L j=true:=
 h.closed.ahead i _ (VP h.lt) (h.edges _ (VP h.lt)) j hb
theorem Next.behind{L:Nat→Bool}{i:Nat}(h:Next ops L i){j:Nat}(hj:j<ops.size)(hb:((bR ops.toList []).getD j 0).testBit i=true):L j=false:=by
 cases hL:L j with
 |false=>rfl
 |true=>have:=h.closed.ahead j _ (VP hj) (h.closed j _ (VP hj) hL) i hb;rw[h.not]at this;cases this
theorem O3(run:lN P F call ops base τ0 H0)(hst:mI ops){L:Nat→Bool}{i:Nat}(nx:Next ops L i){o:Oper}(ho:ops[i]? =some o){t:Tmp}(ht:t∈ik ops o):
  o9 P F call ops base τ0 H0 L t=(ey P F call ops base τ0 H0 i).1[t]? :=by
 have hord:∀j,j<ops.size→j≠i→wr ops t j=true→(j<i→L j=true)∧(i<j→L j=false):=λj hj hne hw=>by
  have hoj:ops[j]? =some ops[j]:=VP hj;simp only[wr,hoj]at hw;have hd:(ops[j]).dst=some t:=by simpa using hw
  refine⟨λhlt=>?_,λhlt=>?_⟩
  ·rcases hst i j o _ hlt ho hoj with h1|⟨h1,_⟩
   ·exact nx.before h1
   ·exact absurd ht (h1 t hd)
  ·rcases hst j i _ o hlt hoj ho with h1|⟨_,h1⟩
   ·exact nx.behind hj h1
   ·exact absurd ht (h1 t hd)
 rw[Jn run t i (by have:=nx.lt;omega),o9,o8 nx.lt nx.not hord]
end
end
section
theorem lO{l m:List Nat}(h:apart l m=true){x:Nat}(hx:x∈l):x∉m:=by unfold apart at h;rw[VE]at h;have:=h x hx;simpa using this
structure S3(x y:r6):Prop where
 wr:∀c∈x.writes,c∉y.reads
 ww:∀c∈x.writes,c∉y.writes
 rw:∀c∈x.reads,c∉y.writes
 mr:∀c∈x.made,c∉y.reads
 mw:∀c∈x.made,c∉y.writes
 cc:x.isCall=true→y.isCall=false
 cw:x.isCall=true→∀c,c∉y.writes
 cr:x.isCall=true→∀c∈y.reads,¬(x.lo≤c∧c<x.hi)
 wc:y.isCall=true→∀c,c∉x.writes
theorem eD{x y:r6}(h:lF x y=false):S3 x y:=by
 unfold lF at h;simp only[Bool.or_eq_false_iff,Bool.not_eq_false',VS,Bool.and_eq_false_iff]at h;obtain⟨⟨⟨⟨⟨⟨h1,h2⟩,h3⟩,h4⟩,h5⟩,h6⟩,h7⟩:=h;refine⟨λc hc=>lO h1 hc,λc hc=>lO h2 hc,λc hc=>lO h3 hc,λc hc=>lO h4 hc,λc hc=>lO h5 hc,λhx=>?_,λhx c hc=>?_,λhx c hc hr=>?_,λhy c hc=>?_⟩
 ·rcases h6 with h6|⟨⟨h6,_⟩,_⟩
  ·rw[hx]at h6;cases h6
  ·exact h6
 ·rcases h6 with h6|⟨⟨_,h6⟩,_⟩
  ·rw[hx]at h6;cases h6
  ·simp at h6;rw[h6]at hc;simp at hc
 ·rcases h6 with h6|⟨_,h6⟩
  ·rw[hx]at h6;cases h6
  ·rw[List.any_eq_false]at h6;exact h6 c hc (by simpa using hr)
 ·rcases h7 with h7|h7
  ·rw[hy]at h7;cases h7
  ·simp at h7;rw[h7]at hc;simp at hc
section
variable {P:Program} {F:TypeId→Option (List TypeId)} {call:FuncId→List AV→ae→Option (AV×ae)} {ops:Array Oper} {base:Nat} {τ0:List AV} {H0:ae}
theorem Fq(rf:dg P F call ops base τ0 H0){i:Nat}:∀{j:Nat},i≤j→j≤ops.size→(ey P F call ops base τ0 H0 i).2.next≤(ey P F call ops base τ0 H0 j).2.next
 |0,h1,_=>by rw[show i=0 by omega];exact Vo _
 | j+1,h1,h2=>by
  rcases Ww h1 with rfl|hlt
  ·exact Vo _
  ·exact VG (Fq rf (show i≤j by omega) W4) (rf.chg j W4).next
theorem later(run:lN P F call ops base τ0 H0)(rf:dg P F call ops base τ0 H0){i j c:Nat}{r y:r6}{b:Blk}(hij:i<j)(hj:j<ops.size)(hi:fS P F call ops base τ0 H0 i=some r)(hy:fS P F call ops base τ0 H0 j=some y)(ht:touched (fS P F call ops base τ0 H0 j) c)
  (hl:(ey P F call ops base τ0 H0 i).2.get c=some b):((bR ops.toList []).getD j 0).testBit i=true∨(S3 r y∧(c∈y.writes∨(y.isCall=true∧False))):=by
 rcases run.free j i r y hij hj hi hy with h1|h1
 ·exact .inl h1
 ·right;refine⟨eD h1,?_⟩;obtain⟨x,hx,ht⟩:=ht;rw[hy]at hx;cases hx;rcases ht with ht|ht|⟨t1,t2,_⟩
  ·exact .inl ht
  ·have:=((rf.chg j hj).made y hy).1 c ht;subst this;rw[rf.fresh i j W4 hj]at hl;cases hl
  ·have h2:=((rf.chg j hj).made y hy).2 t1;have h3:=Fq rf (show i≤j by omega) W4;rw[rf.bd i W4 c W4]at hl;cases hl
theorem Kt(run:lN P F call ops base τ0 H0)(rf:dg P F call ops base τ0 H0){L:Nat→Bool}{i:Nat}(nx:Next ops L i){c:Nat}
  (hord:∀j,j<ops.size→j≠i→touched (fS P F call ops base τ0 H0 j) c→(j<i→((bR ops.toList []).getD i 0).testBit j=true)∧(i<j→((bR ops.toList []).getD j 0).testBit i=true)) :
  hget P F call ops base τ0 H0 L c=(ey P F call ops base τ0 H0 i).2.get c:=by
 rw[Jo run rf c i (by have:=nx.lt;omega),hget,o8 (p:=λj=>cK (fS P F call ops base τ0 H0 j) c) nx.lt nx.not];intro j hj hne ht;obtain⟨h1,h2⟩:=hord j hj hne (sN.1 ht);exact⟨λhlt=>nx.before (h1 hlt),λhlt=>nx.behind hj (h2 hlt)⟩
theorem MD(run:lN P F call ops base τ0 H0)(rf:dg P F call ops base τ0 H0){i c:Nat}{r:r6}{b:Blk}(hi:i<ops.size)(hr:fS P F call ops base τ0 H0 i=some r)(hc:c∈r.reads)(hl:(ey P F call ops base τ0 H0 i).2.get c=some b):
  ∀j,j<ops.size→j≠i→touched (fS P F call ops base τ0 H0 j) c→(j<i→((bR ops.toList []).getD i 0).testBit j=true)∧(i<j→((bR ops.toList []).getD j 0).testBit i=true):=by
 intro j hj hne ht;obtain⟨x,hx,ht'⟩:=ht;refine⟨λhlt=>?_,λhlt=>?_⟩
 ·rcases run.free i j x r hlt hi hx hr with h1|h1
  ·exact h1
  ·exfalso;have fr:=eD h1;rcases ht' with t|t|⟨t1,t2,t3⟩
   ·exact fr.wr c t hc
   ·exact fr.mr c t hc
   ·exact fr.cr t1 c hc ⟨t2,t3⟩
 ·rcases later run rf hlt hj hr hx ⟨x,hx,ht'⟩ hl with h1|⟨h1,h2|⟨_,h2⟩⟩
  ·exact h1
  ·exact absurd h2 (h1.rw c hc)
  ·exact h2.elim
theorem HJ{o:Op}{ρ:Operand→AV}{b c:Nat}{v:AV}{H H':ae}(h:aL P F o ρ b H=some (.val v H'))(hc:c∈aG o ρ):∃x,H.get c=some x:=by
 cases o with
 |load t a=>
  simp only[aL]at h;obtain⟨h1,_⟩:=fo h;simp only[aG]at hc;generalize ρ a=y at h1 hc;cases y<;>simp[aa]at hc<;>simp[nr]at h1;subst hc;cases hg:H.get _ with
  |none=>rw[hg]at h1;simp at h1
  |some x=>exact⟨x,rfl⟩
 |store t a x=>
  simp only[aL]at h;cases hst:fP P H t (ρ a) (ρ x)with
  |none=>rw[hst]at h;cases h
  |some K=>
   simp only[aG]at hc;unfold fP at hst;split at hst
   ·rename_i d i off cs n ha hcs hn;rw[ha]at hc;simp[aa]at hc;subst hc;split at hst
    ·rename_i y hy;exact⟨y,hy⟩
    ·cases hst
   ·cases hst
 |indexAddr t x ix=>
  simp only[aL]at h;obtain⟨h1,_⟩:=fo h;simp only[aG]at hc;generalize ρ x=y at h1 hc;cases y<;>simp[dT]at hc;subst hc;cases hg:H.get c with
  |some x=>exact⟨x,rfl⟩
  |none=>
   exfalso;simp only[dM,mB,hg,Option.map_none,Option.isSome_none,VQ,false_and,and_false,if_false]at h1;split at h1
   ·split at h1
    ·cases h1
    ·split at h1<;>simp_all
   ·cases h1
 |slice t x lo hi mx=>
  simp only[aL]at h;split at h
  ·cases h
  ·obtain⟨h1,_⟩:=fo h;simp only[aG]at hc;generalize ρ x=y at h1 hc;cases y<;>simp[dT]at hc;subst hc;cases hg:H.get c with
   |some x=>exact⟨x,rfl⟩
   |none=>
    exfalso;simp only[kR,mB,hg,Option.map_none,Option.isSome_none,VQ,false_and,if_false]at h1;split at h1
    ·split at h1
     ·split at h1<;>cases h1
     ·cases h1
    ·cases h1
    ·cases h1
 |call k=>
  simp only[aG]at hc;split at hc
  ·rename_i hk;simp only[aL,hk]at h;cases hbi:aT P H b .append k.argTypes (k.args.toList.map ρ)with
   |none=>rw[hbi]at h;cases h
   |some q=>
    unfold aT at hbi;split at hbi
    ·rename_i e _;cases e
    ·rename_i _ e _;cases e
    ·rename_i s x e heq;obtain⟨a0,a1,hargs,h0,h1⟩:=ql heq;rw[hargs]at hc;simp only[List.flatMap_cons,List.flatMap_nil,V5,h0,h1,VC]at hc;split at hbi
     ·split at hbi
      ·unfold cO at hbi;split at hbi
       ·split at hbi
        ·split at hbi
         ·rename_i l m hl hm;have aux:∀{y:AV} {q n},fy H n y=some q→c∈aa y→∃x,H.get c=some x:=λ{y} {q} {n} hy hcy=>by
           cases y<;>simp[aa]at hcy<;>simp[fy]at hy;subst hcy;split at hy
           ·rename_i x hx;exact⟨x,hx⟩
           ·cases hy
          rcases hc with hc|hc
          ·exact aux hl hc
          ·exact aux hm hc
         ·cases hbi
        ·cases hbi
       ·cases hbi
      ·cases hbi
     ·cases hbi
    ·rename_i e _;cases e
    ·rename_i e _;cases e
    ·rename_i e _;cases e
    ·cases hbi
  ·rename_i hk;simp only[aL,hk]at h;cases hbi:aT P H b .clear k.argTypes (k.args.toList.map ρ)with
   |none=>rw[hbi]at h;cases h
   |some q=>
    unfold aT at hbi;split at hbi
    ·rename_i e _;cases e
    ·rename_i _ e _;cases e
    ·rename_i e _;cases e
    ·rename_i e _;cases e
    ·rename_i e _;cases e
    ·rename_i x e heq;obtain⟨a0,hargs,h0⟩:=qk heq;rw[hargs]at hc;simp only[List.flatMap_cons,List.flatMap_nil,V5,h0]at hc;split at hbi
     ·rw[WO]at hbi;obtain⟨K1,hk1,_⟩:=hbi;unfold eY at hk1;split at hk1
      ·split at hk1
       ·split at hk1
        ·simp[aa]at hc
        ·simp[aa]at hc;subst hc;split at hk1
         ·rename_i y hy;exact⟨y,hy⟩
         ·cases hk1
        ·cases hk1
       ·cases hk1
      ·cases hk1
     ·cases hbi
    ·cases hbi
  ·simp at hc
 |lookup t m k ok=>simp only[aL]at h;obtain⟨h1,rfl⟩:=fo h;obtain⟨q,x,hm,hx,_⟩:=CF h1;simp only[aG,hm,aa,Vv]at hc;exact⟨x,by rw[hc];exact hx⟩
 |mapUpdate t m k x=>
  simp only[aL]at h;cases hs:eO P H t (ρ m) (ρ k) (ρ x)with
  |none=>rw[hs]at h;cases h
  |some H2=>obtain⟨q,y,y',hm,hy,_⟩:=mF hs;simp only[aG,hm,aa,Vv]at hc;exact⟨y,by rw[hc];exact hy⟩
 |next it s=>
  cases s with
  |false=>simp[aL]at h
  |true=>
   simp only[aL]at h;cases hs:iA H (ρ it)with
   |none=>rw[hs]at h;cases h
   |some r=>obtain⟨q,y,hm,hy,_⟩:=vV hs;simp only[aG,hm,aa,Vv]at hc;exact⟨y,by rw[hc];exact hy⟩
 |_=>simp[aG]at hc
theorem wa{o:Op}{ρ:Operand→AV}{c:Nat}(hc:c∈aF o ρ):c∈aG o ρ:=by
 cases o with
 |store t a x=>exact hc
 |call k=>
  simp only[aF]at hc;simp only[aG];split at hc
  ·rename_i hk;rw[List.mem_flatMap]at hc ⊢;obtain⟨x,h1,h2⟩:=hc;exact⟨x,List.mem_of_mem_take h1,h2⟩
  ·exact hc
  ·simp at hc
 |mapUpdate t m k x=>exact hc
 |next it s=>exact hc
 |_=>simp[aF]at hc
end
end
section
def iS(L:Nat→Bool)(i:Nat):Nat→Bool:=λj=>if j=i then true else L j
theorem CM{p:Nat→Bool}:∀{k j:Nat},cu p k=some j→j<k
 |0,j,h=>by cases h
 | k+1,j,h=>by
  unfold cu at h;split at h
  ·cases h;omega
  ·have:=CM h;omega
def Fs(H:ae):List Nat→ae→ae
 |[],K=>K
 |c::l,K=>Fs H l {K with tr:=K.tr.set c (H.get c)}
theorem HK(H:ae):∀(l:List Nat) (K:ae) (c:Nat),(Fs H l K).get c=if c∈l then H.get c else K.get c
 |[],K,c=>by simp[Fs]
 | d::l,K,c=>by
  rw[Fs,HK H l];by_cases h1:c∈l
  ·rw[if_pos h1,if_pos (by simp[h1])]
  ·rw[if_neg h1];show(K.tr.set d (H.get d)).get c=_;rw[Tr.get_set];by_cases h2:d=c
   ·subst h2;rw[if_pos rfl,if_pos W7]
   ·rw[if_neg h2,if_neg (by simp[h1];exact λe=>h2 e.symm)];rfl
section
variable {P:Program} {F:TypeId→Option (List TypeId)} {call:FuncId→List AV→ae→Option (AV×ae)} {ops:Array Oper} {base:Nat} {τ0:List AV} {H0:ae}
def SY(P:Program)(F:TypeId→Option (List TypeId))(call:FuncId→List AV→ae→Option (AV×ae))(ops:Array Oper)(base:Nat)(τ0:List AV)(H0:ae)(w0:World)(σ0:bq)(L:Nat→Bool)(a:Act)(w:World):Prop:=
 ∃σ K,aX w σ K∧(∀c,K.get c=hget P F call ops base τ0 H0 L c)∧K.next=Ga P F call ops base τ0 H0 L∧a.tmps.size=τ0.length∧a.defers=[]∧(∀t x u,o9 P F call ops base τ0 H0 L t=some x→a.tmps[t]? =some u→aU w σ (aJ σ K) x u)∧
  ew w0 σ0 (aJ σ0 H0) w σ (aJ σ K)∧(∀c pl,σ c=some pl→σ0 c=some pl∨base≤c)∧(∀i,i<ops.size→L i=false→σ (base+i)=none)
def tl(P:Program)(F:TypeId→Option (List TypeId))(call:FuncId→List AV→ae→Option (AV×ae))(ops:Array Oper)(base:Nat)(τ0:List AV)(H0:ae)(L:Nat→Bool):List AV:=
 (List.range τ0.length).map λt=>(o9 P F call ops base τ0 H0 L t).getD bB
theorem HL(rf:dg P F call ops base τ0 H0)(L:Nat→Bool)(t:Tmp):(t<τ0.length→∃x,o9 P F call ops base τ0 H0 L t=some x)∧(τ0.length≤t→o9 P F call ops base τ0 H0 L t=none):=by
 unfold o9;split
 ·rename_i j hj;have hl:=rf.len (j+1) (CM hj);exact⟨λht=>⟨_,Vn (by rw[hl];exact ht)⟩,λht=>Vu (by rw[hl];exact ht)⟩
 ·exact⟨λht=>⟨_,Vn ht⟩,λht=>Vu ht⟩
theorem ME(rf:dg P F call ops base τ0 H0)(L:Nat→Bool)(t:Tmp):(tl P F call ops base τ0 H0 L)[t]? =o9 P F call ops base τ0 H0 L t:=by
 unfold tl;rw[VD];rcases Vt t τ0.length with h|h
 ·rw[WZ h];obtain⟨x,hx⟩:=(HL rf L t).1 h;simp[hx]
 ·rw[Vu (by simpa using h),(HL rf L t).2 h];rfl
theorem S4(rf:dg P F call ops base τ0 H0){L:Nat→Bool}{a:Act}{w:World}{σ:bq}{T:Nat→Prop}(h1:a.tmps.size=τ0.length)(h2:a.defers=[])(h3:∀t x u,o9 P F call ops base τ0 H0 L t=some x→a.tmps[t]? =some u→aU w σ T x u):
  cv w σ T (tl P F call ops base τ0 H0 L) a:=
 ⟨⟨by simp[tl,h1],λt x u hx hu=>h3 t x u (by rw[←ME rf];exact hx) (by rw[←VM];exact hu)⟩,h2⟩
theorem O4{l m:List AV}{t:Nat}(h:l[t]? =m[t]?):l.getD t bB=m.getD t bB:=by simp[List.getD,h]
theorem MF(run:lN P F call ops base τ0 H0)(rf:dg P F call ops base τ0 H0)(hst:mI ops){L:Nat→Bool}{i:Nat}(nx:Next ops L i){o:Oper}(ho:ops[i]? =some o):
  (∀x∈bL o.op,j7 (ey P F call ops base τ0 H0 i).1 x=j7 (tl P F call ops base τ0 H0 L) x)∧dy ops o (tl P F call ops base τ0 H0 L)=dy ops o (ey P F call ops base τ0 H0 i).1:=by
 have ht:∀t∈ik ops o,(tl P F call ops base τ0 H0 L)[t]? =(ey P F call ops base τ0 H0 i).1[t]? :=λt h=>by rw[ME rf,O3 run hst nx ho h]
 refine⟨λx hx=>?_,?_⟩
 ·cases x with
  | tmp t=>exact(O4 (ht t (by
    simp only[ik,VC];exact .inl (.inr (List.mem_filterMap.2 ⟨.tmp t,hx,rfl⟩))))).symm
  |const v=>rfl
  |global g=>rfl
  |func f=>rfl
 ·unfold dy;cases hg:o.guard with
  |none=>rfl
  |some q=>
   obtain⟨j,want⟩:=q;simp only[];cases hd:(ops[j]?).bind (·.dst)with
   |none=>rfl
   |some d=>simp only[];rw[ht d (by simp only[ik,VC,hg,hd];right;simp)]
theorem CN(run:lN P F call ops base τ0 H0)(rf:dg P F call ops base τ0 H0)(hst:mI ops){L:Nat→Bool}{i:Nat}(nx:Next ops L i){o:Oper}(ho:ops[i]? =some o){v:AV}{v':Value}{a:Act}{w w':World}{σ σ':bq}{T T':Nat→Prop}
  (hv:(ey P F call ops base τ0 H0 (i+1)).1=fO (ey P F call ops base τ0 H0 i).1 o.dst v) (hr:aU w' σ' T' v v') (h1:a.tmps.size=τ0.length) (h3:∀t x u,o9 P F call ops base τ0 H0 L t=some x→a.tmps[t]? =some u→aU w σ T x u) (hE:∀x u,aU w σ T x u→aU w' σ' T' x u) :
  (a.put o.dst v').tmps.size=τ0.length∧∀t x u,o9 P F call ops base τ0 H0 (iS L i) t=some x→(a.put o.dst v').tmps[t]? =some u→aU w' σ' T' x u:=by
 refine⟨by cases o.dst<;>simp[Act.put,h1],λt x u hx hu=>?_⟩;by_cases hw:wr ops t i=true
 ·have hd:o.dst=some t:=by simpa[wr,ho]using hw
  have hl:cu (λj=>iS L i j&&wr ops t j) ops.size=some i:=by
   refine yU nx.lt nx.not hw λj hj hne hwj hlt=>?_
   have hoj:ops[j]? =some ops[j]:=VP hj;have hdj:(ops[j]).dst=some t:=by simpa[wr,hoj]using hwj
   rcases hst j i _ o hlt hoj ho with h4|⟨h4,_⟩
   ·exact nx.behind hj h4
   ·exact absurd (by simp[ik,hdj]) (h4 t hd)
  unfold o9 at hx;rw[hl]at hx;simp only[hv,hd,fO,Wf]at hx;simp only[hd,Act.put,Array.getElem?_setIfInBounds]at hu;simp only[if_true]at hx hu;split at hx
  ·split at hu
   ·cases hx;cases hu;exact hr
   ·cases hu
  ·cases hx
 ·have hw':wr ops t i=false:=by simpa using hw
  have hd:(o.dst==some t)=false:=by simpa[wr,ho]using hw'
  have hl:cu (λj=>iS L i j&&wr ops t j) ops.size=cu (λj=>L j&&wr ops t j) ops.size:=mH hw';have hx':o9 P F call ops base τ0 H0 L t=some x:=by unfold o9 at hx ⊢;rw[hl]at hx;exact hx
  refine hE x u (h3 t x u hx' ?_);rw[←hu];cases hdd:o.dst with
  |none=>rfl
  |some d=>
   have:d≠t:=by rw[hdd]at hd;simpa using hd
   simp[Act.put,this]
end
end
section
section
variable {P:Program} {F:TypeId→Option (List TypeId)} {call:FuncId→List AV→ae→Option (AV×ae)} {ops:Array Oper} {base:Nat} {τ0:List AV} {H0:ae}
theorem Ku(rf:dg P F call ops base τ0 H0)(L:Nat→Bool):H0.next≤Ga P F call ops base τ0 H0 L:=by
 unfold Ga;split
 ·rename_i j hj;exact rf.le (j+1) (CM hj)
 ·exact Vo _
theorem yV{L:Nat→Bool}{i c:Nat}(h:cK (fS P F call ops base τ0 H0 i) c=false):hget P F call ops base τ0 H0 (iS L i) c=hget P F call ops base τ0 H0 L c:=by have hl:cu (λj=>iS L i j&&cK (fS P F call ops base τ0 H0 j) c) ops.size=cu (λj=>L j&&cK (fS P F call ops base τ0 H0 j) c) ops.size:=mH (p:=λj=>cK (fS P F call ops base τ0 H0 j) c) h;unfold hget;rw[hl]
theorem HM{L:Nat→Bool}{i c:Nat}(nx:Next ops L i)(h:cK (fS P F call ops base τ0 H0 i) c=true)(hl:∀j,j<ops.size→j≠i→touched (fS P F call ops base τ0 H0 j) c→i<j→((bR ops.toList []).getD j 0).testBit i=true):hget P F call ops base τ0 H0 (iS L i) c=(ey P F call ops base τ0 H0 (i+1)).2.get c:=by
 have hw:cu (λj=>iS L i j&&cK (fS P F call ops base τ0 H0 j) c) ops.size=some i:=yU (p:=λj=>cK (fS P F call ops base τ0 H0 j) c) nx.lt nx.not h λj hj hne ht hlt=>nx.behind hj (hl j hj hne (sN.1 ht) hlt)
 unfold hget;rw[hw]
theorem MG(fit:Fit P F)(hs:ee P call)(hch:∀f args H v H',Bd H→call f args H=some (v,H')→AO H H')(run:lN P F call ops base τ0 H0)(rf:dg P F call ops base τ0 H0)(hst:mI ops)(hb:base+ops.size=H0.next)
  {w0:World} {σ0:bq} {L:Nat→Bool} {i:Nat} {a:Act} {w:World} (nx:Next ops L i) (h:SY P F call ops base τ0 H0 w0 σ0 L a w) {Q:Exit→Act→World→Prop}:wpOp P ops Q i (SY P F call ops base τ0 H0 w0 σ0 (iS L i)) a w:=by
 obtain⟨σ,K,hW,hK,hn,hsz,hdf,hrep,hE0,hnm,hfr⟩:=h;have hi:=nx.lt;obtain⟨o,ho⟩:∃o,ops[i]? =some o:=⟨_,VP hi⟩;obtain⟨hu,hwt⟩:=MF run rf hst nx ho;have htm:=S4 rf hsz hdf hrep;have hbi:σ (base+i)=none:=hfr i hi nx.not;have hKb:K.get (base+i)=none:=by
  cases hg:K.get (base+i)with
  |none=>rfl
  |some x=>obtain⟨pl,_,_,h1,_⟩:=hW.live _ x hg;rw[hbi]at h1;cases h1
 have hSb:(ey P F call ops base τ0 H0 i).2.get (base+i)=none:=rf.fresh i i (Vo _) hi;have hlt:base+i<K.next:=by have:=Ku rf L;rw[hn];omega
 have hfresh:∀{σ':bq},(∀c pl,σ' c=some pl→σ c=some pl∨c=base+i∨K.next≤c)→∀j,j<ops.size→iS L i j=false→σ' (base+j)=none:=λ{σ'} hσ j hj hLj=>by
  have hji:j≠i:=by rintro rfl;simp[iS]at hLj
  have hL:L j=false:=by simpa[iS,hji]using hLj
  cases hg:σ' (base+j)with
  |none=>rfl
  |some pl=>
   have hge:=Ku rf L;rcases hσ _ pl hg with h1|h1|h1
   ·rw[hfr j hj hL]at h1;cases h1
   ·omega
   ·omega
 have hstep:=run.step i hi;unfold bz at hstep;rw[ho]at hstep;simp only[]at hstep;unfold wpOp;rw[ho];simp only[];split at hstep
 ·rename_i hwant;rw[←hwt]at hwant;rw[if_pos (iQ htm hwant)];left;unfold Oper.wp;split at hstep
  ·rename_i v H' hop;simp only[Vz,Prod.mk.injEq]at hstep;obtain⟨e1,e2,e3⟩:=hstep;obtain⟨q1,q2,q3⟩:=Ks (P:=P) (F:=F) hu (base+i) (ey P F call ops base τ0 H0 i).2;have hop2:aL P F o.op (j7 (tl P F call ops base τ0 H0 L)) (base+i) (ey P F call ops base τ0 H0 i).2=some (.val v H'):=by rw[←q1];exact hop
   have hreads:∀c,c∈aG o.op (j7 (tl P F call ops base τ0 H0 L))→∃x,(ey P F call ops base τ0 H0 i).2.get c=some x∧∀j,j<ops.size→j≠i→touched (fS P F call ops base τ0 H0 j) c→(j<i→((bR ops.toList []).getD i 0).testBit j=true)∧(i<j→((bR ops.toList []).getD j 0).testBit i=true):=λc hc=>by obtain⟨x,hx⟩:=HJ hop2 hc;exact⟨x,hx,MD run rf hi e3.symm (by show c∈aG o.op (j7 (ey P F call ops base τ0 H0 i).1);rw[q2];exact hc) hx⟩
   have hr:∀c∈aG o.op (j7 (tl P F call ops base τ0 H0 L)),K.get c=(ey P F call ops base τ0 H0 i).2.get c:=λc hc=>by obtain⟨x,_,h1⟩:=hreads c hc;rw[hK];exact Kt run rf nx h1
   obtain⟨K',l1,l2,l3⟩:=Ls hop2 K hr (by rw[hKb,hSb]);obtain⟨v',w',σ',h1,h2,h3,h4,h5⟩:=Fm fit hW hbi hlt (o:=o) (htm.eval hW.glob) l1;have htouch:∀c,cK (fS P F call ops base τ0 H0 i) c=true↔(c∈aF o.op (j7 (tl P F call ops base τ0 H0 L))∨c=base+i):=λc=>by rw[←e3,←q3];simp[cK]
   have hinv:SY P F call ops base τ0 H0 w0 σ0 (iS L i) (a.put o.dst v') w':=by
    obtain⟨t1,t2⟩:=CN run rf hst nx ho e1.symm h2 hsz hrep (λx u hxu=>hxu.mono h4);refine⟨σ',K',h3,λc=>?_,?_,t1,by cases o.dst<;>exact hdf,t2,hE0.trans h4,λc pl hc=>?_,hfresh (λc pl hc=>?_)⟩
    ·rw[l3];cases ht:cK (fS P F call ops base τ0 H0 i) c with
     |true=>
      have hc:=(htouch c).1 ht;rw[if_pos hc,HM nx ht,←e2]
      ·rfl
      ·intro j hj hne hjt hlt';rcases hc with hc|hc
       ·obtain⟨x,_,h6⟩:=hreads c (wa hc);exact(h6 j hj hne hjt).2 hlt'
       ·obtain⟨y,hy,hyt⟩:=hjt;rcases run.free j i _ y hlt' hj e3.symm hy with h6|h6
        ·exact h6
        ·exfalso;have fr:=eD h6;rcases hyt with t|t|⟨t3,t4,_⟩
         ·exact fr.mw c (by simp[hc]) t
         ·have:=((rf.chg j hj).made y hy).1 c t;omega
         ·have:=((rf.chg j hj).made y hy).2 t3;have:=rf.le j W4;omega
     |false=>rw[if_neg (λhc=>by rw[(htouch c).2 hc]at ht;cases ht),yV ht,hK]
    ·rw[l2,hn];have:gZ (fS P F call ops base τ0 H0 i)=false:=by rw[←e3];rfl
     have hl:cu (λj=>iS L i j&&gZ (fS P F call ops base τ0 H0 j)) ops.size=cu (λj=>L j&&gZ (fS P F call ops base τ0 H0 j)) ops.size:=mH (p:=λj=>gZ (fS P F call ops base τ0 H0 j)) this;unfold Ga;rw[hl]
    ·rcases h5 c pl hc with h6|h6
     ·exact hnm c pl h6
     ·exact .inr W4
    ·rcases h5 c pl hc with h6|h6
     ·exact .inl h6
     ·exact .inr (.inl h6)
   rcases h1 with h1|⟨h1,rfl⟩
   ·rw[h1];exact hinv
   ·rw[h1];exact hinv
  ·rename_i f args hop;split at hstep
   ·rename_i v H1 hcall;simp only[Vz,Prod.mk.injEq]at hstep;obtain⟨e1,e2,e3⟩:=hstep;obtain⟨q1,q2,q3⟩:=Ks (P:=P) (F:=F) hu (base+i) (ey P F call ops base τ0 H0 i).2;have hop2:aL P F o.op (j7 (tl P F call ops base τ0 H0 L)) (base+i) (ey P F call ops base τ0 H0 i).2=some (.call f args):=by rw[←q1];exact hop
    have hopK:=CK hop2 K;obtain⟨fn,cd,hf,hbd⟩:=hs.body _ _ _ _ _ hcall;obtain⟨vs,g1,g2⟩:=HA fit (o:=o) (b:=base+i) (htm.eval hW.glob) hopK hf hbd;have hHg:=gY base ((bR ops.toList []).getD i 0) i (ey P F call ops base τ0 H0 i).2;have hHn:=(fH base ((bR ops.toList []).getD i 0) i (ey P F call ops base τ0 H0 i).2).1;generalize hHc:dt base ((bR ops.toList []).getD i 0) i (ey P F call ops base τ0 H0 i).2=Hh at hcall e3 hHg hHn;have hbdc:Bd ({Hh with log:=[]}:ae):=λd hd=>by
     show Hh.get d=none;rw[hHg];split
     ·rfl
     ·exact rf.bd i W4 d (by rw[←hHn];exact hd)
    have hcg:AO ({Hh with log:=[]}:ae) H1:=hch _ _ _ _ _ hbdc hcall;generalize hHc2:({Hh with log:=[]}:ae)=Hc at hcall hcg hbdc;have hHg:∀c,Hc.get c=if(∃j,j<i∧((bR ops.toList []).getD i 0).testBit j=false∧c=base+j)then none else(ey P F call ops base τ0 H0 i).2.get c:=λc=>by rw[←hHc2];exact hHg c
    have hHn:Hc.next=(ey P F call ops base τ0 H0 i).2.next:=by rw[←hHc2];exact hHn
    have hHh:∀c,Hh.get c=Hc.get c:=λc=>by rw[←hHc2];rfl
    have htouch:∀c,cK (fS P F call ops base τ0 H0 i) c=true↔((c∈H1.log∧(Hc.get c).isSome=true)∨((ey P F call ops base τ0 H0 i).2.next≤c∧c<H1.next)):=λc=>by rw[←e3];simp[cK,hHh]
    have hKn:K.next=(ey P F call ops base τ0 H0 i).2.next:=by
     rw[hn,Jp run i W4,Ga,o8 (p:=λj=>gZ (fS P F call ops base τ0 H0 j)) hi nx.not];intro j hj hne hcj;cases hx:fS P F call ops base τ0 H0 j with
     |none=>rw[hx]at hcj;cases hcj
     |some x=>
      rw[hx]at hcj;refine⟨λhl=>?_,λhl=>?_⟩
      ·rcases run.free i j x _ hl hi hx e3.symm with h6|h6
       ·exact nx.before h6
       ·have:=(eD h6).cc hcj;cases this
      ·rcases run.free j i _ x hl hj e3.symm hx with h6|h6
       ·exact nx.behind hj h6
       ·have:=(eD h6).cc rfl;have h7:x.isCall=true:=hcj;rw[h7]at this;cases this
    have hsub:∀c x,Hc.get c=some x→K.get c=some x:=λc x hx=>by
     rw[hHg]at hx;split at hx
     ·cases hx
     ·rename_i hnh;rw[hK,Kt run rf nx ?_]
      ·exact hx
      ·intro j hj hne ht;obtain⟨y,hy,hyt⟩:=ht;refine⟨λhl=>?_,λhl=>?_⟩
       ·cases hbit:((bR ops.toList []).getD i 0).testBit j with
        |true=>rfl
        |false=>
         exfalso;rcases run.free i j y _ hl hi hy e3.symm with h6|h6
         ·rw[hbit]at h6;cases h6
         ·have fr:=eD h6;rcases hyt with t|t|⟨t3,_,_⟩
          ·exact fr.wc rfl c t
          ·exact hnh ⟨j,hl,hbit,((rf.chg j hj).made y hy).1 c t⟩
          ·have:=fr.cc t3;cases this
       ·rcases later run rf hl hj e3.symm hy ⟨y,hy,hyt⟩ hx with h6|⟨fr,h6|⟨_,h6⟩⟩
        ·exact h6
        ·exact absurd h6 (fr.cw rfl c)
        ·exact h6.elim
    have hnK:Hc.next=K.next:=by rw[hHn,hKn]
    have hWc:=hW.part hsub (by rw[hnK];exact Vo _);rw[g1];refine(hs.ok _ _ _ _ _ hcall w (σ.part K Hc) vs hWc ⟨g2.1,λq x u hx hu=>by rw[vZ hsub];exact aU.sig (σ:=σ) (σ':=σ.part K Hc) rfl (g2.2 q x u hx hu)⟩).mono ?_;rintro e w' ⟨v',σ',rfl,k1,k2,k3,k4⟩;have hK1:=hcg.next;obtain⟨K',hK'n,hK'g⟩:∃K':ae,K'.next=H1.next∧∀c,K'.get c=if cK (fS P F call ops base τ0 H0 i) c=true then H1.get c else K.get c:=by
     refine⟨{Fs H1 (H1.log.filter (λc=>(Hc.get c).isSome)++List.range' K.next (H1.next-K.next)) K with next:=H1.next},rfl,λc=>?_⟩;show(Fs H1 _ K).get c=_;rw[HK];have:c∈(H1.log.filter (λc=>(Hc.get c).isSome)++List.range' K.next (H1.next-K.next))↔cK (fS P F call ops base τ0 H0 i) c=true:=by
      rw[htouch,VC,WM,List.mem_range'_1,hKn];constructor
      ·rintro(h6|h6)
       ·exact .inl h6
       ·exact .inr W4
      ·rintro(h6|h6)
       ·exact .inl h6
       ·exact .inr W4
     by_cases ht:cK (fS P F call ops base τ0 H0 i) c=true
     ·rw[if_pos (this.2 ht),if_pos ht]
     ·rw[if_neg (λh6=>ht (this.1 h6)),if_neg ht]
    have hbd1:Bd H1:=hcg.bd hbdc;have hform:∀c,K'.get c=if Hc.get c=none∧c<K.next then K.get c else H1.get c:=λc=>by
     rw[hK'g];by_cases ht:cK (fS P F call ops base τ0 H0 i) c=true
     ·rw[if_pos ht,if_neg];rintro⟨h6,h7⟩;rcases(htouch c).1 ht with⟨_,h8⟩|⟨h8,_⟩
      ·rw[h6]at h8;cases h8
      ·omega
     ·rw[if_neg ht];split
      ·rfl
      ·rename_i hnn;cases hg:Hc.get c with
       |some x=>
        have hcl:c∉H1.log:=λh6=>ht ((htouch c).2 (.inl ⟨h6,by rw[hg];rfl⟩))
        have hcn:c<Hc.next:=by
         rcases Vt c Hc.next with h6|h6
         ·exact h6
         ·rw[hbdc c h6]at hg;cases hg
        rw[hcg.keep c hcn hcl,hg];exact hsub c x hg
       |none=>
        have hcn:K.next≤c:=by
         rcases Vt c K.next with h6|h6
         ·exact absurd ⟨hg,h6⟩ hnn
         ·exact h6
        have hc1:H1.next≤c:=by
         rcases Vt c H1.next with h6|h6
         ·exact absurd ((htouch c).2 (.inr ⟨by rw[←hKn];exact hcn,h6⟩)) ht
         ·exact h6
        rw[hbd1 c hc1];cases hg2:K.get c with
        |none=>rfl
        |some x=>obtain⟨pl,_,_,h6,_⟩:=hW.live c x hg2;have:=hW.named c pl h6;omega
    obtain⟨z1,z2,z3⟩:=hW.whole hsub hnK k2 k3 hcg.dom hform (by rw[hK'n];exact Vo _);obtain⟨t1,t2⟩:=CN run rf hst nx ho (v:=v) (v':=v') (w':=w') (σ':=⟨σ'.map,σ.fr⟩) (T':=aJ ⟨σ'.map,σ.fr⟩ K') e1.symm (by rw[z3];exact aU.sig (σ:=σ') (σ':=⟨σ'.map,σ.fr⟩) rfl k1) hsz hrep (λx u hxu=>hxu.mono z2);refine(⟨⟨σ'.map,σ.fr⟩,K',z1,λc=>?_,?_,t1,by cases o.dst<;>exact hdf,t2,hE0.trans z2,λc pl hc=>?_,hfresh (λc pl hc=>?_)⟩:SY P F call ops base τ0 H0 w0 σ0 (iS L i) (a.put o.dst v') w')
    ·rw[hK'g];cases ht:cK (fS P F call ops base τ0 H0 i) c with
     |true=>
      have hnhid:¬ ∃j,j<i∧((bR ops.toList []).getD i 0).testBit j=false∧c=base+j:=by
       intro hh;rcases(htouch c).1 ht with⟨_,h8⟩|⟨h8,_⟩
       ·rw[hHg,if_pos hh]at h8;cases h8
       ·obtain⟨j,hj,_,rfl⟩:=hh;have:=rf.le i W4;omega
      rw[if_pos rfl,HM nx ht,←e2]
      ·show H1.get c=(iB _ _ _ _ _).get c;rw[lM,if_neg hnhid]
      ·intro j hj hne hjt hl;obtain⟨y,hy,hyt⟩:=hjt;rcases run.free j i _ y hl hj e3.symm hy with h6|h6
       ·exact h6
       ·exfalso;have fr:=eD h6;rcases hyt with t|t|⟨t3,_,_⟩
        ·exact fr.cw rfl c t
        ·have hcj:=((rf.chg j hj).made y hy).1 c t;rcases(htouch c).1 ht with⟨_,h8⟩|⟨h8,_⟩
         ·rw[hHg,if_neg hnhid,hcj,rf.fresh i j W4 hj]at h8;cases h8
         ·have:=rf.le i W4;omega
        ·have h7:=fr.cc rfl;rw[t3]at h7;cases h7
     |false=>rw[if_neg W7,yV ht,hK]
    ·rw[hK'n];have hcb:gZ (fS P F call ops base τ0 H0 i)=true:=by rw[←e3];rfl
     have hl:cu (λj=>iS L i j&&gZ (fS P F call ops base τ0 H0 j)) ops.size=some i:=yU (p:=λj=>gZ (fS P F call ops base τ0 H0 j)) hi nx.not hcb (λj hj hne hcj hl=>by
      cases hx:fS P F call ops base τ0 H0 j with
      |none=>rw[hx]at hcj;cases hcj
      |some x=>
       rw[hx]at hcj;rcases run.free j i _ x hl hj e3.symm hx with h6|h6
       ·exact nx.behind hj h6
       ·have:=(eD h6).cc rfl;have h7:x.isCall=true:=hcj;rw[h7]at this;cases this)
     unfold Ga;rw[hl];simp only[];rw[←e2];exact(gE _ _ _ _ _).1.symm
    ·rcases k4 c pl hc with h6|h6
     ·exact hnm c pl h6
     ·exact .inr (by have:=rf.le i W4;omega)
    ·rcases k4 c pl hc with h6|h6
     ·exact .inl h6
     ·exact .inr (.inr W4)
   ·cases hstep
  ·cases hstep
 ·rename_i hwant;rw[←hwt]at hwant;rw[if_neg (by rw[iQ htm hwant];simp)];simp only[Vz,Prod.mk.injEq]at hstep;obtain⟨e1,e2,e3⟩:=hstep;obtain⟨t1,t2⟩:=CN run rf hst nx ho e1.symm lK hsz hrep (λx u hxu=>hxu);have ht:∀c,cK (fS P F call ops base τ0 H0 i) c=false:=λc=>by rw[←e3];rfl
  refine⟨σ,K,hW,λc=>by rw[yV (ht c),hK],?_,t1,by cases o.dst<;>exact hdf,t2,hE0,hnm,hfresh (λc pl hc=>.inl hc)⟩;rw[hn];have:gZ (fS P F call ops base τ0 H0 i)=false:=by rw[←e3];rfl
  have hl:cu (λj=>iS L i j&&gZ (fS P F call ops base τ0 H0 j)) ops.size=cu (λj=>L j&&gZ (fS P F call ops base τ0 H0 j)) ops.size:=mH (p:=λj=>gZ (fS P F call ops base τ0 H0 j)) this;unfold Ga;rw[hl]
 ·cases hstep
end
end
section
def we(ops:Array Oper):Prop:=∀(i:Nat) (o:Oper),ops[i]? =some o→∀e∈o.after.toList,Region.binds .any e=true→e.on<i
def kp:Code→Prop
 |.region _ ops draw=>draw=true→mI ops∧we ops
 |.seq a b=>kp a∧kp b
 |.cond _ a b=>kp a∧kp b
 |.block _ b=>kp b
 |.loop b=>kp b
 |_=>True
section
variable {P:Program} {F:TypeId→Option (List TypeId)} {call:FuncId→List AV→ae→Option (AV×ae)} {ops:Array Oper} {base:Nat} {τ0:List AV} {H0:ae}
theorem mJ(hs:ee P call){before:List Nat}:∀(l:List Nat) (τ τ':List AV) (H K:ae) (rs rs':List r6),ed P F call ops base before l τ H rs=some (τ',K,rs')→H.next≤K.next
 |[],τ,τ',H,K,rs,rs',h=>by cases h;exact Vo _
 | i::l,τ,τ',H,K,rs,rs',h=>by
  have key:∀{mask τ1 H1 r},bz P F call ops base i mask τ H=some (τ1,H1,r)→H.next≤H1.next:=λ{mask τ1 H1 r} hd=>by
   unfold bz at hd;split at hd
   ·cases hd
   ·split at hd
    ·split at hd
     ·rename_i hop;cases hd;have:=CG hop;exact Nat.le_of_eq this.symm
     ·split at hd
      ·rename_i hcall;cases hd;have:=hs.next _ _ _ _ _ hcall;show H.next≤(iB _ _ _ _ _).next
       rw[(gE _ _ _ _ _).1];have h2:=(fH base mask i H).1;simp only[]at this;omega
      ·cases hd
     ·cases hd
    ·cases hd;exact Vo _
    ·cases hd
  unfold ed at h;split at h
  ·rename_i hd;exact VG (key hd) (mJ hs l _ _ _ _ _ _ h)
  ·rename_i hd;split at h
   ·exact VG (key hd) (mJ hs l _ _ _ _ _ _ h)
   ·cases h
  ·cases h
def cnt(L:Nat→Bool):Nat→Nat
 |0=>0
 |k+1=>cnt L k+(if L k then 0 else 1)
theorem HN{L:Nat→Bool}:∀{n:Nat},cnt L n=0→∀i,i<n→L i=true
 | n+1,h,i,hi=>by
  unfold cnt at h;rcases Ww (Nat.le_of_lt_succ hi)with rfl|hlt
  ·cases hL:L i with
   |true=>rfl
   |false=>rw[hL]at h;simp at h
  ·exact HN W4 i hlt
theorem Ft{L M:Nat→Bool}:∀{n:Nat},(∀i,i<n→L i=M i)→cnt L n=cnt M n
 |0,_=>rfl
 |n+1,h=>by rw[cnt,cnt,Ft λi hi=>h i W4,h n W4]
theorem Kv{L:Nat→Bool}{i:Nat}(hL:L i=false):∀{n:Nat},i<n→cnt (iS L i) n+1=cnt L n
 | n+1,hi=>by
  unfold cnt;rcases Ww (Nat.le_of_lt_succ hi)with rfl|hlt
  ·rw[Ft (M:=L) λj hj=>by simp[iS,show¬j=i by omega]];simp[iS,hL]
  ·have:=Kv hL hlt;have e:iS L i n=L n:=by simp[iS,show¬n=i by omega]
   rw[e];omega
theorem Fu:∀n,cnt (λ_=>false) n=n
 |0=>rfl
 |n+1=>by simp[cnt,Fu n]
theorem Fv{L:Nat→Bool}:∀n,(∀i,i<n→L i=true)∨∃i,i<n∧L i=false∧∀j,j<i→L j=true
 |0=>.inl λi hi=>by omega
 | n+1=>by
  rcases Fv (L:=L) n with h|⟨i,h1,h2,h3⟩
  ·by_cases hL:L n=true
   ·left;intro i hi;rcases Ww (Nat.le_of_lt_succ hi)with rfl|hlt
    ·exact hL
    ·exact h i hlt
   ·exact .inr ⟨n,W4,by simpa using hL,h⟩
  ·exact .inr ⟨i,W4,h2,h3⟩
theorem yW{l:Array Bool}{i:Nat}(hi:i<l.size):l.getD i true=l.getD i false:=by simp[Array.getD,hi]
theorem Lv(fit:Fit P F)(hs:ee P call)(hch:∀f args H v H',Bd H→call f args H=some (v,H')→AO H H')(run:lN P F call ops base τ0 H0)(rf:dg P F call ops base τ0 H0)(hst:mI ops)(hed:we ops)(hb:base+ops.size=H0.next)
  {w0:World} {σ0:bq} {Q:Exit→Act→World→Prop} (hQ:∀a w,SY P F call ops base τ0 H0 w0 σ0 (λi=>decide (i<ops.size)) a w→Q .normal a w) :
  ∀(fuel:Nat) (listed:Array Bool) (a:Act) (w:World),listed.size=ops.size→F9 ops (λi=>listed.getD i false)→cnt (λi=>listed.getD i false) ops.size≤fuel→
   SY P F call ops base τ0 H0 w0 σ0 (λi=>listed.getD i false) a w→wpAny P .any ops Q fuel listed a w:=by
 intro fuel
 induction fuel with
 |zero=>
  intro listed a w hsz hcl hf hI;have hall:=HN (by omega:cnt (λi=>listed.getD i false) ops.size=0);unfold wpAny;refine⟨?_,?_⟩
  ·unfold Region.ready;rw[List.filter_eq_nil_iff];intro i hi;rw[Wl]at hi;have:=hall i hi;rw[yW W4,this];simp
  ·refine hQ a w ?_;have e:(λi=>listed.getD i false)=λi=>decide (i<ops.size):=by
    funext i;by_cases hi:i<ops.size
    ·rw[hall i hi];simp[hi]
    ·simp[Array.getD,hsz,hi]
   rw[←e];exact hI
 |succ fuel ih=>
  intro listed a w hsz hcl hf hI;unfold wpAny;refine⟨λhr=>?_,λi hi=>?_⟩
  ·rcases Fv (L:=λi=>listed.getD i false) ops.size with hall|⟨i,h1,h2,h3⟩
   ·refine hQ a w ?_;have e:(λi=>listed.getD i false)=λi=>decide (i<ops.size):=by
     funext i;by_cases hi:i<ops.size
     ·rw[hall i hi];simp[hi]
     ·simp[Array.getD,hsz,hi]
    rw[←e];exact hI
   ·exfalso;unfold Region.ready at hr;rw[List.filter_eq_nil_iff]at hr;have ho:ops[i]? =some ops[i]:=VP h1;refine hr i (by rw[Wl];exact h1) ?_;rw[yW W4,ho];rw[h2];simp only[Bool.not_false,Bool.true_and,VO,W2];rw[Array.all_eq_true_iff_forall_mem];intro e he;cases hbn:Region.binds .any e with
    |false=>rfl
    |true=>have:=h3 e.on (hed i _ ho e (by rw[Array.mem_toList_iff];exact he) hbn);rw[this];rfl
  ·unfold Region.ready at hi;rw[WM,Wl]at hi;obtain⟨hi1,hi2⟩:=hi;obtain⟨o,ho⟩:∃o,ops[i]? =some o:=⟨_,VP hi1⟩;rw[VS,ho]at hi2;obtain⟨hi2,hi3⟩:=hi2;have hnot:listed.getD i false=false:=by rw[←yW W4];simpa using hi2
   simp only[VO,W2]at hi3;rw[Array.all_eq_true_iff_forall_mem]at hi3;have nx:Next ops (λi=>listed.getD i false) i:=⟨hi1,hnot,hcl,λo' ho' e he hbn=>by
    rw[ho]at ho';cases ho';have:=hi3 e (by rw[←Array.mem_toList_iff];exact he);rw[hbn]at this;simpa using this⟩
   have eL:(λj=>(listed.setIfInBounds i true).getD j false)=iS (λj=>listed.getD j false) i:=by
    funext j;unfold iS;by_cases hj:j=i
    ·subst hj;rw[if_pos rfl];simp[Array.getD,show j<listed.size by omega]
    ·rw[if_neg hj];by_cases hjl:j<listed.size
     ·simp[Array.getD,hjl,show¬i=j by omega]
     ·simp[Array.getD,hjl]
   refine wpOp_mono (λa' w' hI'=>?_) (MG fit hs hch run rf hst hb nx hI);refine ih _ a' w' (by simpa using hsz) ?_ ?_ (by rw[eL];exact hI')
   ·rw[eL];intro j oj hoj hLj e he hbn;unfold iS at hLj ⊢;split
    ·rfl
    ·split at hLj
     ·rename_i _ hji;subst hji;exact nx.edges oj hoj e he hbn
     ·exact hcl j oj hoj hLj e he hbn
   ·rw[eL];have:=Kv (L:=λj=>listed.getD j false) hnot hi1;omega
theorem CO(fit:Fit P F)(hs:ee P call)(hch:∀f args H v H',Bd H→call f args H=some (v,H')→AO H H')(hst:mI ops)(hed:we ops){τ τ':List AV}{H H':ae}(h:dB P F call ops true τ H=some (τ',H')):
  H.next≤H'.next∧∀(id:Nat) (w:World) (σ:bq) (a:Act),aX w σ H→cv w σ (aJ σ H) τ a→∀Q:Exit→Act→World→Prop,(∀a' w',r9 w σ H τ' H' a' w'→Q .normal a' w')→(Code.region id ops true).wp P Q a w:=by
 simp only[dB,if_true]at h;split at h
 ·rename_i τq K rs hd;cases h;refine⟨VG (VX _ _) (mJ hs _ _ _ _ _ _ _ hd),λid w σ a hW hτ Q hQ=>?_⟩;have hbd:Bd H:=λb hb=>by
   cases hg:H.get b with
   |none=>rfl
   |some x=>obtain⟨pl,_,_,h1,_⟩:=hW.live b x hg;have:=hW.named b pl h1;omega
  have hn:H.next+ops.size=({H with next:=H.next+ops.size}:ae).next:=rfl
  have hg0:∀b,({H with next:=H.next+ops.size}:ae).get b=H.get b:=λ_=>rfl
  have hW0:aX w σ {H with next:=H.next+ops.size}:=hW.congr hg0 (VX _ _);have ho0:aJ σ {H with next:=H.next+ops.size}=aJ σ H:=aJ.congr hg0;generalize hH0:({H with next:=H.next+ops.size}:ae)=H0 at hd hn hg0 hW0 ho0;have hbd0:Bd H0:=λb hb=>by rw[hg0];exact hbd b W4
  rw[List.range_eq_range']at hd;obtain⟨a1,a2,a3⟩:=MC (P:=P) (F:=F) (call:=call) (ops:=ops) (base:=H.next) (τ0:=τ) (H0:=H0) ops.size 0 [] rs τ' K hd (λj x hj=>by omega);simp only[Wj]at a1 a2 a3;have run:lN P F call ops H.next τ H0:=⟨λi hi=>a1 i (V1 _) hi,λi j x r hji hi hx hr=>a2 i j x r (V1 _) hi hji hx hr⟩;have rf:=Lu hch run hbd0 hn (λj hj=>by rw[hg0];exact hbd _ (VX _ _));have hnone:∀(p:Nat→Bool) n,cu (λj=>false&&p j) n=none:=λp n=>by rw[sM (k:=0) (V1 _) (λi _ _=>by simp)];rfl
  have hall:∀(p:Nat→Bool) n,cu (λj=>decide (j<n)&&p j) n=cu p n:=λp n=>ko λi hi=>by simp[hi]
  refine wp_region_any fit.order (Lv (w0:=w) (σ0:=σ) fit hs hch run rf hst hed hn ?_ ops.size _ a _ W7 ?_ ?_ ?_)
  ·intro a' w' hI;obtain⟨σ',K',k1,k2,k3,k4,k5,k6,k7,k8,_⟩:=hI;have eS:(ey P F call ops H.next τ H0 ops.size)=(τ',K):=a3.symm;have hget':∀c,K'.get c=K.get c:=λc=>by have:=Jo run rf c ops.size (Vo _);rw[eS]at this;rw[k2,hget,hall];exact this.symm
   have hnx:K'.next=K.next:=by have:=Jp run ops.size (Vo _);rw[eS]at this;rw[k3,Ga,hall];exact this.symm
   have htg:∀t,o9 P F call ops H.next τ H0 (λi=>decide (i<ops.size)) t=τ'[t]? :=λt=>by have:=Jn run t ops.size (Vo _);rw[eS]at this;rw[o9,hall];exact this.symm
   have hlen:τ'.length=τ.length:=by have:=rf.len ops.size (Vo _);rw[eS]at this;exact this
   have hoK:aJ σ' ({K with log:=rs.flatMap (·.writes)++K.log}:ae)=aJ σ' K':=aJ.congr λb=>(hget' b).symm
   refine hQ a' w' ⟨σ',⟨⟨by simp[hlen,k4],λt x u hx hu=>?_⟩,k5⟩,k1.congr (λb=>(hget' b).symm) (by rw[hnx];exact Vo _),by rw[hoK,←ho0];exact k7,λc pl hc=>k8 c pl hc⟩;rw[hoK];exact k6 t x u (by rw[htg];exact hx) (by rw[←VM];exact hu)
  ·intro i o ho hL;simp[Array.getD]at hL
  ·have:(λi=>(Array.replicate ops.size false).getD i false)=λ_=>false:=by funext i;simp[Array.getD]
   rw[this,Fu];exact Vo _
  ·have:(λi=>(Array.replicate ops.size false).getD i false)=λ_=>false:=by funext i;simp[Array.getD]
   rw[this];refine⟨σ,H0,hW0.same rfl rfl rfl rfl,λc=>by rw[hget,hnone],by rw[Ga,hnone],by have:=hτ.1.1;simpa using this.symm,hτ.2,λt x u hx hu=>?_,ew.same σ _ rfl rfl rfl rfl,λc pl hc=>.inl hc,λi hi _=>?_⟩
   ·rw[o9,hnone]at hx;have:=hτ.1.2 t x u hx (by rw[VM];exact hu);rw[←ho0]at this;have e:ew w σ (aJ σ H0) {w with drawn:=w.drawn+1} σ (aJ σ H0):=ew.same σ _ rfl rfl rfl rfl;exact this.mono e
   ·cases hg:σ (H.next+i)with
    |none=>rfl
    |some pl=>have:=hW.named _ pl hg;omega
 ·cases h
def kT(P:Program)(n:Nat)(c:Code)(τ:List AV)(H:ae)(e:Ex)(τ':List AV)(H':ae):Prop:=
 H.next≤H'.next∧∀(w:World) (σ:bq) (a:Act),aX w σ H→cv w σ (aJ σ H) τ a→∀Q:Exit→Act→World→Prop,(∀a' w',r9 w σ H τ' H' a' w'→Q (HC e) a' w')→Code.rounds P c Q n a w
end
end
section
open Go.RowKit
def Kw(ops:Array Oper):Bool:=
 let M:=bR ops.toList []
 let N:=ops.toList.map λo=>(o.dst,ik ops o)
 (List.range ops.size).all λi=>(List.range i).all λj=>
  (M.getD i 0).testBit j ||
  (match N[i]?,N[j]? with
   |some (di,ni),some (dj,nj)=>(match dj with|some t=>!ni.contains t|none=>true)&&(match di with|some t=>!nj.contains t|none=>true)
   |_,_=>true)
def Gb(ops:Array Oper):Bool:=(List.range ops.size).all λi=>match ops[i]? with
 |some o=>o.after.toList.all λe=>!Region.binds .any e||decide (e.on<i)
 |none=>true
def jb:Code→Bool
 |.region _ ops draw=>!draw||(Kw ops&&Gb ops)
 |.seq a b=>jb a&&jb b
 |.cond _ a b=>jb a&&jb b
 |.block _ b=>jb b
 |.loop b=>jb b
 |_=>true
theorem HO{ops:Array Oper}(h:Kw ops=true):mI ops:=by
 intro i j oi oj hji hoi hoj;have hi:i<ops.size:=(WA.1 hoi).1;unfold Kw at h;simp only[VE,Wl]at h;have h1:=h i hi j hji;have ei:(ops.toList.map λo=>(o.dst,ik ops o))[i]? =some (oi.dst,ik ops oi):=by rw[VD,VM,hoi];rfl
 have ej:(ops.toList.map λo=>(o.dst,ik ops o))[j]? =some (oj.dst,ik ops oj):=by rw[VD,VM,hoj];rfl
 rw[ei,ej]at h1;simp only[WW,VS]at h1;rcases h1 with h1|⟨h1,h2⟩
 ·exact .inl h1
 ·right;refine⟨λt ht=>?_,λt ht=>?_⟩
  ·rw[ht]at h1;simpa using h1
  ·rw[ht]at h2;simpa using h2
theorem Fw{ops:Array Oper}(h:Gb ops=true):we ops:=by intro i o ho e he hb;have hi:i<ops.size:=(WA.1 ho).1;unfold Gb at h;simp only[VE,Wl]at h;have h1:=h i hi;rw[ho]at h1;simp only[VE]at h1;have:=h1 e he;rw[hb]at this;simpa using this
theorem gF:∀(c:Code),jb c=true→kp c
 | .region _ ops draw,h=>λhd=>by subst hd;simp only[jb,Bool.not_true,Bool.false_or,VS]at h;exact⟨HO h.1,Fw h.2⟩
 |.seq a b,h=>by simp only[jb,VS]at h;exact⟨gF a h.1,gF b h.2⟩
 |.cond _ a b,h=>by simp only[jb,VS]at h;exact⟨gF a h.1,gF b h.2⟩
 |.block _ b,h=>gF b h
 |.loop b,h=>gF b h
 |.skip,_=>trivial
 |.rangeFunc ..,_=>trivial
 |.exit _,_=>trivial
 |.scope _,_=>trivial
 |.label _,_=>trivial
 |.goto _,_=>trivial
 |.ret,_=>trivial
 |.refuse _,_=>trivial
def HP (fn : Func) : Bool := (fn.name != "runtime.NumGoroutine") && (match fn.body with | some c => jb c | none => true)
theorem Qr {P : Program} (h : P.funcs.toList.all HP = true) : (∀ (g : Nat) (fn : Func), P.funcs[g]? = some fn → fn.name ≠ "runtime.NumGoroutine") ∧ ∀ (g : Nat) (fn : Func) (c : Code), P.funcs[g]? = some fn → fn.body = some c → kp c := by
 rw[VE]at h;have key:∀(g:Nat) (fn:Func),P.funcs[g]? =some fn→HP fn=true:=λg fn hg=>h fn (by rw[Array.mem_toList_iff];exact Array.mem_of_getElem? hg)
 refine⟨λg fn hg=>?_,λg fn c hg hc=>?_⟩
 ·have:=key g fn hg;simp only[HP,VS]at this;simpa using this.1
 ·have:=key g fn hg;simp only[HP,VS,hc]at this;exact gF c this.2
end
section
open Go.RowKit
inductive aY:AV→Prop where
 |int (k:IntKind) (n:Int):aY (.int k n)
 |bool (b:Bool):aY (.bool b)
 |str (s:List UInt8):aY (.str s)
 |nilp:aY .nilp
 |nils:aY .nils
 |emp:aY .emp
 |nilf:aY .nilf
 |junk:aY .junk
 |lst (rows:List (List AV)) (h:∀(i:Nat) (r:List AV) (j:Nat) (a:AV),rows[i]? =some r→r[j]? =some a→aY a):aY (.lst rows)
 |agg (cs:List AV) (h:∀(i:Nat) (a:AV),cs[i]? =some a→aY a):aY (.agg cs)
 |tup (cs:List AV) (h:∀(i:Nat) (a:AV),cs[i]? =some a→aY a):aY (.tup cs)
 |fn (f:FuncId) (cs:List AV) (h:∀(i:Nat) (a:AV),cs[i]? =some a→aY a):aY (.fn f cs)
section
variable {P:Program} {F:TypeId→Option (List TypeId)} {w w':World} {σ σ':bq} {T T':Nat→Prop}
theorem sI.shrink{rows:List (List AV)}{b o sz:Nat}(h:sI w T rows b o sz)(hT:∀c,T' c→T c):sI w T' rows b o sz:=⟨λht=>h.out (hT b ht),h.even,h.cell,h.pos,h.ne⟩
theorem aY.rep{a:AV}(hp:aY a):∀{v:Value},aU w σ T a v→(∀c,T' c→T c)→aU w σ' T' a v:=by
 induction hp with
 |int k n=>intro v h _;cases h;exact .int k n
 |bool b=>intro v h _;cases h;exact .bool b
 |str s=>intro v h _;cases h;exact .str _
 |nilp=>intro v h _;cases h;exact .nilp
 |nils=>intro v h _;cases h;exact .nils
 |emp=>intro v h _;cases h;exact .emp _
 |nilf=>intro v h _;cases h;exact .nilf
 |junk=>intro v h _;exact .junk v
 |lst rows h ih=>
  intro v hr hT;cases hr with
  |lst0 a cap hm=>exact .lst0 a cap hm
  |lst _ b o sz cap hl hn hm hc=>exact .lst rows b o sz cap (hl.shrink hT) hn hm λi r j a u h1 h2 h3=>ih i r j a h1 h2 (hc i r j a u h1 h2 h3) hT
 |agg cs h ih=>
  intro v hr hT;cases hr with
  |agg _ vs hl hc=>exact .agg cs vs hl λi a v h1 h2=>ih i a h1 (hc i a v h1 h2) hT
 |tup cs h ih=>
  intro v hr hT;cases hr with
  |tup _ vs hl hc=>exact .tup cs vs hl λi a v h1 h2=>ih i a h1 (hc i a v h1 h2) hT
 |fn f cs h ih=>
  intro v hr hT;cases hr with
  |fn _ _ vs hl hc=>exact .fn f cs vs hl λi a v h1 h2=>ih i a h1 (hc i a v h1 h2) hT
theorem cT(b:Nat):ae.empty.get b=none:=Tr.get_leaf b
def Kx(P:Program)(f:FuncId)(args:List AV)(v:AV):Prop:=
 ∀(w:World) (σ:bq) (vs:List Value),aX w σ ae.empty→eu w σ (aJ σ ae.empty) args vs→Calls P f vs.toArray w λe w'=>
  ∃v' σ' H',e=.returned v'∧aU w' σ' (aJ σ' H') v v'∧ew w σ (aJ σ ae.empty) w' σ' (aJ σ' H')
theorem S5{f:FuncId}{args:List AV}{v:AV}(hv:aY v)(ha:∀(i:Nat) (a:AV),args[i]? =some a→aY a)(h:Kx P f args v)(H:ae):o6 P f args H v H:=by
 intro w σ vs hW hvs;have hown:aJ ⟨λ_=>none,aJ σ H⟩ ae.empty=aJ σ H:=by
  funext c;apply propext;constructor
  ·rintro(h1|⟨b,x,pl,h1,_,_⟩)
   ·exact h1
   ·rw[cT]at h1;cases h1
  ·exact .inl
 have hlt:∀c,aJ σ H c→c<w.heap.size:=λc hc=>by
  rcases hc with hc|⟨b,x,pl,h1,h2,rfl⟩
  ·exact(hW.apart c hc).1
  ·exact hW.lt b pl h2
 have hWe:aX w ⟨λ_=>none,aJ σ H⟩ ae.empty:=⟨λb pl hb=>(by cases hb),λb pl hb=>(by cases hb),λb x hb=>(by rw[cT]at hb;cases hb),
  λc hc=>⟨hlt c hc,λ⟨b,x,pl,h1,_,_⟩=>(by rw[cT]at h1;cases h1)⟩,λb b' x x' pl pl' hb=>(by rw[cT]at hb;cases hb),by rw[hown];exact hW.glob⟩
 refine(h w _ vs hWe ⟨hvs.1,λi a u h1 h2=>(ha i a h1).rep (hvs.2 i a u h1 h2) (λc hc=>by rw[hown]at hc;exact hc)⟩).mono ?_;rintro e w' ⟨v',σ',H1,rfl,k1,k3⟩;have hE:ew w σ (aJ σ H) w' σ (aJ σ H):=
  ⟨k3.os,k3.tape,k3.output,k3.size,λc hc hT=>k3.keep c hc (by rw[hown];exact hT),k3.shape,λ_ _ h=>h,rfl,λc hc=>k3.frame c (.inl hc),λc hc=>.inl hc⟩
 refine⟨v',σ,rfl,hv.rep k1 (λc hc=>.inl (by rw[k3.eqfr];exact hc)),⟨hW.named,λb pl hb=>VK (hW.lt b pl hb) k3.size,λb x hb=>?_,λc hc=>⟨VK (hW.apart c hc).1 k3.size,(hW.apart c hc).2⟩,hW.inj,hW.glob.mono hE⟩,hE,λc pl hc=>.inl hc⟩;obtain⟨pl,cs,e,h1,h2⟩:=hW.live b x hb;exact⟨pl,cs,e,h1,h2.mono hE (k3.frame _ (.inr ⟨b,x,pl,hb,h1,rfl⟩))⟩
def Gc(P:Program)(c:Code)(Q:Ex→List AV→ae→Prop)(τ:List AV)(H:ae):Prop:=
 ∀(w:World) (σ:bq) (a:Act),aX w σ H→cv w σ (aJ σ H) τ a→∀Q':Exit→Act→World→Prop,
  (∀e τ' H' a' w',Q e τ' H'→H.next≤H'.next→r9 w σ H τ' H' a' w'→Q' (HC e) a' w')→c.wp P Q' a w
variable {c c1 c2:Code} {Q Q2:Ex→List AV→ae→Prop} {τ:List AV} {H:ae}
theorem Gc.of_ok{e:Ex}{τ':List AV}{H':ae}(h:cG P c τ H e τ' H')(hQ:Q e τ' H'):Gc P c Q τ H:=
 λw σ a hW hτ Q' hQ'=>h.2 w σ a hW hτ Q' λa' w' haf=>hQ' e τ' H' a' w' hQ h.1 haf
def Ex.then(next:List AV→ae→Prop)(Q:Ex→List AV→ae→Prop):Ex→List AV→ae→Prop
 |.normal,τ,H=>next τ H
 |e,τ,H=>Q e τ H
theorem Gc.cond{x:Operand}{t:Bool}(hx:j7 τ x=.bool t)(h:Gc P (if t then c1 else c2) Q τ H):Gc P (.cond x c1 c2) Q τ H:=by intro w σ a hW hτ Q' hQ';have hr:=hτ.eval hW.glob x;rw[hx]at hr;refine wp_cond (t:=t) ?_ (h w σ a hW hτ Q' hQ');generalize a.eval x=u at hr;cases hr;rfl
theorem Gc.exit{id:Nat}(h:Q (.exit id) τ H):Gc P (.exit id) Q τ H:=λw σ a hW hτ Q' hQ'=>wp_exit (hQ' (.exit id) τ H _ _ h (Vo _) (.refl hW hτ))
theorem Gc.ret(h:Q .ret τ H):Gc P .ret Q τ H:=λw σ a hW hτ Q' hQ'=>wp_ret (hQ' .ret τ H _ _ h (Vo _) (.refl hW hτ))
def Ex.inBlock(id:Nat)(Q:Ex→List AV→ae→Prop):Ex→List AV→ae→Prop
 |.exit id',τ,H=>if id'=id then Q .normal τ H else Q (.exit id') τ H
 |e,τ,H=>Q e τ H
theorem Gc.block{id:Nat}(h:Gc P c (Ex.inBlock id Q) τ H):Gc P (.block id c) Q τ H:=by
 intro w σ a hW hτ Q' hQ';refine wp_block (h w σ a hW hτ _ λe τ1 H1 a1 w1 hq hn haf=>?_);cases e with
 |normal=>exact hQ' _ _ _ _ _ hq hn haf
 |ret=>exact hQ' _ _ _ _ _ hq hn haf
 |exit id'=>
  simp only[Ex.inBlock]at hq;simp only[HC,Exit.inBlock];split
  ·rename_i he;rw[if_pos he]at hq;exact hQ' .normal _ _ _ _ hq hn haf
  ·rename_i he;rw[if_neg he]at hq;exact hQ' (.exit id') _ _ _ _ hq hn haf
theorem AP{Q':Exit→Act→World→Prop}:∀{n m:Nat} {a:Act} {w:World},n≤m→Code.rounds P c Q' n a w→Code.rounds P c Q' m a w
 |0,m,a,w,_,h=>h.elim
 | n+1,m,a,w,hm,h=>by
  obtain⟨k,rfl⟩:∃k,m=k+1:=⟨m-1,W4⟩;rw[rounds_succ]at h ⊢;refine wp_mono h λe a' w' he=>?_
  cases e with
  |normal=>exact AP W4 he
  |_=>exact he
theorem Gc.loop(I:Nat→List AV→ae→Prop)(hs:∀n τ H,I n τ H→Gc P c (Ex.then (λτ' H'=>∃m,m<n∧I m τ' H') Q) τ H)(n:Nat)(h0:I n τ H):Gc P (.loop c) Q τ H:=by
 have key:∀n τ H,I n τ H→∀(w:World) (σ:bq) (a:Act),aX w σ H→cv w σ (aJ σ H) τ a→∀Q':Exit→Act→World→Prop,
   (∀e τ' H' a' w',Q e τ' H'→H.next≤H'.next→r9 w σ H τ' H' a' w'→Q' (HC e) a' w')→Code.rounds P c Q' (n+1) a w:=by
  intro n
  induction n using Nat.strongRecOn with
  |_ n ih=>
   intro τ H hI w σ a hW hτ Q' hQ';rw[rounds_succ];refine hs n τ H hI w σ a hW hτ _ λe τ1 H1 a1 w1 hq hn haf=>?_
   cases e with
   |normal=>obtain⟨m,hm,hI1⟩:=hq;obtain⟨σ1,t1,r1,e1,m1⟩:=haf;exact AP W4 (ih m hm τ1 H1 hI1 w1 σ1 a1 r1 t1 Q' λe2 τ2 H2 a2 w2 q2 n2 haf2=>hQ' e2 τ2 H2 a2 w2 q2 (VG hn n2) (haf2.trans e1 m1 hn))
   |exit id=>exact hQ' _ _ _ _ _ hq hn haf
   |ret=>exact hQ' _ _ _ _ _ hq hn haf
 intro w σ a hW hτ Q' hQ';exact wp_loop_rounds (n+1) (key n τ H h0 w σ a hW hτ Q' hQ')
end
def Jq:FuncId→List AV→ae→Option (AV×ae):=λ_ _ _=>none
theorem wh(P:Program):ee P Jq:=⟨λ_ _ _ _ _ h=>(by cases h),λ_ _ _ _ _ h=>(by cases h),λ_ _ _ _ _ h=>(by cases h)⟩
theorem Gc.reg{P:Program}{F:TypeId→Option (List TypeId)}{call:FuncId→List AV→ae→Option (AV×ae)}(fit:Fit P F)(hs:ee P call){ops:Array Oper}{id:Nat}{Q:Ex→List AV→ae→Prop}{τ:List AV}{H:ae}{τ':List AV}{H':ae}(h:dB P F call ops false τ H=some (τ',H'))(hQ:Q .normal τ' H'):Gc P (.region id ops false) Q τ H:=
 .of_ok (fR fit hs h) hQ
theorem Gc.ops{P:Program}{F:TypeId→Option (List TypeId)}{call:FuncId→List AV→ae→Option (AV×ae)}(fit:Fit P F)(hs:ee P call){ops:Array Oper}{id:Nat}{Q:Ex→List AV→ae→Prop}{τ:List AV}{H:ae}{τ':List AV}{H':ae}(h:mC P F call ops H.next (List.range ops.size) τ {H with next:=H.next+ops.size}=some (τ',H'))(hQ:Q .normal τ' H'):Gc P (.region id ops false) Q τ H:=
 .of_ok (fR fit hs (by simp only[dB,VQ,if_false];exact h)) hQ
end
def gG(P:Program)(f:FuncId)(args:List AV)(v:AV):Prop:=(∀H,o6 P f args H v H)∧∃fn c,P.funcs[f]? =some fn∧fn.body=some c
theorem gG.of_v{P:Program}{f:FuncId}{args:List AV}{v:AV}{fn:Func}{c:Code}(hf:P.funcs[f]? =some fn)(hb:fn.body=some c)(hv:aY v)(ha:∀(i:Nat) (a:AV),args[i]? =some a→aY a)(h:Kx P f args v):gG P f args v:=
 ⟨λH=>S5 hv ha h H,fn,c,hf,hb⟩
def wi(f:AV→Option AV)(rows:List (List AV)):Option (List (List AV)):=cf (rows.map λr=>cf (r.map f))
def frz(K:ae):Nat→AV→Option AV
 |0,_=>none
 | d+1,a=>match a with
  | .sl b i n=>if n=0 then some (.lst [])else match K.get b with
   |some x=>if 0<x.size∧i+n≤x.rows.length then(wi (frz K d) ((x.rows.drop i).take n)).map .lst else none
   |none=>none
  |.nils=>some (.lst [])
  |.lst rows=>(wi (frz K d) rows).map .lst
  |.agg cs=>(cf (cs.map (frz K d))).map .agg
  |.tup cs=>(cf (cs.map (frz K d))).map .tup
  |.ptr ..=>none
  |.pptr ..=>none
  |.fn ..=>none
  |.mp ..=>none
  |.it ..=>none
  |a=>some a
theorem pb{f:AV→Option AV}{l m:List AV}(h:cf (l.map f)=some m):l.length=m.length∧∀(i:Nat) (y:AV),m[i]? =some y→∃x,l[i]? =some x∧f x=some y:=by
 obtain⟨h1,h2⟩:=iO _ _ h;refine⟨by simpa using h1,λi y hy=>?_⟩;have:=h2 i y hy;rw[VD]at this;cases hx:l[i]? with
 |none=>rw[hx]at this;cases this
 |some x=>rw[hx]at this;exact⟨x,rfl,by simpa using this⟩
theorem AQ{f:AV→Option AV}{l m:List (List AV)}(h:wi f l=some m):l.length=m.length∧∀(i:Nat) (r':List AV),m[i]? =some r'→∃r,l[i]? =some r∧r.length=r'.length∧∀(j:Nat) (y:AV),r'[j]? =some y→∃x,r[j]? =some x∧f x=some y:=by
 obtain⟨h1,h2⟩:=iO _ _ h;refine⟨by simpa using h1,λi r' hr'=>?_⟩;have:=h2 i r' hr';rw[VD]at this;cases hx:l[i]? with
 |none=>rw[hx]at this;cases this
 |some r=>rw[hx]at this;simp only[VO,Vz]at this;obtain⟨h3,h4⟩:=pb this;exact⟨r,rfl,h3,h4⟩
theorem wj{w:World}{σ:bq}{K:ae}(hW:aX w σ K):∀(d:Nat) (a a':AV) (v:Value),frz K d a=some a'→aU w σ (aJ σ K) a v→aU w σ (aJ σ ae.empty) a' v
 |0,a,a',v,h,_=>by cases h
 | d+1,a,a',v,h,hr=>by
  have hout:∀c,¬aJ σ K c→¬aJ σ ae.empty c:=λc hc ho=>by
   rcases ho with ho|⟨b,x,pl,h1,_,_⟩
   ·exact hc (.inl ho)
   ·rw[cT]at h1;cases h1
  cases a with
  |sl b i n=>
   simp only[frz]at h;obtain⟨pl,ad,cap,rfl,hs,hn,hm,ha⟩:=hr.sl_inv;split at h
   ·rename_i h0;cases h;rw[h0];exact .lst0 _ _ hm
   ·rename_i h0;split at h
    ·rename_i x hx;split at h
     ·rename_i hc;cases hf:wi (frz K d) ((x.rows.drop i).take n)with
      |none=>rw[hf]at h;cases h
      |some m=>
       rw[hf]at h;cases h;obtain⟨rfl,cs,ty,hcs,hroom⟩:=ha W4;obtain⟨pl',cs',e',g1,g2⟩:=hW.live b x hx;rw[hs]at g1;cases g1;replace g2:=g2.1 (hr.sl_ok hs);obtain⟨f1,f2⟩:=AQ hf;have hlen:m.length=n:=by rw[←f1];simp;omega
       have get:∀(q:Nat) (r:List AV),((x.rows.drop i).take n)[q]? =some r→q<n∧x.rows[i+q]? =some r:=λq r hq=>by have hq':=aA hq;rw[←f1]at hlen;rw[hlen]at hq';rw[VW hq',Wg]at hq;exact⟨hq',hq⟩
       have hnot:¬aJ σ ae.empty pl.block:=λho=>by
        rcases ho with ho|⟨b',x',pl'',h1,_,_⟩
        ·exact(hW.apart _ ho).2 ⟨b,x,pl,hx,hs,rfl⟩
        ·rw[cT]at h1;cases h1
       have:=aU.lst (w:=w) (σ:=σ) (T:=aJ σ ae.empty) m pl.block (pl.base+i*pl.size) pl.size cap
        ⟨hnot,λq r' hr'=>by
         obtain⟨r,k1,k2,_⟩:=f2 q r' hr';rw[←k2,g2.even _ r (get q r k1).2,g2.size],λq j hq hj=>by
         obtain⟨r,k1,k2,_⟩:=f2 q m[q] (Vn hq);have hrow:=g2.row (get q r k1).2;have hj':j<r.length:=by rw[g2.even _ r (get q r k1).2,←g2.size];exact hj
         obtain⟨u,hu,_⟩:=hrow j _ (Vn hj');rw[V6,←Wh]at hu;exact⟨u,hu⟩,by rw[g2.size];exact hc.1,W4⟩ W4 hm
        (λq r' j y u hr' hy hu=>by
         obtain⟨r,k1,k2,k3⟩:=f2 q r' hr';obtain⟨z,k4,k5⟩:=k3 j y hy;obtain⟨u',hu',hz⟩:=g2.row (get q r k1).2 j z k4;rw[V6,←Wh]at hu';rw[hu]at hu';cases hu';exact wj hW d z y u k5 hz)
       rw[hlen]at this;exact this
     ·cases h
    ·cases h
  |nils=>simp only[frz]at h;cases h;cases hr;exact .lst0 _ _ (by unfold maxLen;omega)
  |lst rows=>
   simp only[frz]at h;cases hf:wi (frz K d) rows with
   |none=>rw[hf]at h;cases h
   |some m=>
    rw[hf]at h;cases h;obtain⟨f1,f2⟩:=AQ hf;cases hr with
    |lst0 a cap hm=>
     have:m=[]:=by cases m with
      |nil=>rfl
      |cons x m=>simp at f1
     subst this;exact .lst0 a cap hm
    |lst _ b o sz cap hl hn hm hc=>
     have:=aU.lst (w:=w) (σ:=σ) (T:=aJ σ ae.empty) m b o sz cap
      ⟨hout b hl.out,λq r' hr'=>by
       obtain⟨r,k1,k2,_⟩:=f2 q r' hr';rw[←k2,hl.even q r k1],λq j hq hj=>hl.cell q j W4 hj,hl.pos,by rw[←f1];exact hl.ne⟩ W4 hm
      (λq r' j y u hr' hy hu=>by
       obtain⟨r,k1,k2,k3⟩:=f2 q r' hr';obtain⟨z,k4,k5⟩:=k3 j y hy;exact wj hW d z y u k5 (hc q r j z u k1 k4 hu))
     rw[←f1]at this;exact this
  |agg cs=>
   simp only[frz]at h;cases hf:cf (cs.map (frz K d))with
   |none=>rw[hf]at h;cases h
   |some m=>
    rw[hf]at h;cases h;obtain⟨f1,f2⟩:=pb hf;cases hr with
    |agg _ vs hl hc=>
     refine .agg m vs W4 λq y u hy hu=>?_
     obtain⟨x,k1,k2⟩:=f2 q y hy;exact wj hW d x y u k2 (hc q x u k1 hu)
  |tup cs=>
   simp only[frz]at h;cases hf:cf (cs.map (frz K d))with
   |none=>rw[hf]at h;cases h
   |some m=>
    rw[hf]at h;cases h;obtain⟨f1,f2⟩:=pb hf;cases hr with
    |tup _ vs hl hc=>
     refine .tup m vs W4 λq y u hy hu=>?_
     obtain⟨x,k1,k2⟩:=f2 q y hy;exact wj hW d x y u k2 (hc q x u k1 hu)
  |int k n=>simp only[frz]at h;cases h;cases hr;exact .int k n
  |bool b=>simp only[frz]at h;cases h;cases hr;exact .bool b
  |str s=>simp only[frz]at h;cases h;cases hr;exact .str _
  |nilp=>simp only[frz]at h;cases h;cases hr;exact .nilp
  |emp=>simp only[frz]at h;cases h;cases hr;exact .emp _
  |nilf=>simp only[frz]at h;cases h;cases hr;exact .nilf
  |junk=>simp only[frz]at h;cases h;exact .junk v
  |ptr b i off=>simp[frz]at h
  |pptr rows i off=>simp[frz]at h
  |fn f cs=>simp[frz]at h
  |mp b=>simp[frz]at h
  |it b=>simp[frz]at h
end Go.Proofs.YtenbpcngcicamaaGreatDoor.Am
