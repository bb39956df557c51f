/- A part of the proof; the statement is proved in the last part. -/
import Derived.Test.YtdnpdghlggbklaaGreatDoorQtb
set_option linter.unusedSimpArgs false
set_option linter.unusedVariables false
namespace Go.Proofs.YtdnpdghlggbklaaGreatDoor.Am
section
def bU:Op→List Operand
 |.move x|.assign x|.box _ x|.load _ x|.nilCheck x|.unOp _ _ x|.convert _ _ x|.fieldAddr _ x _|.field _ x _|.extract x _=>[x]
 |.pick c a b=>[c,a,b]
 |.build _ ps|.buildSlice _ _ ps=>ps.toList.map (·.2)
 |.store _ a v|.binOp _ _ a v _|.makeSlice _ a v|.indexAddr _ a v|.index _ a v=>[a,v]
 |.makeFunc _ _ c=>c.toList
 |.lookup _ m k _=>[m,k]
 |.mapUpdate _ m k x=>[m,k,x]
 |.range _ x|.next x _=>[x]
 |.slice _ x l h m=>x::(l.toList++h.toList++m.toList)
 |.call c=>(match c.callee with|.value f=>[f]|_=>[])++c.args.toList
 |_=>[]
section
variable {P:Program} {F:TypeId→Option (List TypeId)}
theorem Mz{ρ ρ2:Operand→AV}{l:List Operand}(h:∀x∈l,ρ x=ρ2 x):l.map ρ=l.map ρ2:=List.map_congr_left h
theorem G7{ρ ρ2:Operand→AV}{ps:List (Nat×Operand)}(h:∀x∈ps.map (·.2),ρ x=ρ2 x):(ps.map λp=>(p.1,ρ p.2))=ps.map λp=>(p.1,ρ2 p.2):=
 List.map_congr_left λp hp=>by rw[h p.2 (YH.2 ⟨p,hp,rfl⟩)]
theorem p8{ρ ρ2:Operand→AV}:∀{l:List Operand},(∀x∈l,ρ x=ρ2 x)→(l.flatMap λx=>aa (ρ x))=l.flatMap λx=>aa (ρ2 x)
 |[],_=>rfl
 |a::l,h=>by simp only[List.flatMap_cons];rw[h a ZM,p8 λx hx=>h x (by simp[hx])]
theorem MA{o:Op}{ρ ρ2:Operand→AV}(h:∀x∈bU o,ρ x=ρ2 x)(b:Nat)(H:ac):aM P F o ρ b H=aM P F o ρ2 b H∧aF o ρ=aF o ρ2∧aD o ρ=aD o ρ2:=by
 cases o with
 |build t ps=>refine⟨?_,rfl,rfl⟩;simp only[aM];rw[G7 h]
 |buildSlice t n ps=>refine⟨?_,rfl,rfl⟩;simp only[aM];rw[G7 h]
 |makeFunc fn first c=>refine⟨?_,rfl,rfl⟩;cases fn<;>simp only[aM];rw[Mz (l:=c.toList) h]
 |slice t x l hi m=>
  have hx:=h x (by simp[bU]);have hl:l.map ρ=l.map ρ2:=by cases l with
   |none=>rfl
   |some y=>simp[h y (by simp[bU])]
  have hh:hi.map ρ=hi.map ρ2:=by cases hi with
   |none=>rfl
   |some y=>simp[h y (by simp[bU])]
  have hm:m.map ρ=m.map ρ2:=by cases m with
   |none=>rfl
   |some y=>simp[h y (by simp[bU])]
  exact⟨by simp only[aM];rw[hx,hl,hh,hm],by simp only[aF];rw[hx],rfl⟩
 |call c=>
  have ha:c.args.toList.map ρ=c.args.toList.map ρ2:=Mz λx hx=>h x (by simp only[bU,Yg];exact .inr hx)
  have hm:∀x∈c.args.toList,ρ x=ρ2 x:=λx hx=>h x (by simp only[bU,Yg];exact .inr hx)
  have hr:aF (.call c) ρ=aF (.call c) ρ2:=by
   simp only[aF];split
   ·exact p8 hm
   ·exact p8 hm
   ·rfl
  have hk:aD (.call c) ρ=aD (.call c) ρ2:=by
   simp only[aD];split
   ·exact p8 λx hx=>hm x (List.mem_of_mem_take hx)
   ·exact p8 hm
   ·rfl
  refine⟨?_,hr,hk⟩;simp only[aM];split
  ·rw[ha]
  ·rename_i f hf;rw[h f (by simp only[bU,hf];simp),ha]
  ·rfl
 |store t a v=>refine⟨by simp only[aM];rw[h a (by simp[bU]),h v (by simp[bU])],by simp only[aF];rw[h a (by simp[bU])],by simp only[aD];rw[h a (by simp[bU])]⟩
 |load t a=>refine⟨by simp only[aM];rw[h a (by simp[bU])],by simp only[aF];rw[h a (by simp[bU])],rfl⟩
 |indexAddr t a v=>refine⟨by simp only[aM];rw[h a (by simp[bU]),h v (by simp[bU])],by simp only[aF];rw[h a (by simp[bU])],rfl⟩
 |pick c x y=>refine⟨by simp only[aM];rw[h c (by simp[bU]),h x (by simp[bU]),h y (by simp[bU])],rfl,rfl⟩
 |binOp op t x y u=>refine⟨by simp only[aM];rw[h x (by simp[bU]),h y (by simp[bU])],rfl,rfl⟩
 |makeSlice t x y=>refine⟨by simp only[aM];rw[h x (by simp[bU]),h y (by simp[bU])],rfl,rfl⟩
 |index t x y=>refine⟨by simp only[aM];rw[h x (by simp[bU]),h y (by simp[bU])],rfl,rfl⟩
 |move x=>refine⟨by simp only[aM];rw[h x (by simp[bU])],rfl,rfl⟩
 |assign x=>refine⟨by simp only[aM];rw[h x (by simp[bU])],rfl,rfl⟩
 |box t x=>refine⟨by simp only[aM];rw[h x (by simp[bU])],rfl,rfl⟩
 |nilCheck x=>refine⟨by simp only[aM];rw[h x (by simp[bU])],rfl,rfl⟩
 |unOp op t x=>refine⟨by simp only[aM];rw[h x (by simp[bU])],rfl,rfl⟩
 |convert s d x=>refine⟨by simp only[aM];rw[h x (by simp[bU])],rfl,rfl⟩
 |fieldAddr s x f=>refine⟨by simp only[aM];rw[h x (by simp[bU])],rfl,rfl⟩
 |field s x f=>refine⟨by simp only[aM];rw[h x (by simp[bU])],rfl,rfl⟩
 |extract x i=>refine⟨by simp only[aM];rw[h x (by simp[bU])],rfl,rfl⟩
 |makeMap t r=>cases r<;>exact⟨rfl,rfl,rfl⟩
 |lookup t m k ok=>exact⟨by simp only[aM];rw[h m (by simp[bU]),h k (by simp[bU])],by simp only[aF];rw[h m (by simp[bU])],rfl⟩
 |mapUpdate t m k x=>exact⟨by simp only[aM];rw[h m (by simp[bU]),h k (by simp[bU]),h x (by simp[bU])],by simp only[aF];rw[h m (by simp[bU])],by simp only[aD];rw[h m (by simp[bU])]⟩
 |range t x=>exact⟨by simp only[aM];rw[h x (by simp[bU])],rfl,rfl⟩
 |next it s=>cases s<;>exact⟨by simp only[aM]<;>rw[h it (by simp[bU])],by simp only[aF];rw[h it (by simp[bU])],by simp only[aD];rw[h it (by simp[bU])]⟩
 |_=>exact⟨rfl,rfl,rfl⟩
def xF(P:Program)(F:TypeId→Option (List TypeId))(o:Op)(ρ:Operand→AV)(b:Nat)(v:AV)(H' K:ac):Prop:=
 ∃K',aM P F o ρ b K=some (.val v K')∧K'.next=K.next∧∀c,K'.get c=if c∈aD o ρ∨c=b then H'.get c else K.get c
theorem xF.same{o:Op}{ρ:Operand→AV}{b:Nat}{v:AV}{H K:ac}(hb:K.get b=H.get b)(hw:aD o ρ=[])(h:aM P F o ρ b K=some (.val v K)):xF P F o ρ b v H K:=by
 refine⟨K,h,rfl,λc=>?_⟩;rw[hw];split
 ·rename_i hc;rcases hc with hc|hc
  ·simp at hc
  ·rw[hc];exact hb
 ·rfl
theorem xF.new{o:Op}{ρ:Operand→AV}{b:Nat}{v:AV}{H K:ac}{x:Blk}(hw:aD o ρ=[])(h:aM P F o ρ b K=some (.val v (K.new b x))):xF P F o ρ b v (H.new b x) K:=by
 refine⟨_,h,rfl,λc=>?_⟩;rw[hw,ac.get_new,ac.get_new];by_cases hc:b=c
 ·rw[if_pos hc,if_pos hc,if_pos (.inr hc.symm)]
 ·rw[if_neg hc,if_neg];rintro(h1|h1)
  ·simp at h1
  ·exact hc h1.symm
theorem xF.put{o:Op}{ρ:Operand→AV}{b q:Nat}{v:AV}{H K:ac}{x:Blk}(hb:K.get b=H.get b)(hw:aD o ρ=[q])(h:aM P F o ρ b K=some (.val v (K.put q (some x)))):xF P F o ρ b v (H.put q (some x)) K:=by
 refine⟨_,h,rfl,λd=>?_⟩;rw[hw,ac.get_put,ac.get_put];by_cases hd:q=d
 ·rw[if_pos hd,if_pos hd,if_pos (.inl (by simp[hd]))]
 ·rw[if_neg hd,if_neg hd];split
  ·rename_i hc;rcases hc with hc|hc
   ·simp at hc;exact absurd hc.symm hd
   ·rw[hc];exact hb
  ·rfl
theorem xF.sameW{o:Op}{ρ:Operand→AV}{b q:Nat}{v:AV}{H K:ac}(hb:K.get b=H.get b)(hw:aD o ρ=[q])(hq:K.get q=H.get q)(h:aM P F o ρ b K=some (.val v K)):xF P F o ρ b v H K:=by
 refine⟨K,h,rfl,λc=>?_⟩;rw[hw];split
 ·rename_i hc;rcases hc with hc|hc
  ·simp at hc;rw[hc];exact hq
  ·rw[hc];exact hb
 ·rfl
theorem xG{H K:ac}{n:Nat}{x:AV}(hr:∀c∈aa x,K.get c=H.get c):fM K n x=fM H n x:=by cases x<;>simp only[fM];rw[hr _ (by simp[aa])]
theorem Jy{H K:ac}{x:AV}(hr:∀c∈ed x,K.get c=H.get c):nw K x=nw H x:=by cases x<;>simp only[nw];rw[hr _ (by simp[ed])]
theorem NB{o:Op}{ρ:Operand→AV}{b:Nat}{v:AV}{H H':ac}(h:aM P F o ρ b H=some (.val v H'))(K:ac)(hr:∀c∈aF o ρ,K.get c=H.get c)(hb:K.get b=H.get b):xF P F o ρ b v H' K:=by
 cases o with
 |load t a=>
  simp only[aM]at h;obtain⟨h1,rfl⟩:=fG h;refine .same hb rfl ?_;have:oA P K t (ρ a)=oA P H' t (ρ a):=by simp only[aF]at hr;generalize ρ a=x at hr;cases x<;>simp only[oA];rw[hr _ (by simp[aa])]
  simp only[aM,this,h1,Yz]
 |indexAddr t x ix=>
  simp only[aM]at h;obtain⟨h1,rfl⟩:=fG h;refine .same hb rfl ?_;have:dS P (nw K (ρ x)) t (ρ x) (ρ ix)=some v:=by rw[Jy hr];exact h1
  simp only[aM,this,Yz]
 |slice t x lo hi mx=>
  simp only[aM]at h;split at h
  ·cases h
  ·rename_i hcnd;obtain⟨h1,rfl⟩:=fG h;refine .same hb rfl ?_;have:lz P (nw K (ρ x)) t (ρ x) (lo.map ρ) (hi.map ρ) (mx.map ρ)=some v:=by rw[Jy hr];exact h1
   simp only[aM,this,Yz];rw[if_neg hcnd]
 |store t a x=>
  simp only[aM]at h;cases hst:gl P H t (ρ a) (ρ x)with
  |none=>rw[hst]at h;cases h
  |some H1=>
   rw[hst]at h;cases h;simp only[aF]at hr;have hst2:=hst;unfold gl at hst;split at hst
   ·rename_i c i off cs n ha hcs hn;rw[ha]at hr;have hkc:=hr c (by simp[aa]);split at hst
    ·rename_i y hy;split at hst
     ·rename_i r hrw;split at hst
      ·rename_i hcond;cases hst;refine⟨K.put c (some {y with rows:=y.rows.set i (bK r off cs)}),?_,rfl,λd=>?_⟩
       ·simp only[aM,gl,ha,hcs,hn,hkc,hy,hrw];rw[if_pos hcond];rfl
       ·have hw:aD (.store t a x) ρ=[c]:=by simp[aD,ha,aa]
        rw[hw,ac.get_put,ac.get_put];by_cases hd:c=d
        ·rw[if_pos hd,if_pos hd,if_pos (.inl (by simp[hd]))]
        ·rw[if_neg hd,if_neg hd];split
         ·rename_i hc;rcases hc with hc|hc
          ·simp at hc;exact absurd hc.symm hd
          ·rw[hc];exact hb
         ·rfl
      ·cases hst
     ·cases hst
    ·cases hst
   ·cases hst
 |call c=>
  simp only[aM]at h;split at h
  ·rename_i bi hcal;cases hbi:aX P H b bi c.argTypes (c.args.toList.map ρ)with
   |none=>rw[hbi]at h;cases h
   |some r=>
    obtain⟨v0,H1⟩:=r;rw[hbi]at h;cases h;have fin:∀{K':ac} {u:AV},aX P K b bi c.argTypes (c.args.toList.map ρ)=some (u,K')→aM P F (.call c) ρ b K=some (.val u K'):=λhk=>by simp only[aM,hcal,hk,Yz]
    have wnil:bi≠.append∧bi≠.clear→aD (.call c) ρ=[]:=λhne=>by simp only[aD,hcal];cases bi<;>first|rfl|exact absurd rfl hne.1|exact absurd rfl hne.2
    have hbi0:=hbi;unfold aX at hbi;split at hbi
    ·rename_i s heq;split at hbi
     ·rename_i hty;cases hbi;exact .same hb (wnil ZM) (fin (by rw[heq];simp only[aX,hty]))
     ·cases hbi
    ·rename_i x hne heq;have e:H1=H:=by
      split at hbi
      ·rw[Zz]at hbi;obtain⟨n,_,hn⟩:=hbi;cases hn;rfl
      ·cases hbi;rfl
      ·cases hbi
     subst e;refine .same hb (wnil ZM) (fin ?_);rw[heq];unfold aX;split
     ·rename_i s e1 e2;cases e2;exact absurd rfl (hne s)
     ·rename_i x' hne' e1 e2;cases e2;split at hbi
      ·rw[Zz]at hbi;obtain⟨n,hl,hn⟩:=hbi;cases hn;simp only[hl,Yz]
      ·cases hbi;rfl
      ·cases hbi
     ·rename_i e1 e2;cases e2
     ·rename_i e1 e2;cases e2
     ·rename_i e1 e2;cases e2
     ·rename_i e1 e2;cases e1
     ·rename_i e1 e2 e3 e4 e5 e6;simp_all
    ·rename_i s x heq;obtain⟨a0,a1,hargs,h0,h1⟩:=rr heq;split at hbi
     ·rename_i t tx htt;split at hbi
      ·rename_i e' hu';have hrs:∀c'∈aa s,K.get c'=H.get c':=λc' hc'=>hr c' (by simp[aF,hcal,hargs,h0,hc'])
       have hrx:∀c'∈aa x,K.get c'=H.get c':=λc' hc'=>hr c' (by simp[aF,hcal,hargs,h1,hc'])
       have red:∀{K':ac} {u:AV},cS P K b t s x=some (u,K')→aX P K b .append c.argTypes (c.args.toList.map ρ)=some (u,K'):=λhk=>by rw[heq];simp only[aX,htt,hu',hk]
       unfold cS at hbi;split at hbi
       ·rename_i e hu;split at hbi
        ·rename_i n by_ z hn hby hz;split at hbi
         ·rename_i l m hl hm;have hl':fM K n s=some l:=by rw[xG hrs];exact hl
          have hm':fM K n x=some m:=by rw[xG hrx];exact hm
          split at hbi
          ·rename_i hcond;split at hbi
           ·split at hbi
            ·rename_i hm0;cases hbi;refine .same hb (by simp[aD,hcal,hargs,h0,aa]) (fin (red ?_));simp only[cS,hu,hn,hby,hz,hl',hm'];rw[if_pos hcond,if_pos hm0]
            ·rename_i hm0;cases hbi;refine .new (by simp[aD,hcal,hargs,h0,aa]) (fin (red ?_));simp only[cS,hu,hn,hby,hz,hl',hm'];rw[if_pos hcond,if_neg hm0]
           ·split at hbi
            ·rename_i hm0;cases hbi;refine .same hb (by simp[aD,hcal,hargs,h0,aa]) (fin (red ?_));simp only[cS,hu,hn,hby,hz,hl',hm'];rw[if_pos hcond,if_pos hm0]
            ·rename_i hm0;cases hbi;refine .new (by simp[aD,hcal,hargs,h0,aa]) (fin (red ?_));simp only[cS,hu,hn,hby,hz,hl',hm'];rw[if_pos hcond,if_neg hm0]
           ·rename_i b' i k;cases hbi;have hw:aD (.call c) ρ=[b']:=by simp[aD,hcal,hargs,h0,aa]
            refine⟨(K.put b' none).new b ⟨n,l++m⟩,fin (red ?_),rfl,λd=>?_⟩
            ·simp only[cS,hu,hn,hby,hz,hl',hm'];rw[if_pos hcond]
            ·rw[hw,ac.get_new,ac.get_new,ac.get_put,ac.get_put];by_cases hd:b=d
             ·rw[if_pos hd,if_pos hd,if_pos (.inr hd.symm)]
             ·rw[if_neg hd,if_neg hd];by_cases hd':b'=d
              ·rw[if_pos hd',if_pos hd',if_pos (.inl (by simp[hd']))]
              ·rw[if_neg hd',if_neg hd',if_neg];rintro(h1|h1)
               ·simp at h1;exact hd' h1.symm
               ·exact hd h1.symm
           ·cases hbi
          ·cases hbi
         ·cases hbi
        ·cases hbi
       ·cases hbi
      ·cases hbi
     ·cases hbi
    ·rename_i k a k' c' heq;split at hbi
     ·rename_i hk;cases hbi;exact .same hb (wnil ZM) (fin (by rw[heq];simp only[aX];rw[if_pos hk]))
     ·cases hbi
    ·rename_i k a k' c' heq;split at hbi
     ·rename_i hk;cases hbi;exact .same hb (wnil ZM) (fin (by rw[heq];simp only[aX];rw[if_pos hk]))
     ·cases hbi
    ·rename_i x heq;split at hbi
     ·rename_i t htt;cases hcl:fo P H t x with
      |none=>rw[hcl]at hbi;cases hbi
      |some K1=>
       rw[hcl]at hbi;cases hbi;obtain⟨a0,hargs,h0⟩:=rq heq;have red:∀{K':ac},fo P K t x=some K'→aX P K b .clear c.argTypes (c.args.toList.map ρ)=some (.tup [],K'):=λhk=>by rw[heq];simp only[aX,htt,hk,Yz]
       unfold fo at hcl;split at hcl
       ·rename_i e hu;split at hcl
        ·rename_i n z hn hz;split at hcl
         ·cases hcl;exact .same hb (by simp[aD,hcal,hargs,h0,aa]) (fin (red (by simp only[fo,hu,hn,hz])))
         ·rename_i d i k;split at hcl
          ·rename_i y hy;split at hcl
           ·rename_i hcond;cases hcl;have hkd:K.get d=some y:=by rw[hr d (by simp[aF,hcal,hargs,h0,aa])];exact hy
            have hw:aD (.call c) ρ=[d]:=by simp[aD,hcal,hargs,h0,aa]
            refine⟨K.put d (some {y with rows:=y.rows.take i++List.replicate k z++y.rows.drop (i+k)}),fin (red ?_),rfl,λq=>?_⟩
            ·simp only[fo,hu,hn,hz,hkd];rw[if_pos hcond]
            ·rw[hw,ac.get_put,ac.get_put];by_cases hd:d=q
             ·rw[if_pos hd,if_pos hd,if_pos (.inl (by simp[hd]))]
             ·rw[if_neg hd,if_neg hd];split
              ·rename_i hc;rcases hc with hc|hc
               ·simp at hc;exact absurd hc.symm hd
               ·rw[hc];exact hb
              ·rfl
           ·cases hcl
          ·cases hcl
         ·cases hcl
        ·cases hcl
       ·cases hcl
     ·cases hbi
    ·cases hbi
  ·split at h<;>cases h
  ·cases h
 |alloc t=>
  simp only[aM]at h;split at h
  ·rename_i cs hcs;cases h;exact .new rfl (by simp only[aM,hcs])
  ·cases h
 |box t x=>
  simp only[aM]at h;split at h
  ·rename_i cs hcs;split at h
   ·rename_i ho;cases h;exact .new rfl (by simp only[aM,hcs];rw[if_pos ho])
   ·cases h
  ·cases h
 |buildSlice t len parts=>
  simp only[aM]at h;split at h
  ·rename_i e hu;split at h
   ·rename_i n z hn hz;split at h
    ·rename_i hc;cases hf:eb n (List.replicate len z) (parts.toList.map λp=>(p.1,ρ p.2))with
     |none=>rw[hf]at h;cases h
     |some rows=>rw[hf]at h;cases h;exact .new rfl (by simp only[aM,hu,hn,hz];rw[if_pos hc,hf];rfl)
    ·cases h
   ·cases h
  ·cases h
 |makeSlice t l c=>
  simp only[aM]at h;split at h
  ·rename_i e hu;split at h
   ·rename_i n by_ z l' c' hn hby hz hl hc;split at h
    ·rename_i hcond;cases h;exact .new rfl (by simp only[aM,hu,hn,hby,hz,hl,hc];rw[if_pos hcond])
    ·cases h
   ·cases h
  ·cases h
 |makeFunc fn first cap=>
  cases fn<;>simp only[aM]at h<;>(try (cases h;done));split at h
  ·rename_i hf;cases h;exact .same hb rfl (by simp only[aM];rw[if_pos hf])
  ·cases h
 |pick c x y=>
  simp only[aM]at h;split at h
  ·rename_i t hc;cases h;exact .same hb rfl (by simp only[aM,hc])
  ·cases h
 |nilCheck x=>simp only[aM]at h;split at h<;>(try (cases h;done))<;>(rename_i heq;cases h;exact .same hb rfl (by simp only[aM,heq]))
 |extract x i=>
  simp only[aM]at h;split at h
  ·rename_i vs hx;obtain⟨h1,rfl⟩:=fG h;exact .same hb rfl (by simp only[aM,hx,h1];rfl)
  ·cases h
 |makeMap t r=>
  cases r with
  |none=>simp only[aM]at h;cases h;exact .new rfl rfl
  |some r=>simp[aM]at h
 |lookup t m k ok=>simp only[aM]at h;obtain⟨h1,rfl⟩:=fG h;obtain⟨c,x,hm,hx,hK⟩:=D8 h1;refine .same hb rfl ?_;simp only[aM];rw[hK K (by rw[hr c (by simp[aF,hm,aa]),hx])];rfl
 |mapUpdate t m k x=>
  simp only[aM]at h;cases hs:fa P H t (ρ m) (ρ k) (ρ x)with
  |none=>rw[hs]at h;cases h
  |some H2=>rw[hs]at h;cases h;obtain⟨c,y,y',hm,hy,rfl,hK⟩:=nC hs;refine .put hb (by simp[aD,hm,aa]) ?_;simp only[aM];rw[hK K (by rw[hr c (by simp[aF,hm,aa]),hy])];rfl
 |range t x=>
  simp only[aM]at h;split at h
  ·rename_i s hu hx;cases h;exact .new rfl (by simp only[aM,hu,hx])
  ·cases h
 |next it s=>
  cases s with
  |false=>simp[aM]at h
  |true=>
   simp only[aM]at h;cases hs:iT H (ρ it)with
   |none=>rw[hs]at h;cases h
   |some r=>
    obtain⟨v0,H2⟩:=r;rw[hs]at h;cases h;obtain⟨c,y,hm,hy,⟨rfl,hK⟩|⟨y',rfl,hK⟩⟩:=xD hs
    ·have hc:=hr c (by simp[aF,hm,aa]);refine .sameW (q:=c) hb (by simp[aD,hm,aa]) hc ?_;simp only[aM];rw[hK K (by rw[hc,hy])];rfl
    ·have hc:=hr c (by simp[aF,hm,aa]);refine .put hb (by simp[aD,hm,aa]) ?_;simp only[aM];rw[hK K (by rw[hc,hy])];rfl
 |move x=>simp only[aM]at h;cases h;exact .same hb rfl (by simp only[aM])
 |assign x=>simp only[aM]at h;cases h;exact .same hb rfl (by simp only[aM])
 |build t ps=>simp only[aM]at h;obtain⟨h1,rfl⟩:=fG h;exact .same hb rfl (by simp only[aM,h1];rfl)
 |binOp op t x y u=>simp only[aM]at h;obtain⟨h1,rfl⟩:=fG h;exact .same hb rfl (by simp only[aM,h1];rfl)
 |unOp op t x=>simp only[aM]at h;obtain⟨h1,rfl⟩:=fG h;exact .same hb rfl (by simp only[aM,h1];rfl)
 |convert s d x=>simp only[aM]at h;obtain⟨h1,rfl⟩:=fG h;exact .same hb rfl (by simp only[aM,h1];rfl)
 |fieldAddr s x f=>simp only[aM]at h;obtain⟨h1,rfl⟩:=fG h;exact .same hb rfl (by simp only[aM,h1];rfl)
 |field s x f=>simp only[aM]at h;obtain⟨h1,rfl⟩:=fG h;exact .same hb rfl (by simp only[aM,h1];rfl)
 |index t x y=>simp only[aM]at h;obtain⟨h1,rfl⟩:=fG h;exact .same hb rfl (by simp only[aM,h1];rfl)
 |_=>simp[aM]at h
theorem Ed{o:Op}{ρ:Operand→AV}{b:Nat}{g:FuncId}{args:List AV}{H:ac}(h:aM P F o ρ b H=some (.call g args))(K:ac):aM P F o ρ b K=some (.call g args):=by
 cases o with
 |call c=>
  simp only[aM]at h ⊢;split at h
  ·rename_i bi _;cases hbi:aX P H b bi c.argTypes (c.args.toList.map ρ)with
   |none=>rw[hbi]at h;cases h
   |some r=>rw[hbi]at h;cases h
  ·rename_i f hf;exact h
  ·cases h
 |makeFunc fn first cap=>cases fn<;>simp only[aM]at h<;>(try split at h)<;>simp at h
 |makeMap t r=>cases r<;>simp[aM]at h
 |next it s=>cases s<;>simp[aM]at h
 |_=>
  exfalso;simp only[aM]at h
  repeat' (first|(cases h;done)|(simp at h;done)|split at h)
end
end
theorem Jz(f:Edge→Nat)(p:Edge→Bool)(k:Nat):∀(l:List Edge) (s:Nat),(l.foldl (λs e=>if p e then s ||| f e else s) s).testBit k=true→s.testBit k=true∨∃e∈l,p e=true∧(f e).testBit k=true
 |[],s,h=>.inl h
 | e::l,s,h=>by
  rw[Zq]at h;rcases Jz f p k l _ h with h1|⟨e',h1,h2⟩
  ·split at h1
   ·rename_i hp;rw[Nat.testBit_or,ZD]at h1;rcases h1 with h1|h1
    ·exact .inl h1
    ·exact .inr ⟨e,ZM,hp,h1⟩
   ·exact .inl h1
  ·exact .inr ⟨e',by simp[h1],h2⟩
def ua(acc:List Nat)(o:Oper):Nat:=o.after.toList.foldl (λs e=>if Region.binds .any e then s ||| 2^e.on ||| acc.getD e.on 0 else s) 0
theorem Lp{acc:List Nat}{o:Oper}{k:Nat}(h:(ua acc o).testBit k=true):∃e∈o.after.toList,Region.binds .any e=true∧(k=e.on∨(acc.getD e.on 0).testBit k=true):=by
 have hf:ua acc o=o.after.toList.foldl (λs e=>if Region.binds .any e then s ||| (2^e.on ||| acc.getD e.on 0)else s) 0:=by
  unfold ua;congr 1;funext s e;split
  ·rw[Nat.or_assoc]
  ·rfl
 rw[hf]at h;rcases Jz (λe=>2^e.on ||| acc.getD e.on 0) (Region.binds .any) k _ _ h with h1|⟨e,h1,h2,h3⟩
 ·simp at h1
 ·refine⟨e,h1,h2,?_⟩;rw[Nat.testBit_or,ZD]at h3;rcases h3 with h3|h3
  ·rw[Nat.testBit_two_pow]at h3;exact .inl (by have h4:=h3;simp at h4;exact h4.symm)
  ·exact .inr h3
theorem Ee:∀(l:List Oper) (acc:List Nat),acc.length+l.length=(ca l acc).length∧(∀i,i<acc.length→(ca l acc).getD i 0=acc.getD i 0)∧
  ∀(i:Nat) (o:Oper),l[i]? =some o→∃acc',(ca l acc).getD (acc.length+i) 0=ua acc' o∧(∀j,acc'.getD j 0=(ca l acc).getD j 0∨acc'.getD j 0=0)∧(∀j,acc.length+i≤j→acc'.getD j 0=0)
 |[],acc=>by simp[ca]
 | o::l,acc=>by
  obtain⟨h1,h2,h3⟩:=Ee l (acc++[ua acc o]);have hm:ca (o::l) acc=ca l (acc++[ua acc o]):=rfl;rw[hm];simp only[Yf,List.length_singleton]at h1 h2 h3;have keep:∀i,i<acc.length→(ca l (acc++[ua acc o])).getD i 0=acc.getD i 0:=λi hi=>by rw[h2 i ZJ];simp[List.getD,Yp hi]
  refine⟨by simp;omega,keep,λi q hq=>?_⟩
  match i with
  |0=>
   simp only[List.getElem?_cons_zero,Yi]at hq;subst hq;refine⟨acc,?_,λj=>?_,λj hj=>?_⟩
   ·rw[Zy,h2 acc.length ZJ];simp[List.getD]
   ·rcases X9 j acc.length with hj|hj
    ·exact .inl (keep j hj).symm
    ·exact .inr (by simp[List.getD,X8 hj])
   ·simp[List.getD,X8 (show acc.length≤j by omega)]
  |i+1=>simp only[Zv]at hq;obtain⟨acc',g1,g2,g3⟩:=h3 i q hq;exact⟨acc',by rw[←g1];congr 1;omega,g2,λj hj=>g3 j ZJ⟩
theorem NC{ops:Array Oper}{i:Nat}{o:Oper}(ho:ops[i]? =some o){k:Nat}(h:((ca ops.toList []).getD i 0).testBit k=true):
  ∃e∈o.after.toList,Region.binds .any e=true∧(k=e.on∨(e.on<i∧((ca ops.toList []).getD e.on 0).testBit k=true)):=by
 obtain⟨_,_,h3⟩:=Ee ops.toList [];obtain⟨acc',g1,g2,g3⟩:=h3 i o (by rw[Yy];exact ho);simp only[YC,Y2]at g1 g3;rw[g1]at h;obtain⟨e,e1,e2,e3⟩:=Lp h;refine⟨e,e1,e2,?_⟩;rcases e3 with e3|e3
 ·exact .inl e3
 ·right;rcases X9 e.on i with hlt|hge
  ·refine⟨hlt,?_⟩;rcases g2 e.on with h4|h4
   ·rw[h4]at e3;exact e3
   ·rw[h4]at e3;simp at e3
  ·rw[g3 e.on hge]at e3;simp at e3
def HW(ops:Array Oper)(L:Nat→Bool):Prop:=∀(i:Nat) (o:Oper),ops[i]? =some o→L i=true→∀e∈o.after.toList,Region.binds .any e=true→L e.on=true
theorem HW.ahead{ops:Array Oper}{L:Nat→Bool}(hL:HW ops L):∀(i:Nat) (o:Oper),ops[i]? =some o→(∀e∈o.after.toList,Region.binds .any e=true→L e.on=true)→∀k,((ca ops.toList []).getD i 0).testBit k=true→L k=true:=by
 intro i
 induction i using Nat.strongRecOn with
 |_ i ih=>
  intro o ho he k hk;obtain⟨e,e1,e2,e3⟩:=NC ho hk;have hLe:=he e e1 e2;rcases e3 with rfl|⟨hlt,h4⟩
  ·exact hLe
  ·have hlt':e.on<ops.size:=by have:i<ops.size:=(Zo.1 ho).1;omega
   have ho':ops[e.on]? =some ops[e.on]:=YA hlt';exact ih e.on hlt _ ho' (λe' h5 h6=>hL e.on _ ho' hLe e' h5 h6) k h4
def cC(p:Nat→Bool):Nat→Option Nat
 |0=>none
 |k+1=>if p k then some k else cC p k
theorem kN{p q:Nat→Bool}:∀{k:Nat},(∀i,i<k→p i=q i)→cC p k=cC q k
 |0,_=>rfl
 | k+1,h=>by unfold cC;rw[h k ZJ,kN λi hi=>h i ZJ]
theorem ub{p:Nat→Bool}{k m:Nat}(hkm:k≤m)(h:∀i,k≤i→i<m→p i=false):cC p m=cC p k:=by
 induction m with
 |zero=>rw[show k=0 by omega]
 |succ m ih=>
  rcases Zk hkm with rfl|hlt
  ·rfl
  ·rw[cC,h m ZJ ZJ,if_neg ZM];exact ih ZJ λi h1 h2=>h i h1 ZJ
theorem p9{p L:Nat→Bool}{n i:Nat}(hi:i<n)(hLi:L i=false)(h:∀j,j<n→j≠i→p j=true→(j<i→L j=true)∧(i<j→L j=false)):
  cC (λj=>L j&&p j) n=cC p i:=by
 rw[ub (k:=i) ZJ]
 ·refine kN λj hj=>?_
  cases hp:p j with
  |false=>simp
  |true=>simp[(h j ZJ ZJ hp).1 hj]
 ·intro j h1 h2;rcases Zk h1 with rfl|hlt
  ·simp[hLi]
  ·cases hp:p j with
   |false=>simp
   |true=>simp[(h j h2 ZJ hp).2 hlt]
theorem AA{p L:Nat→Bool}{n i:Nat}(hi:i<n)(hLi:L i=false)(hpi:p i=true)(h:∀j,j<n→j≠i→p j=true→(i<j→L j=false)):
  cC (λj=>(if j=i then true else L j)&&p j) n=some i:=by
 rw[ub (k:=i+1) ZJ]
 ·simp[cC,hpi]
 ·intro j h1 h2;cases hp:p j with
  |false=>simp
  |true=>simp[h j h2 ZJ hp ZJ,show¬j=i by omega]
theorem nE{p L:Nat→Bool}{n i:Nat}(hpi:p i=false):cC (λj=>(if j=i then true else L j)&&p j) n=cC (λj=>L j&&p j) n:=by
 refine kN λj _=>?_
 by_cases hj:j=i
 ·subst hj;simp[hpi]
 ·simp[hj]
section
section
variable (P:Program) (F:TypeId→Option (List TypeId)) (call:FuncId→List AV→ac→Option (AV×ac)) (ops:Array Oper) (base:Nat) (τ0:List AV) (H0:ac)
def eJ:Nat→List AV×ac
 |0=>(τ0,H0)
 | i+1=>match bH P F call ops base i ((ca ops.toList []).getD i 0) (eJ i).1 (eJ i).2 with
  |some (τ,H,_)=>(τ,H)
  |none=>eJ i
def gq(i:Nat):Option tB:=
 match bH P F call ops base i ((ca ops.toList []).getD i 0) (eJ P F call ops base τ0 H0 i).1 (eJ P F call ops base τ0 H0 i).2 with
 |some (_,_,r)=>r
 |none=>none
structure mj:Prop where
 step:∀i,i<ops.size→bH P F call ops base i ((ca ops.toList []).getD i 0) (eJ P F call ops base τ0 H0 i).1 (eJ P F call ops base τ0 H0 i).2 =
  some ((eJ P F call ops base τ0 H0 (i+1)).1,(eJ P F call ops base τ0 H0 (i+1)).2,gq P F call ops base τ0 H0 i)
 free:∀i j x r,j<i→i<ops.size→gq P F call ops base τ0 H0 j=some x→gq P F call ops base τ0 H0 i=some r→((ca ops.toList []).getD i 0).testBit j=true∨mb x r=false
end
section
variable {P:Program} {F:TypeId→Option (List TypeId)} {call:FuncId→List AV→ac→Option (AV×ac)} {ops:Array Oper} {base:Nat} {τ0:List AV} {H0:ac}
theorem JA{i mask:Nat}{τ τ':List AV}{H H':ac}{x:tB}(h:bH P F call ops base i mask τ H=some (τ',H',some x)):x.op=i:=by
 unfold bH at h
 repeat' (first|(cases h;rfl)|(cases h;done)|split at h)
theorem OP:∀(m k:Nat) (rs rs':List tB) (τ':List AV) (K:ac),
  eB P F call ops base (ca ops.toList []) (List.range' k m) (eJ P F call ops base τ0 H0 k).1 (eJ P F call ops base τ0 H0 k).2 rs=some (τ',K,rs')→(∀j x,j<k→gq P F call ops base τ0 H0 j=some x→x∈rs∧x.op=j)→
  (∀i,k≤i→i<k+m→bH P F call ops base i ((ca ops.toList []).getD i 0) (eJ P F call ops base τ0 H0 i).1 (eJ P F call ops base τ0 H0 i).2 =
   some ((eJ P F call ops base τ0 H0 (i+1)).1,(eJ P F call ops base τ0 H0 (i+1)).2,gq P F call ops base τ0 H0 i))∧
  (∀i j x r,k≤i→i<k+m→j<i→gq P F call ops base τ0 H0 j=some x→gq P F call ops base τ0 H0 i=some r→((ca ops.toList []).getD i 0).testBit j=true∨mb x r=false)∧
  (τ',K)=eJ P F call ops base τ0 H0 (k+m)
 | 0,k,rs,rs',τ',K,h,_=>by simp only[List.range'_zero,eB,Yi,Prod.mk.injEq]at h;obtain⟨rfl,rfl,rfl⟩:=h;exact⟨λi h1 h2=>by omega,λi j x r h1 h2=>by omega,rfl⟩
 | m+1,k,rs,rs',τ',K,h,hrs=>by
  rw[List.range'_succ]at h;unfold eB at h;cases hd:bH P F call ops base k ((ca ops.toList []).getD k 0) (eJ P F call ops base τ0 H0 k).1 (eJ P F call ops base τ0 H0 k).2 with
  |none=>rw[hd]at h;cases h
  |some q=>
   obtain⟨τ1,H1,r⟩:=q;rw[hd]at h;have e1:eJ P F call ops base τ0 H0 (k+1)=(τ1,H1):=by rw[eJ,hd]
   have e2:gq P F call ops base τ0 H0 k=r:=by rw[gq,hd]
   have next:∀rs2,eB P F call ops base (ca ops.toList []) (List.range' (k+1) m) τ1 H1 rs2=some (τ',K,rs')→(∀x,r=some x→x∈rs2)→(∀x∈rs,x∈rs2)→
     (∀j x,j<k→gq P F call ops base τ0 H0 j=some x→∀y,r=some y→((ca ops.toList []).getD k 0).testBit j=true∨mb x y=false)→_:=λrs2 h2 hr2 hsub hfree=>by
    obtain⟨a1,a2,a3⟩:=OP m (k+1) rs2 rs' τ' K (by rw[e1];exact h2) (λj x hj hx=>by
     rcases Zk (Nat.le_of_lt_succ hj)with rfl|hlt
     ·rw[e2]at hx;refine⟨hr2 x hx,?_⟩;rw[hx]at hd;exact JA hd
     ·obtain⟨b1,b2⟩:=hrs j x hlt hx;exact⟨hsub x b1,b2⟩)
    refine(⟨λi h1 h2=>?_,λi j x y h1 h2 hji hx hy=>?_,by rw[a3];congr 1;omega⟩:(∀i,k≤i→i<k+(m+1)→bH P F call ops base i ((ca ops.toList []).getD i 0) (eJ P F call ops base τ0 H0 i).1 (eJ P F call ops base τ0 H0 i).2 =
     some ((eJ P F call ops base τ0 H0 (i+1)).1,(eJ P F call ops base τ0 H0 (i+1)).2,gq P F call ops base τ0 H0 i))∧
     (∀i j x r,k≤i→i<k+(m+1)→j<i→gq P F call ops base τ0 H0 j=some x→gq P F call ops base τ0 H0 i=some r→((ca ops.toList []).getD i 0).testBit j=true∨mb x r=false)∧
     (τ',K)=eJ P F call ops base τ0 H0 (k+(m+1)))
    ·rcases Zk h1 with rfl|hlt
     ·rw[hd,e1,e2]
     ·exact a1 i hlt ZJ
    ·rcases Zk h1 with rfl|hlt
     ·rw[e2]at hy;exact hfree j x hji hx y hy
     ·exact a2 i j x y hlt ZJ hji hx hy
   cases r with
   |none=>exact next rs h ZM (λx hx=>hx) ZM
   |some y=>
    simp only[]at h;split at h
    ·rename_i hall;refine next (y::rs) h ZM (λx hx=>by simp[hx]) (λj x hj hx y' hy'=>?_)
     cases hy';rw[Yo]at hall;obtain⟨b1,b2⟩:=hrs j x hj hx;have:=hall x b1;rw[b2]at this;simpa using this
    ·cases h
end
end
section
theorem bb.sig{w:World}{σ σ':bD}{T:Nat→Prop}(hm:σ'.map=σ.map){a:AV}{v:Value}(h:bb w σ T a v):bb w σ' T a v:=by
 have e:∀{b pl},σ.map b=some pl→σ'.map b=some pl:=λhb=>by rw[hm];exact hb
 induction h with
 |int k n=>exact .int k n
 |bool b=>exact .bool b
 |str s=>exact .str s
 |nilp=>exact .nilp
 |ptr b i off pl h hp=>exact .ptr b i off pl (e h) hp
 |mp b pl h h1 h2=>exact .mp b pl (e h) h1 h2
 |it b pl h h1 h2=>exact .it b pl (e h) h1 h2
 |pptr rows i off b o sz hl h ih=>exact .pptr rows i off b o sz hl ih
 |nils=>exact .nils
 |emp a=>exact .emp a
 |sl b i n pl a cap h hp hn hm' ha=>exact .sl b i n pl a cap (e h) hp hn hm' ha
 |lst0 a cap hm'=>exact .lst0 a cap hm'
 |lst rows b o sz cap hl hn hm' h ih=>exact .lst rows b o sz cap hl hn hm' ih
 |agg cs vs hl h ih=>exact .agg cs vs hl ih
 |tup cs vs hl h ih=>exact .tup cs vs hl ih
 |fn f cs vs hl h ih=>exact .fn f cs vs hl ih
 |nilf=>exact .nilf
 |junk v=>exact .junk v
theorem Av.sig{w:World}{σ σ':bD}{T:Nat→Prop}(hm:σ'.map=σ.map){x:Blk}{pl:cv}{cs:Array Value}{e:TypeId}(h:Av w σ T x pl cs e):Av w σ' T x pl cs e:=
 ⟨h.size,h.block,h.even,h.room,λi r j a u h1 h2 h3=>(h.rep i r j a u h1 h2 h3).sig hm⟩
theorem kM.sig{w:World}{σ σ':bD}{T:Nat→Prop}(hm:σ'.map=σ.map){x:Blk}{pl:cv}{cs:Array Value}{e:TypeId}(h:kM w σ T x pl cs e):kM w σ' T x pl cs e:=⟨λhp=>(h.1 hp).sig hm,h.2⟩
def bD.part(σ:bD)(K Hc:ac):bD:=⟨σ.map,λc=>aK σ K c∧¬Gx σ Hc c⟩
section
variable {w w':World} {σ σ':bD} {K Hc H1 K':ac}
theorem Gx.sub(hsub:∀c x,Hc.get c=some x→K.get c=some x){d:Nat}(h:Gx σ Hc d):Gx σ K d:=by obtain⟨b,x,pl,h1,h2,h3⟩:=h;exact⟨b,x,pl,hsub b x h1,h2,h3⟩
theorem xH(hsub:∀c x,Hc.get c=some x→K.get c=some x):aK (σ.part K Hc) Hc=aK σ K:=by
 funext d;apply propext;constructor
 ·rintro(h|h)
  ·exact h.1
  ·exact .inr (Gx.sub hsub h)
 ·intro h;by_cases ht:Gx σ Hc d
  ·exact .inr ht
  ·exact .inl ⟨h,ht⟩
theorem bu.part(hW:bu w σ K)(hsub:∀c x,Hc.get c=some x→K.get c=some x)(hn:K.next≤Hc.next):bu w (σ.part K Hc) Hc:=by
 refine⟨λb pl hb=>Yw (hW.named b pl hb) hn,hW.lt,λb x hb=>?_,λc hc=>⟨?_,hc.2⟩,λb b' x x' pl pl' h1 h2 h3 h4 h5=>hW.inj b b' x x' pl pl' (hsub _ _ h1) (hsub _ _ h2) h3 h4 h5,by rw[xH hsub];exact hW.glob⟩
 ·obtain⟨pl,cs,e,h1,h2⟩:=hW.live b x (hsub b x hb);rw[xH hsub];exact⟨pl,cs,e,h1,kM.sig (σ:=σ) (σ':=σ.part K Hc) rfl h2⟩
 ·rcases hc.1 with h|⟨b,x,pl,h1,h2,rfl⟩
  ·exact(hW.apart c h).1
  ·exact hW.lt b pl h2
theorem bu.whole(hW:bu w σ K)(hsub:∀c x,Hc.get c=some x→K.get c=some x)(hn:Hc.next=K.next)(hW1:bu w' σ' H1)(hE:eI w (σ.part K Hc) (aK (σ.part K Hc) Hc) w' σ' (aK σ' H1))
  (hdom:∀c,c<Hc.next→Hc.get c=none→H1.get c=none) (hK':∀c,K'.get c=if Hc.get c=none∧c<K.next then K.get c else H1.get c) (hn':H1.next≤K'.next) :
  bu w' ⟨σ'.map,σ.fr⟩ K'∧eI w σ (aK σ K) w' ⟨σ'.map,σ.fr⟩ (aK ⟨σ'.map,σ.fr⟩ K')∧aK ⟨σ'.map,σ.fr⟩ K'=aK σ' H1:=by
 have hfr:∀c,σ'.fr c↔(aK σ K c∧¬Gx σ Hc c):=λc=>by rw[hE.eqfr];exact Iff.rfl
 have hmap:∀b pl,σ.map b=some pl→σ'.map b=some pl:=λb pl h=>hE.sig b pl h
 have rest:∀b x,Hc.get b=none→K.get b=some x→∃pl,σ.map b=some pl∧σ'.fr pl.block:=λb x h0 hx=>by obtain⟨pl,cs,e,h1,h2⟩:=hW.live b x hx;refine⟨pl,h1,(hfr _).2 ⟨.inr ⟨b,x,pl,hx,h1,rfl⟩,?_⟩⟩;rintro⟨b2,x2,pl2,g1,g2,g3⟩;have:=hW.inj b2 b x2 x pl2 pl (hsub _ _ g1) hx g2 h1 g3;subst this;rw[h0]at g1;cases g1
 have get':∀b x,K'.get b=some x→(Hc.get b=none∧b<K.next∧K.get b=some x)∨H1.get b=some x:=λb x hx=>by
  rw[hK']at hx;split at hx
  ·rename_i hc;exact .inl ⟨hc.1,hc.2,hx⟩
  ·exact .inr hx
 have frK:∀c,σ.fr c→σ'.fr c:=λc hc=>(hfr c).2 ⟨.inl hc,λht=>(hW.apart c hc).2 (Gx.sub hsub ht)⟩
 have howns:aK ⟨σ'.map,σ.fr⟩ K'=aK σ' H1:=by
  funext d;apply propext;constructor
  ·rintro(h|⟨b,x,pl,h1,h2,rfl⟩)
   ·exact .inl (frK d h)
   ·rcases get' b x h1 with⟨g1,g2,g3⟩|g1
    ·obtain⟨pl0,e1,e2⟩:=rest b x g1 g3;have h2':σ'.map b=some pl:=h2;rw[hmap b pl0 e1]at h2';cases h2';exact .inl e2
    ·exact .inr ⟨b,x,pl,g1,h2,rfl⟩
  ·rintro(h|⟨b,x,pl,h1,h2,rfl⟩)
   ·obtain⟨h3,h4⟩:=(hfr d).1 h;rcases h3 with h3|⟨b,x,pl,g1,g2,g3⟩
    ·exact .inl h3
    ·have h0:Hc.get b=none:=by
      cases hg:Hc.get b with
      |none=>rfl
      |some y=>exact absurd ⟨b,y,pl,hg,g2,g3⟩ h4
     exact .inr ⟨b,x,pl,by rw[hK',if_pos ⟨h0,hW.named b pl g2⟩];exact g1,hmap b pl g2,g3⟩
   ·refine .inr ⟨b,x,pl,?_,h2,rfl⟩;rw[hK',if_neg]
    ·exact h1
    ·rintro⟨h3,h4⟩;rw[hdom b ZJ h3]at h1;cases h1
 have hE2:eI w σ (aK σ K) w' ⟨σ'.map,σ.fr⟩ (aK ⟨σ'.map,σ.fr⟩ K'):=by rw[howns];have ho:=xH (σ:=σ) hsub;exact⟨hE.os,hE.tape,hE.output,hE.size,λc hc hT=>hE.keep c hc (by rw[ho];exact hT),hE.shape,hmap,rfl,λc hc=>hE.frame c ((hfr c).1 (frK c hc)),λc hc=>by have:=hE.own c hc;rwa [ho]at this⟩
 refine⟨⟨λb pl hb=>Yw (hW1.named b pl hb) hn',hW1.lt,λb x hx=>?_,λc hc=>⟨?_,?_⟩,?_,by rw[howns];exact hW1.glob⟩,hE2,howns⟩
 ·rcases get' b x hx with⟨g1,g2,g3⟩|g1
  ·obtain⟨pl,cs,e,h1,h2⟩:=hW.live b x g3;obtain⟨pl0,e1,e2⟩:=rest b x g1 g3;have h1':σ.map b=some pl:=h1;rw[e1]at h1';cases h1';refine⟨pl,cs,e,hmap b pl e1,?_⟩;exact h2.mono hE2 (hE.frame _ ((hfr _).1 e2))
  ·obtain⟨pl,cs,e,h1,h2⟩:=hW1.live b x g1;rw[howns];exact⟨pl,cs,e,h1,kM.sig (σ:=σ') (σ':=⟨σ'.map,σ.fr⟩) rfl h2⟩
 ·have:=(hW.apart c hc).1;have:=hE.size;omega
 ·rintro⟨b,x,pl,h1,h2,h3⟩;rcases get' b x h1 with⟨g1,g2,g3⟩|g1
  ·obtain⟨pl0,e1,e2⟩:=rest b x g1 g3;have h2':σ'.map b=some pl:=h2;rw[hmap b pl0 e1]at h2';cases h2';exact(hW.apart c hc).2 ⟨b,x,pl,g3,e1,h3⟩
  ·exact(hW1.apart c (frK c hc)).2 ⟨b,x,pl,g1,h2,h3⟩
 ·intro b b' x x' pl pl' h1 h2 h3 h4 h5;have h3':σ'.map b=some pl:=h3;have h4':σ'.map b'=some pl':=h4;rcases get' b x h1 with⟨g1,g2,g3⟩|g1
  ·obtain⟨pl0,e1,e2⟩:=rest b x g1 g3;rw[hmap b pl0 e1]at h3';cases h3';rcases get' b' x' h2 with⟨k1,k2,k3⟩|k1
   ·obtain⟨pl1,f1,f2⟩:=rest b' x' k1 k3;rw[hmap b' pl1 f1]at h4';cases h4';exact hW.inj b b' x x' pl pl' g3 k3 e1 f1 h5
   ·exact absurd ⟨b',x',pl',k1,h4,h5.symm⟩ (hW1.apart _ e2).2
  ·rcases get' b' x' h2 with⟨k1,k2,k3⟩|k1
   ·obtain⟨pl1,f1,f2⟩:=rest b' x' k1 k3;rw[hmap b' pl1 f1]at h4';cases h4';exact absurd ⟨b,x,pl,g1,h3,h5⟩ (hW1.apart _ f2).2
   ·exact hW1.inj b b' x x' pl pl' g1 k1 h3 h4 h5
end
end
section
def iH(ops:Array Oper)(o:Oper):List Tmp:=
 o.dst.toList++(bU o.op).filterMap (fun|.tmp t=>some t|_=>none)++(match o.guard with|none=>[]|some (j,_)=>((ops[j]?).bind (·.dst)).toList)
def nF(ops:Array Oper):Prop:=∀(i j:Nat) (oi oj:Oper),j<i→ops[i]? =some oi→ops[j]? =some oj→
 ((ca ops.toList []).getD i 0).testBit j=true∨((∀t,oj.dst=some t→t∉iH ops oi)∧(∀t,oi.dst=some t→t∉iH ops oj))
def wr(ops:Array Oper)(t:Tmp)(i:Nat):Bool:=match ops[i]? with|some o=>o.dst==some t|none=>false
def cP(r:Option tB)(c:Nat):Bool:=match r with
 |none=>false
 |some x=>x.writes.contains c||x.made.contains c||(x.isCall&&decide (x.lo≤c)&&decide (c<x.hi))
theorem uc{r:Option tB}{c:Nat}:cP r c=true↔touched r c:=by
 cases r with
 |none=>simp[cP,touched]
 |some x=>simp[cP,touched,or_assoc,and_assoc]
def iw(r:Option tB):Bool:=match r with|none=>false|some x=>x.isCall
section
variable {P:Program} {F:TypeId→Option (List TypeId)} {call:FuncId→List AV→ac→Option (AV×ac)} {ops:Array Oper} {base:Nat} {τ0:List AV} {H0:ac}
theorem JB{i mask:Nat}{τ τ':List AV}{H H':ac}{r:Option tB}(h:bH P F call ops base i mask τ H=some (τ',H',r)):∃o v,ops[i]? =some o∧τ'=gj τ o.dst v:=by
 unfold bH at h;split at h
 ·cases h
 ·rename_i o ho;refine⟨o,?_⟩
  repeat' (first|(cases h;exact⟨_,ho,rfl⟩)|(cases h;done)|split at h)
structure dm(P:Program)(F:TypeId→Option (List TypeId))(call:FuncId→List AV→ac→Option (AV×ac))(ops:Array Oper)(base:Nat)(τ0:List AV)(H0:ac):Prop where
 bd:∀i,i≤ops.size→Bd (eJ P F call ops base τ0 H0 i).2
 le:∀i,i≤ops.size→H0.next≤(eJ P F call ops base τ0 H0 i).2.next
 fresh:∀i j,i≤j→j<ops.size→(eJ P F call ops base τ0 H0 i).2.get (base+j)=none
 len:∀i,i≤ops.size→(eJ P F call ops base τ0 H0 i).1.length=τ0.length
 chg:∀i,i<ops.size→SW base i (eJ P F call ops base τ0 H0 i).2 (eJ P F call ops base τ0 H0 (i+1)).2 (gq P F call ops base τ0 H0 i)
theorem ND(hch:∀f args H v H',Bd H→call f args H=some (v,H')→Cf H H')(run:mj P F call ops base τ0 H0)(hbd:Bd H0)(hn:base+ops.size=H0.next)(hfr:∀j,j<ops.size→H0.get (base+j)=none):dm P F call ops base τ0 H0:=by
 have key:∀i,i≤ops.size→Bd (eJ P F call ops base τ0 H0 i).2∧H0.next≤(eJ P F call ops base τ0 H0 i).2.next∧(∀j,i≤j→j<ops.size→(eJ P F call ops base τ0 H0 i).2.get (base+j)=none)∧(eJ P F call ops base τ0 H0 i).1.length=τ0.length:=by
  intro i
  induction i with
  |zero=>intro _;exact⟨hbd,X7 _,λj _ hj=>hfr j hj,rfl⟩
  |succ i ih=>intro hi;obtain⟨a1,a2,a3,a4⟩:=ih ZJ;have hst:=run.step i ZJ;have d:=jk hch a1 ZJ hst;obtain⟨o,v,_,hv⟩:=JB hst;refine⟨d.bd a1,Yn a2 d.next,λj h1 h2=>d.dom _ ZJ ZJ (a3 j ZJ h2),?_⟩;rw[hv,←a4];cases o.dst<;>simp[gj]
 exact⟨λi hi=>(key i hi).1,λi hi=>(key i hi).2.1,λi j h1 h2=>(key i ZJ).2.2.1 j h1 h2,λi hi=>(key i hi).2.2.2,λi hi=>jk hch (key i ZJ).1 (by have:=(key i ZJ).2.1;omega) (run.step i hi)⟩
def qa(P:Program)(F:TypeId→Option (List TypeId))(call:FuncId→List AV→ac→Option (AV×ac))(ops:Array Oper)(base:Nat)(τ0:List AV)(H0:ac)(L:Nat→Bool)(t:Tmp):Option AV:=
 match cC (λj=>L j&&wr ops t j) ops.size with
 |some j=>(eJ P F call ops base τ0 H0 (j+1)).1[t]?
 |none=>τ0[t]?
def hget(P:Program)(F:TypeId→Option (List TypeId))(call:FuncId→List AV→ac→Option (AV×ac))(ops:Array Oper)(base:Nat)(τ0:List AV)(H0:ac)(L:Nat→Bool)(c:Nat):Option Blk:=
 match cC (λj=>L j&&cP (gq P F call ops base τ0 H0 j) c) ops.size with
 |some j=>(eJ P F call ops base τ0 H0 (j+1)).2.get c
 |none=>H0.get c
def HX(P:Program)(F:TypeId→Option (List TypeId))(call:FuncId→List AV→ac→Option (AV×ac))(ops:Array Oper)(base:Nat)(τ0:List AV)(H0:ac)(L:Nat→Bool):Nat:=
 match cC (λj=>L j&&iw (gq P F call ops base τ0 H0 j)) ops.size with
 |some j=>(eJ P F call ops base τ0 H0 (j+1)).2.next
 |none=>H0.next
theorem Rt{τ:List AV}{d:Option Tmp}{v:AV}{t:Tmp}(h:(d==some t)=false):(gj τ d v)[t]? =τ[t]? :=by
 cases d with
 |none=>rfl
 |some d=>
  have:d≠t:=by simpa using h
  simp only[gj,Yu];rw[if_neg this]
theorem Lq(run:mj P F call ops base τ0 H0)(t:Tmp):∀k,k≤ops.size→(eJ P F call ops base τ0 H0 k).1[t]? =match cC (wr ops t) k with|some j=>(eJ P F call ops base τ0 H0 (j+1)).1[t]?|none=>τ0[t]?
 |0,_=>rfl
 | k+1,hk=>by
  unfold cC;cases hw:wr ops t k with
  |true=>simp
  |false=>simp only[YB,if_false];rw[←Lq run t k ZJ];obtain⟨o,v,ho,hv⟩:=JB (run.step k ZJ);rw[hv];simp only[wr,ho]at hw;exact Rt hw
theorem Lr(run:mj P F call ops base τ0 H0)(rf:dm P F call ops base τ0 H0)(c:Nat):∀k,k≤ops.size→(eJ P F call ops base τ0 H0 k).2.get c=match cC (λj=>cP (gq P F call ops base τ0 H0 j) c) k with|some j=>(eJ P F call ops base τ0 H0 (j+1)).2.get c|none=>H0.get c
 |0,_=>rfl
 | k+1,hk=>by
  unfold cC;cases hw:cP (gq P F call ops base τ0 H0 k) c with
  |true=>simp
  |false=>simp only[YB,if_false];rw[←Lr run rf c k ZJ];exact(rf.chg k ZJ).keep (rf.bd k ZJ) c (λht=>by rw[uc.2 ht]at hw;cases hw)
theorem GD{i mask:Nat}{τ τ':List AV}{H H':ac}{r:Option tB}(h:bH P F call ops base i mask τ H=some (τ',H',r))(hc:iw r=false):H'.next=H.next:=by
 unfold bH at h;split at h
 ·cases h
 ·split at h
  ·split at h
   ·rename_i hop;cases h;have:=D9 hop;exact this
   ·split at h
    ·cases h;simp[iw]at hc
    ·cases h
   ·cases h
  ·cases h;rfl
  ·cases h
theorem Ls(run:mj P F call ops base τ0 H0):∀k,k≤ops.size→(eJ P F call ops base τ0 H0 k).2.next=match cC (λj=>iw (gq P F call ops base τ0 H0 j)) k with|some j=>(eJ P F call ops base τ0 H0 (j+1)).2.next|none=>H0.next
 |0,_=>rfl
 | k+1,hk=>by
  unfold cC;cases hw:iw (gq P F call ops base τ0 H0 k)with
  |true=>simp
  |false=>simp only[YB,if_false];rw[←Ls run k ZJ];exact GD (run.step k ZJ) hw
structure Next(ops:Array Oper)(L:Nat→Bool)(i:Nat):Prop where
 lt:i<ops.size
 not:L i=false
 closed:HW ops L
 edges:∀(o:Oper),ops[i]? =some o→∀e∈o.after.toList,Region.binds .any e=true→L e.on=true
theorem Next.before{L:Nat→Bool}{i:Nat}(h:Next ops L i){j:Nat}(hb:((ca ops.toList []).getD i 0).testBit j=true):L j=true:=
 h.closed.ahead i _ (YA h.lt) (h.edges _ (YA h.lt)) j hb
theorem Next.behind{L:Nat→Bool}{i:Nat}(h:Next ops L i){j:Nat}(hj:j<ops.size)(hb:((ca ops.toList []).getD j 0).testBit i=true):L j=false:=by
 cases hL:L j with
 |false=>rfl
 |true=>have:=h.closed.ahead j _ (YA hj) (h.closed j _ (YA hj) hL) i hb;rw[h.not]at this;cases this
theorem Ru(run:mj P F call ops base τ0 H0)(hst:nF ops){L:Nat→Bool}{i:Nat}(nx:Next ops L i){o:Oper}(ho:ops[i]? =some o){t:Tmp}(ht:t∈iH ops o):
  qa P F call ops base τ0 H0 L t=(eJ P F call ops base τ0 H0 i).1[t]? :=by
 have hord:∀j,j<ops.size→j≠i→wr ops t j=true→(j<i→L j=true)∧(i<j→L j=false):=λj hj hne hw=>by
  have hoj:ops[j]? =some ops[j]:=YA hj;simp only[wr,hoj]at hw;have hd:(ops[j]).dst=some t:=by simpa using hw
  refine⟨λhlt=>?_,λhlt=>?_⟩
  ·rcases hst i j o _ hlt ho hoj with h1|⟨h1,_⟩
   ·exact nx.before h1
   ·exact absurd ht (h1 t hd)
  ·rcases hst j i _ o hlt hoj ho with h1|⟨_,h1⟩
   ·exact nx.behind hj h1
   ·exact absurd ht (h1 t hd)
 rw[Lq run t i (by have:=nx.lt;omega),qa,p9 nx.lt nx.not hord]
end
end
section
theorem ml{l m:List Nat}(h:apart l m=true){x:Nat}(hx:x∈l):x∉m:=by unfold apart at h;rw[Yo]at h;have:=h x hx;simpa using this
structure VD(x y:tB):Prop where
 wr:∀c∈x.writes,c∉y.reads
 ww:∀c∈x.writes,c∉y.writes
 rw:∀c∈x.reads,c∉y.writes
 mr:∀c∈x.made,c∉y.reads
 mw:∀c∈x.made,c∉y.writes
 cc:x.isCall=true→y.isCall=false
 cw:x.isCall=true→∀c,c∉y.writes
 cr:x.isCall=true→∀c∈y.reads,¬(x.lo≤c∧c<x.hi)
 wc:y.isCall=true→∀c,c∉x.writes
theorem eO{x y:tB}(h:mb x y=false):VD x y:=by
 unfold mb at h;simp only[Bool.or_eq_false_iff,Bool.not_eq_false',Yl,Bool.and_eq_false_iff]at h;obtain⟨⟨⟨⟨⟨⟨h1,h2⟩,h3⟩,h4⟩,h5⟩,h6⟩,h7⟩:=h;refine⟨λc hc=>ml h1 hc,λc hc=>ml h2 hc,λc hc=>ml h3 hc,λc hc=>ml h4 hc,λc hc=>ml h5 hc,λhx=>?_,λhx c hc=>?_,λhx c hc hr=>?_,λhy c hc=>?_⟩
 ·rcases h6 with h6|⟨⟨h6,_⟩,_⟩
  ·rw[hx]at h6;cases h6
  ·exact h6
 ·rcases h6 with h6|⟨⟨_,h6⟩,_⟩
  ·rw[hx]at h6;cases h6
  ·simp at h6;rw[h6]at hc;simp at hc
 ·rcases h6 with h6|⟨_,h6⟩
  ·rw[hx]at h6;cases h6
  ·rw[List.any_eq_false]at h6;exact h6 c hc (by simpa using hr)
 ·rcases h7 with h7|h7
  ·rw[hy]at h7;cases h7
  ·simp at h7;rw[h7]at hc;simp at hc
section
variable {P:Program} {F:TypeId→Option (List TypeId)} {call:FuncId→List AV→ac→Option (AV×ac)} {ops:Array Oper} {base:Nat} {τ0:List AV} {H0:ac}
theorem G8(rf:dm P F call ops base τ0 H0){i:Nat}:∀{j:Nat},i≤j→j≤ops.size→(eJ P F call ops base τ0 H0 i).2.next≤(eJ P F call ops base τ0 H0 j).2.next
 |0,h1,_=>by rw[show i=0 by omega];exact X7 _
 | j+1,h1,h2=>by
  rcases Zk h1 with rfl|hlt
  ·exact X7 _
  ·exact Yn (G8 rf (show i≤j by omega) ZJ) (rf.chg j ZJ).next
theorem later(run:mj P F call ops base τ0 H0)(rf:dm P F call ops base τ0 H0){i j c:Nat}{r y:tB}{b:Blk}(hij:i<j)(hj:j<ops.size)(hi:gq P F call ops base τ0 H0 i=some r)(hy:gq P F call ops base τ0 H0 j=some y)(ht:touched (gq P F call ops base τ0 H0 j) c)
  (hl:(eJ P F call ops base τ0 H0 i).2.get c=some b):((ca ops.toList []).getD j 0).testBit i=true∨(VD r y∧(c∈y.writes∨(y.isCall=true∧False))):=by
 rcases run.free j i r y hij hj hi hy with h1|h1
 ·exact .inl h1
 ·right;refine⟨eO h1,?_⟩;obtain⟨x,hx,ht⟩:=ht;rw[hy]at hx;cases hx;rcases ht with ht|ht|⟨t1,t2,_⟩
  ·exact .inl ht
  ·have:=((rf.chg j hj).made y hy).1 c ht;subst this;rw[rf.fresh i j ZJ hj]at hl;cases hl
  ·have h2:=((rf.chg j hj).made y hy).2 t1;have h3:=G8 rf (show i≤j by omega) ZJ;rw[rf.bd i ZJ c ZJ]at hl;cases hl
theorem MB(run:mj P F call ops base τ0 H0)(rf:dm P F call ops base τ0 H0){L:Nat→Bool}{i:Nat}(nx:Next ops L i){c:Nat}
  (hord:∀j,j<ops.size→j≠i→touched (gq P F call ops base τ0 H0 j) c→(j<i→((ca ops.toList []).getD i 0).testBit j=true)∧(i<j→((ca ops.toList []).getD j 0).testBit i=true)) :
  hget P F call ops base τ0 H0 L c=(eJ P F call ops base τ0 H0 i).2.get c:=by
 rw[Lr run rf c i (by have:=nx.lt;omega),hget,p9 (p:=λj=>cP (gq P F call ops base τ0 H0 j) c) nx.lt nx.not];intro j hj hne ht;obtain⟨h1,h2⟩:=hord j hj hne (uc.1 ht);exact⟨λhlt=>nx.before (h1 hlt),λhlt=>nx.behind hj (h2 hlt)⟩
theorem OQ(run:mj P F call ops base τ0 H0)(rf:dm P F call ops base τ0 H0){i c:Nat}{r:tB}{b:Blk}(hi:i<ops.size)(hr:gq P F call ops base τ0 H0 i=some r)(hc:c∈r.reads)(hl:(eJ P F call ops base τ0 H0 i).2.get c=some b):
  ∀j,j<ops.size→j≠i→touched (gq P F call ops base τ0 H0 j) c→(j<i→((ca ops.toList []).getD i 0).testBit j=true)∧(i<j→((ca ops.toList []).getD j 0).testBit i=true):=by
 intro j hj hne ht;obtain⟨x,hx,ht'⟩:=ht;refine⟨λhlt=>?_,λhlt=>?_⟩
 ·rcases run.free i j x r hlt hi hx hr with h1|h1
  ·exact h1
  ·exfalso;have fr:=eO h1;rcases ht' with t|t|⟨t1,t2,t3⟩
   ·exact fr.wr c t hc
   ·exact fr.mr c t hc
   ·exact fr.cr t1 c hc ⟨t2,t3⟩
 ·rcases later run rf hlt hj hr hx ⟨x,hx,ht'⟩ hl with h1|⟨h1,h2|⟨_,h2⟩⟩
  ·exact h1
  ·exact absurd h2 (h1.rw c hc)
  ·exact h2.elim
theorem JC{o:Op}{ρ:Operand→AV}{b c:Nat}{v:AV}{H H':ac}(h:aM P F o ρ b H=some (.val v H'))(hc:c∈aF o ρ):∃x,H.get c=some x:=by
 cases o with
 |load t a=>
  simp only[aM]at h;obtain⟨h1,_⟩:=fG h;simp only[aF]at hc;generalize ρ a=y at h1 hc;cases y<;>simp[aa]at hc<;>simp[oA]at h1;subst hc;cases hg:H.get _ with
  |none=>rw[hg]at h1;simp at h1
  |some x=>exact⟨x,rfl⟩
 |store t a x=>
  simp only[aM]at h;cases hst:gl P H t (ρ a) (ρ x)with
  |none=>rw[hst]at h;cases h
  |some K=>
   simp only[aF]at hc;unfold gl at hst;split at hst
   ·rename_i d i off cs n ha hcs hn;rw[ha]at hc;simp[aa]at hc;subst hc;split at hst
    ·rename_i y hy;exact⟨y,hy⟩
    ·cases hst
   ·cases hst
 |indexAddr t x ix=>
  simp only[aM]at h;obtain⟨h1,_⟩:=fG h;simp only[aF]at hc;generalize ρ x=y at h1 hc;cases y<;>simp[ed]at hc;subst hc;cases hg:H.get c with
  |some x=>exact⟨x,rfl⟩
  |none=>
   exfalso;simp only[dS,nw,hg,Option.map_none,Option.isSome_none,YB,false_and,and_false,if_false]at h1;split at h1
   ·split at h1
    ·cases h1
    ·split at h1<;>simp_all
   ·cases h1
 |slice t x lo hi mx=>
  simp only[aM]at h;split at h
  ·cases h
  ·obtain⟨h1,_⟩:=fG h;simp only[aF]at hc;generalize ρ x=y at h1 hc;cases y<;>simp[ed]at hc;subst hc;cases hg:H.get c with
   |some x=>exact⟨x,rfl⟩
   |none=>
    exfalso;simp only[lz,nw,hg,Option.map_none,Option.isSome_none,YB,false_and,if_false]at h1;split at h1
    ·split at h1
     ·split at h1<;>cases h1
     ·cases h1
    ·cases h1
    ·cases h1
 |call k=>
  simp only[aF]at hc;split at hc
  ·rename_i hk;simp only[aM,hk]at h;cases hbi:aX P H b .append k.argTypes (k.args.toList.map ρ)with
   |none=>rw[hbi]at h;cases h
   |some q=>
    unfold aX at hbi;split at hbi
    ·rename_i e _;cases e
    ·rename_i _ e _;cases e
    ·rename_i s x e heq;obtain⟨a0,a1,hargs,h0,h1⟩:=rr heq;rw[hargs]at hc;simp only[List.flatMap_cons,List.flatMap_nil,YM,h0,h1,Yg]at hc;split at hbi
     ·split at hbi
      ·unfold cS at hbi;split at hbi
       ·split at hbi
        ·split at hbi
         ·rename_i l m hl hm;have aux:∀{y:AV} {q n},fM H n y=some q→c∈aa y→∃x,H.get c=some x:=λ{y} {q} {n} hy hcy=>by
           cases y<;>simp[aa]at hcy<;>simp[fM]at hy;subst hcy;split at hy
           ·rename_i x hx;exact⟨x,hx⟩
           ·cases hy
          rcases hc with hc|hc
          ·exact aux hl hc
          ·exact aux hm hc
         ·cases hbi
        ·cases hbi
       ·cases hbi
      ·cases hbi
     ·cases hbi
    ·rename_i e _;cases e
    ·rename_i e _;cases e
    ·rename_i e _;cases e
    ·cases hbi
  ·rename_i hk;simp only[aM,hk]at h;cases hbi:aX P H b .clear k.argTypes (k.args.toList.map ρ)with
   |none=>rw[hbi]at h;cases h
   |some q=>
    unfold aX at hbi;split at hbi
    ·rename_i e _;cases e
    ·rename_i _ e _;cases e
    ·rename_i e _;cases e
    ·rename_i e _;cases e
    ·rename_i e _;cases e
    ·rename_i x e heq;obtain⟨a0,hargs,h0⟩:=rq heq;rw[hargs]at hc;simp only[List.flatMap_cons,List.flatMap_nil,YM,h0]at hc;split at hbi
     ·rw[Zz]at hbi;obtain⟨K1,hk1,_⟩:=hbi;unfold fo at hk1;split at hk1
      ·split at hk1
       ·split at hk1
        ·simp[aa]at hc
        ·simp[aa]at hc;subst hc;split at hk1
         ·rename_i y hy;exact⟨y,hy⟩
         ·cases hk1
        ·cases hk1
       ·cases hk1
      ·cases hk1
     ·cases hbi
    ·cases hbi
  ·simp at hc
 |lookup t m k ok=>simp only[aM]at h;obtain⟨h1,rfl⟩:=fG h;obtain⟨q,x,hm,hx,_⟩:=D8 h1;simp only[aF,hm,aa,Ye]at hc;exact⟨x,by rw[hc];exact hx⟩
 |mapUpdate t m k x=>
  simp only[aM]at h;cases hs:fa P H t (ρ m) (ρ k) (ρ x)with
  |none=>rw[hs]at h;cases h
  |some H2=>obtain⟨q,y,y',hm,hy,_⟩:=nC hs;simp only[aF,hm,aa,Ye]at hc;exact⟨y,by rw[hc];exact hy⟩
 |next it s=>
  cases s with
  |false=>simp[aM]at h
  |true=>
   simp only[aM]at h;cases hs:iT H (ρ it)with
   |none=>rw[hs]at h;cases h
   |some r=>obtain⟨q,y,hm,hy,_⟩:=xD hs;simp only[aF,hm,aa,Ye]at hc;exact⟨y,by rw[hc];exact hy⟩
 |_=>simp[aF]at hc
theorem xI{o:Op}{ρ:Operand→AV}{c:Nat}(hc:c∈aD o ρ):c∈aF o ρ:=by
 cases o with
 |store t a x=>exact hc
 |call k=>
  simp only[aD]at hc;simp only[aF];split at hc
  ·rename_i hk;rw[List.mem_flatMap]at hc ⊢;obtain⟨x,h1,h2⟩:=hc;exact⟨x,List.mem_of_mem_take h1,h2⟩
  ·exact hc
  ·simp at hc
 |mapUpdate t m k x=>exact hc
 |next it s=>exact hc
 |_=>simp[aD]at hc
end
end
section
def jl(L:Nat→Bool)(i:Nat):Nat→Bool:=λj=>if j=i then true else L j
theorem Ef{p:Nat→Bool}:∀{k j:Nat},cC p k=some j→j<k
 |0,j,h=>by cases h
 | k+1,j,h=>by
  unfold cC at h;split at h
  ·cases h;omega
  ·have:=Ef h;omega
def G9(H:ac):List Nat→ac→ac
 |[],K=>K
 |c::l,K=>G9 H l {K with tr:=K.tr.set c (H.get c)}
theorem JD(H:ac):∀(l:List Nat) (K:ac) (c:Nat),(G9 H l K).get c=if c∈l then H.get c else K.get c
 |[],K,c=>by simp[G9]
 | d::l,K,c=>by
  rw[G9,JD H l];by_cases h1:c∈l
  ·rw[if_pos h1,if_pos (by simp[h1])]
  ·rw[if_neg h1];show(K.tr.set d (H.get d)).get c=_;rw[Tr.get_set];by_cases h2:d=c
   ·subst h2;rw[if_pos rfl,if_pos ZM]
   ·rw[if_neg h2,if_neg (by simp[h1];exact λe=>h2 e.symm)];rfl
section
variable {P:Program} {F:TypeId→Option (List TypeId)} {call:FuncId→List AV→ac→Option (AV×ac)} {ops:Array Oper} {base:Nat} {τ0:List AV} {H0:ac}
def Vy(P:Program)(F:TypeId→Option (List TypeId))(call:FuncId→List AV→ac→Option (AV×ac))(ops:Array Oper)(base:Nat)(τ0:List AV)(H0:ac)(w0:World)(σ0:bD)(L:Nat→Bool)(a:Act)(w:World):Prop:=
 ∃σ K,bu w σ K∧(∀c,K.get c=hget P F call ops base τ0 H0 L c)∧K.next=HX P F call ops base τ0 H0 L∧a.tmps.size=τ0.length∧a.defers=[]∧(∀t x u,qa P F call ops base τ0 H0 L t=some x→a.tmps[t]? =some u→bb w σ (aK σ K) x u)∧
  eI w0 σ0 (aK σ0 H0) w σ (aK σ K)∧(∀c pl,σ c=some pl→σ0 c=some pl∨base≤c)∧(∀i,i<ops.size→L i=false→σ (base+i)=none)
def tl(P:Program)(F:TypeId→Option (List TypeId))(call:FuncId→List AV→ac→Option (AV×ac))(ops:Array Oper)(base:Nat)(τ0:List AV)(H0:ac)(L:Nat→Bool):List AV:=
 (List.range τ0.length).map λt=>(qa P F call ops base τ0 H0 L t).getD bL
theorem JE(rf:dm P F call ops base τ0 H0)(L:Nat→Bool)(t:Tmp):(t<τ0.length→∃x,qa P F call ops base τ0 H0 L t=some x)∧(τ0.length≤t→qa P F call ops base τ0 H0 L t=none):=by
 unfold qa;split
 ·rename_i j hj;have hl:=rf.len (j+1) (Ef hj);exact⟨λht=>⟨_,X6 (by rw[hl];exact ht)⟩,λht=>X8 (by rw[hl];exact ht)⟩
 ·exact⟨λht=>⟨_,X6 ht⟩,λht=>X8 ht⟩
theorem OR(rf:dm P F call ops base τ0 H0)(L:Nat→Bool)(t:Tmp):(tl P F call ops base τ0 H0 L)[t]? =qa P F call ops base τ0 H0 L t:=by
 unfold tl;rw[Ym];rcases X9 t τ0.length with h|h
 ·rw[ZG h];obtain⟨x,hx⟩:=(JE rf L t).1 h;simp[hx]
 ·rw[X8 (by simpa using h),(JE rf L t).2 h];rfl
theorem VE(rf:dm P F call ops base τ0 H0){L:Nat→Bool}{a:Act}{w:World}{σ:bD}{T:Nat→Prop}(h1:a.tmps.size=τ0.length)(h2:a.defers=[])(h3:∀t x u,qa P F call ops base τ0 H0 L t=some x→a.tmps[t]? =some u→bb w σ T x u):
  cD w σ T (tl P F call ops base τ0 H0 L) a:=
 ⟨⟨by simp[tl,h1],λt x u hx hu=>h3 t x u (by rw[←OR rf];exact hx) (by rw[←Yy];exact hu)⟩,h2⟩
theorem Rv{l m:List AV}{t:Nat}(h:l[t]? =m[t]?):l.getD t bL=m.getD t bL:=by simp[List.getD,h]
theorem OS(run:mj P F call ops base τ0 H0)(rf:dm P F call ops base τ0 H0)(hst:nF ops){L:Nat→Bool}{i:Nat}(nx:Next ops L i){o:Oper}(ho:ops[i]? =some o):
  (∀x∈bU o.op,kC (eJ P F call ops base τ0 H0 i).1 x=kC (tl P F call ops base τ0 H0 L) x)∧dF ops o (tl P F call ops base τ0 H0 L)=dF ops o (eJ P F call ops base τ0 H0 i).1:=by
 have ht:∀t∈iH ops o,(tl P F call ops base τ0 H0 L)[t]? =(eJ P F call ops base τ0 H0 i).1[t]? :=λt h=>by rw[OR rf,Ru run hst nx ho h]
 refine⟨λx hx=>?_,?_⟩
 ·cases x with
  | tmp t=>exact(Rv (ht t (by
    simp only[iH,Yg];exact .inl (.inr (List.mem_filterMap.2 ⟨.tmp t,hx,rfl⟩))))).symm
  |const v=>rfl
  |global g=>rfl
  |func f=>rfl
 ·unfold dF;cases hg:o.guard with
  |none=>rfl
  |some q=>
   obtain⟨j,want⟩:=q;simp only[];cases hd:(ops[j]?).bind (·.dst)with
   |none=>rfl
   |some d=>simp only[];rw[ht d (by simp only[iH,Yg,hg,hd];right;simp)]
theorem Eg(run:mj P F call ops base τ0 H0)(rf:dm P F call ops base τ0 H0)(hst:nF ops){L:Nat→Bool}{i:Nat}(nx:Next ops L i){o:Oper}(ho:ops[i]? =some o){v:AV}{v':Value}{a:Act}{w w':World}{σ σ':bD}{T T':Nat→Prop}
  (hv:(eJ P F call ops base τ0 H0 (i+1)).1=gj (eJ P F call ops base τ0 H0 i).1 o.dst v) (hr:bb w' σ' T' v v') (h1:a.tmps.size=τ0.length) (h3:∀t x u,qa P F call ops base τ0 H0 L t=some x→a.tmps[t]? =some u→bb w σ T x u) (hE:∀x u,bb w σ T x u→bb w' σ' T' x u) :
  (a.put o.dst v').tmps.size=τ0.length∧∀t x u,qa P F call ops base τ0 H0 (jl L i) t=some x→(a.put o.dst v').tmps[t]? =some u→bb w' σ' T' x u:=by
 refine⟨by cases o.dst<;>simp[Act.put,h1],λt x u hx hu=>?_⟩;by_cases hw:wr ops t i=true
 ·have hd:o.dst=some t:=by simpa[wr,ho]using hw
  have hl:cC (λj=>jl L i j&&wr ops t j) ops.size=some i:=by
   refine AA nx.lt nx.not hw λj hj hne hwj hlt=>?_
   have hoj:ops[j]? =some ops[j]:=YA hj;have hdj:(ops[j]).dst=some t:=by simpa[wr,hoj]using hwj
   rcases hst j i _ o hlt hoj ho with h4|⟨h4,_⟩
   ·exact nx.behind hj h4
   ·exact absurd (by simp[iH,hdj]) (h4 t hd)
  unfold qa at hx;rw[hl]at hx;simp only[hv,hd,gj,Yu]at hx;simp only[hd,Act.put,Array.getElem?_setIfInBounds]at hu;simp only[if_true]at hx hu;split at hx
  ·split at hu
   ·cases hx;cases hu;exact hr
   ·cases hu
  ·cases hx
 ·have hw':wr ops t i=false:=by simpa using hw
  have hd:(o.dst==some t)=false:=by simpa[wr,ho]using hw'
  have hl:cC (λj=>jl L i j&&wr ops t j) ops.size=cC (λj=>L j&&wr ops t j) ops.size:=nE hw';have hx':qa P F call ops base τ0 H0 L t=some x:=by unfold qa at hx ⊢;rw[hl]at hx;exact hx
  refine hE x u (h3 t x u hx' ?_);rw[←hu];cases hdd:o.dst with
  |none=>rfl
  |some d=>
   have:d≠t:=by rw[hdd]at hd;simpa using hd
   simp[Act.put,this]
end
end
section
section
variable {P:Program} {F:TypeId→Option (List TypeId)} {call:FuncId→List AV→ac→Option (AV×ac)} {ops:Array Oper} {base:Nat} {τ0:List AV} {H0:ac}
theorem MC(rf:dm P F call ops base τ0 H0)(L:Nat→Bool):H0.next≤HX P F call ops base τ0 H0 L:=by
 unfold HX;split
 ·rename_i j hj;exact rf.le (j+1) (Ef hj)
 ·exact X7 _
theorem AB{L:Nat→Bool}{i c:Nat}(h:cP (gq P F call ops base τ0 H0 i) c=false):hget P F call ops base τ0 H0 (jl L i) c=hget P F call ops base τ0 H0 L c:=by have hl:cC (λj=>jl L i j&&cP (gq P F call ops base τ0 H0 j) c) ops.size=cC (λj=>L j&&cP (gq P F call ops base τ0 H0 j) c) ops.size:=nE (p:=λj=>cP (gq P F call ops base τ0 H0 j) c) h;unfold hget;rw[hl]
theorem JF{L:Nat→Bool}{i c:Nat}(nx:Next ops L i)(h:cP (gq P F call ops base τ0 H0 i) c=true)(hl:∀j,j<ops.size→j≠i→touched (gq P F call ops base τ0 H0 j) c→i<j→((ca ops.toList []).getD j 0).testBit i=true):hget P F call ops base τ0 H0 (jl L i) c=(eJ P F call ops base τ0 H0 (i+1)).2.get c:=by
 have hw:cC (λj=>jl L i j&&cP (gq P F call ops base τ0 H0 j) c) ops.size=some i:=AA (p:=λj=>cP (gq P F call ops base τ0 H0 j) c) nx.lt nx.not h λj hj hne ht hlt=>nx.behind hj (hl j hj hne (uc.1 ht) hlt)
 unfold hget;rw[hw]
theorem OT(fit:Fit P F)(hs:eC P call)(hch:∀f args H v H',Bd H→call f args H=some (v,H')→Cf H H')(run:mj P F call ops base τ0 H0)(rf:dm P F call ops base τ0 H0)(hst:nF ops)(hb:base+ops.size=H0.next)
  {w0:World} {σ0:bD} {L:Nat→Bool} {i:Nat} {a:Act} {w:World} (nx:Next ops L i) (h:Vy P F call ops base τ0 H0 w0 σ0 L a w) {Q:Exit→Act→World→Prop}:wpOp P ops Q i (Vy P F call ops base τ0 H0 w0 σ0 (jl L i)) a w:=by
 obtain⟨σ,K,hW,hK,hn,hsz,hdf,hrep,hE0,hnm,hfr⟩:=h;have hi:=nx.lt;obtain⟨o,ho⟩:∃o,ops[i]? =some o:=⟨_,YA hi⟩;obtain⟨hu,hwt⟩:=OS run rf hst nx ho;have htm:=VE rf hsz hdf hrep;have hbi:σ (base+i)=none:=hfr i hi nx.not;have hKb:K.get (base+i)=none:=by
  cases hg:K.get (base+i)with
  |none=>rfl
  |some x=>obtain⟨pl,_,_,h1,_⟩:=hW.live _ x hg;rw[hbi]at h1;cases h1
 have hSb:(eJ P F call ops base τ0 H0 i).2.get (base+i)=none:=rf.fresh i i (X7 _) hi;have hlt:base+i<K.next:=by have:=MC rf L;rw[hn];omega
 have hfresh:∀{σ':bD},(∀c pl,σ' c=some pl→σ c=some pl∨c=base+i∨K.next≤c)→∀j,j<ops.size→jl L i j=false→σ' (base+j)=none:=λ{σ'} hσ j hj hLj=>by
  have hji:j≠i:=by rintro rfl;simp[jl]at hLj
  have hL:L j=false:=by simpa[jl,hji]using hLj
  cases hg:σ' (base+j)with
  |none=>rfl
  |some pl=>
   have hge:=MC rf L;rcases hσ _ pl hg with h1|h1|h1
   ·rw[hfr j hj hL]at h1;cases h1
   ·omega
   ·omega
 have hstep:=run.step i hi;unfold bH at hstep;rw[ho]at hstep;simp only[]at hstep;unfold wpOp;rw[ho];simp only[];split at hstep
 ·rename_i hwant;rw[←hwt]at hwant;rw[if_pos (jj htm hwant)];left;unfold Oper.wp;split at hstep
  ·rename_i v H' hop;simp only[Yi,Prod.mk.injEq]at hstep;obtain⟨e1,e2,e3⟩:=hstep;obtain⟨q1,q2,q3⟩:=MA (P:=P) (F:=F) hu (base+i) (eJ P F call ops base τ0 H0 i).2;have hop2:aM P F o.op (kC (tl P F call ops base τ0 H0 L)) (base+i) (eJ P F call ops base τ0 H0 i).2=some (.val v H'):=by rw[←q1];exact hop
   have hreads:∀c,c∈aF o.op (kC (tl P F call ops base τ0 H0 L))→∃x,(eJ P F call ops base τ0 H0 i).2.get c=some x∧∀j,j<ops.size→j≠i→touched (gq P F call ops base τ0 H0 j) c→(j<i→((ca ops.toList []).getD i 0).testBit j=true)∧(i<j→((ca ops.toList []).getD j 0).testBit i=true):=λc hc=>by obtain⟨x,hx⟩:=JC hop2 hc;exact⟨x,hx,OQ run rf hi e3.symm (by show c∈aF o.op (kC (eJ P F call ops base τ0 H0 i).1);rw[q2];exact hc) hx⟩
   have hr:∀c∈aF o.op (kC (tl P F call ops base τ0 H0 L)),K.get c=(eJ P F call ops base τ0 H0 i).2.get c:=λc hc=>by obtain⟨x,_,h1⟩:=hreads c hc;rw[hK];exact MB run rf nx h1
   obtain⟨K',l1,l2,l3⟩:=NB hop2 K hr (by rw[hKb,hSb]);obtain⟨v',w',σ',h1,h2,h3,h4,h5⟩:=G5 fit hW hbi hlt (o:=o) (htm.eval hW.glob) l1;have htouch:∀c,cP (gq P F call ops base τ0 H0 i) c=true↔(c∈aD o.op (kC (tl P F call ops base τ0 H0 L))∨c=base+i):=λc=>by rw[←e3,←q3];simp[cP]
   have hinv:Vy P F call ops base τ0 H0 w0 σ0 (jl L i) (a.put o.dst v') w':=by
    obtain⟨t1,t2⟩:=Eg run rf hst nx ho e1.symm h2 hsz hrep (λx u hxu=>hxu.mono h4);refine⟨σ',K',h3,λc=>?_,?_,t1,by cases o.dst<;>exact hdf,t2,hE0.trans h4,λc pl hc=>?_,hfresh (λc pl hc=>?_)⟩
    ·rw[l3];cases ht:cP (gq P F call ops base τ0 H0 i) c with
     |true=>
      have hc:=(htouch c).1 ht;rw[if_pos hc,JF nx ht,←e2]
      ·rfl
      ·intro j hj hne hjt hlt';rcases hc with hc|hc
       ·obtain⟨x,_,h6⟩:=hreads c (xI hc);exact(h6 j hj hne hjt).2 hlt'
       ·obtain⟨y,hy,hyt⟩:=hjt;rcases run.free j i _ y hlt' hj e3.symm hy with h6|h6
        ·exact h6
        ·exfalso;have fr:=eO h6;rcases hyt with t|t|⟨t3,t4,_⟩
         ·exact fr.mw c (by simp[hc]) t
         ·have:=((rf.chg j hj).made y hy).1 c t;omega
         ·have:=((rf.chg j hj).made y hy).2 t3;have:=rf.le j ZJ;omega
     |false=>rw[if_neg (λhc=>by rw[(htouch c).2 hc]at ht;cases ht),AB ht,hK]
    ·rw[l2,hn];have:iw (gq P F call ops base τ0 H0 i)=false:=by rw[←e3];rfl
     have hl:cC (λj=>jl L i j&&iw (gq P F call ops base τ0 H0 j)) ops.size=cC (λj=>L j&&iw (gq P F call ops base τ0 H0 j)) ops.size:=nE (p:=λj=>iw (gq P F call ops base τ0 H0 j)) this;unfold HX;rw[hl]
    ·rcases h5 c pl hc with h6|h6
     ·exact hnm c pl h6
     ·exact .inr ZJ
    ·rcases h5 c pl hc with h6|h6
     ·exact .inl h6
     ·exact .inr (.inl h6)
   rcases h1 with h1|⟨h1,rfl⟩
   ·rw[h1];exact hinv
   ·rw[h1];exact hinv
  ·rename_i f args hop;split at hstep
   ·rename_i v H1 hcall;simp only[Yi,Prod.mk.injEq]at hstep;obtain⟨e1,e2,e3⟩:=hstep;obtain⟨q1,q2,q3⟩:=MA (P:=P) (F:=F) hu (base+i) (eJ P F call ops base τ0 H0 i).2;have hop2:aM P F o.op (kC (tl P F call ops base τ0 H0 L)) (base+i) (eJ P F call ops base τ0 H0 i).2=some (.call f args):=by rw[←q1];exact hop
    have hopK:=Ed hop2 K;obtain⟨fn,cd,hf,hbd⟩:=hs.body _ _ _ _ _ hcall;obtain⟨vs,g1,g2⟩:=Ju fit (o:=o) (b:=base+i) (htm.eval hW.glob) hopK hf hbd;have hHg:=iv base ((ca ops.toList []).getD i 0) i (eJ P F call ops base τ0 H0 i).2;have hHn:=(fY base ((ca ops.toList []).getD i 0) i (eJ P F call ops base τ0 H0 i).2).1;generalize hHc:dB base ((ca ops.toList []).getD i 0) i (eJ P F call ops base τ0 H0 i).2=Hh at hcall e3 hHg hHn;have hbdc:Bd ({Hh with log:=[]}:ac):=λd hd=>by
     show Hh.get d=none;rw[hHg];split
     ·rfl
     ·exact rf.bd i ZJ d (by rw[←hHn];exact hd)
    have hcg:Cf ({Hh with log:=[]}:ac) H1:=hch _ _ _ _ _ hbdc hcall;generalize hHc2:({Hh with log:=[]}:ac)=Hc at hcall hcg hbdc;have hHg:∀c,Hc.get c=if(∃j,j<i∧((ca ops.toList []).getD i 0).testBit j=false∧c=base+j)then none else(eJ P F call ops base τ0 H0 i).2.get c:=λc=>by rw[←hHc2];exact hHg c
    have hHn:Hc.next=(eJ P F call ops base τ0 H0 i).2.next:=by rw[←hHc2];exact hHn
    have hHh:∀c,Hh.get c=Hc.get c:=λc=>by rw[←hHc2];rfl
    have htouch:∀c,cP (gq P F call ops base τ0 H0 i) c=true↔((c∈H1.log∧(Hc.get c).isSome=true)∨((eJ P F call ops base τ0 H0 i).2.next≤c∧c<H1.next)):=λc=>by rw[←e3];simp[cP,hHh]
    have hKn:K.next=(eJ P F call ops base τ0 H0 i).2.next:=by
     rw[hn,Ls run i ZJ,HX,p9 (p:=λj=>iw (gq P F call ops base τ0 H0 j)) hi nx.not];intro j hj hne hcj;cases hx:gq P F call ops base τ0 H0 j with
     |none=>rw[hx]at hcj;cases hcj
     |some x=>
      rw[hx]at hcj;refine⟨λhl=>?_,λhl=>?_⟩
      ·rcases run.free i j x _ hl hi hx e3.symm with h6|h6
       ·exact nx.before h6
       ·have:=(eO h6).cc hcj;cases this
      ·rcases run.free j i _ x hl hj e3.symm hx with h6|h6
       ·exact nx.behind hj h6
       ·have:=(eO h6).cc rfl;have h7:x.isCall=true:=hcj;rw[h7]at this;cases this
    have hsub:∀c x,Hc.get c=some x→K.get c=some x:=λc x hx=>by
     rw[hHg]at hx;split at hx
     ·cases hx
     ·rename_i hnh;rw[hK,MB run rf nx ?_]
      ·exact hx
      ·intro j hj hne ht;obtain⟨y,hy,hyt⟩:=ht;refine⟨λhl=>?_,λhl=>?_⟩
       ·cases hbit:((ca ops.toList []).getD i 0).testBit j with
        |true=>rfl
        |false=>
         exfalso;rcases run.free i j y _ hl hi hy e3.symm with h6|h6
         ·rw[hbit]at h6;cases h6
         ·have fr:=eO h6;rcases hyt with t|t|⟨t3,_,_⟩
          ·exact fr.wc rfl c t
          ·exact hnh ⟨j,hl,hbit,((rf.chg j hj).made y hy).1 c t⟩
          ·have:=fr.cc t3;cases this
       ·rcases later run rf hl hj e3.symm hy ⟨y,hy,hyt⟩ hx with h6|⟨fr,h6|⟨_,h6⟩⟩
        ·exact h6
        ·exact absurd h6 (fr.cw rfl c)
        ·exact h6.elim
    have hnK:Hc.next=K.next:=by rw[hHn,hKn]
    have hWc:=hW.part hsub (by rw[hnK];exact X7 _);rw[g1];refine(hs.ok _ _ _ _ _ hcall w (σ.part K Hc) vs hWc ⟨g2.1,λq x u hx hu=>by rw[xH hsub];exact bb.sig (σ:=σ) (σ':=σ.part K Hc) rfl (g2.2 q x u hx hu)⟩).mono ?_;rintro e w' ⟨v',σ',rfl,k1,k2,k3,k4⟩;have hK1:=hcg.next;obtain⟨K',hK'n,hK'g⟩:∃K':ac,K'.next=H1.next∧∀c,K'.get c=if cP (gq P F call ops base τ0 H0 i) c=true then H1.get c else K.get c:=by
     refine⟨{G9 H1 (H1.log.filter (λc=>(Hc.get c).isSome)++List.range' K.next (H1.next-K.next)) K with next:=H1.next},rfl,λc=>?_⟩;show(G9 H1 _ K).get c=_;rw[JD];have:c∈(H1.log.filter (λc=>(Hc.get c).isSome)++List.range' K.next (H1.next-K.next))↔cP (gq P F call ops base τ0 H0 i) c=true:=by
      rw[htouch,Yg,Zj,List.mem_range'_1,hKn];constructor
      ·rintro(h6|h6)
       ·exact .inl h6
       ·exact .inr ZJ
      ·rintro(h6|h6)
       ·exact .inl h6
       ·exact .inr ZJ
     by_cases ht:cP (gq P F call ops base τ0 H0 i) c=true
     ·rw[if_pos (this.2 ht),if_pos ht]
     ·rw[if_neg (λh6=>ht (this.1 h6)),if_neg ht]
    have hbd1:Bd H1:=hcg.bd hbdc;have hform:∀c,K'.get c=if Hc.get c=none∧c<K.next then K.get c else H1.get c:=λc=>by
     rw[hK'g];by_cases ht:cP (gq P F call ops base τ0 H0 i) c=true
     ·rw[if_pos ht,if_neg];rintro⟨h6,h7⟩;rcases(htouch c).1 ht with⟨_,h8⟩|⟨h8,_⟩
      ·rw[h6]at h8;cases h8
      ·omega
     ·rw[if_neg ht];split
      ·rfl
      ·rename_i hnn;cases hg:Hc.get c with
       |some x=>
        have hcl:c∉H1.log:=λh6=>ht ((htouch c).2 (.inl ⟨h6,by rw[hg];rfl⟩))
        have hcn:c<Hc.next:=by
         rcases X9 c Hc.next with h6|h6
         ·exact h6
         ·rw[hbdc c h6]at hg;cases hg
        rw[hcg.keep c hcn hcl,hg];exact hsub c x hg
       |none=>
        have hcn:K.next≤c:=by
         rcases X9 c K.next with h6|h6
         ·exact absurd ⟨hg,h6⟩ hnn
         ·exact h6
        have hc1:H1.next≤c:=by
         rcases X9 c H1.next with h6|h6
         ·exact absurd ((htouch c).2 (.inr ⟨by rw[←hKn];exact hcn,h6⟩)) ht
         ·exact h6
        rw[hbd1 c hc1];cases hg2:K.get c with
        |none=>rfl
        |some x=>obtain⟨pl,_,_,h6,_⟩:=hW.live c x hg2;have:=hW.named c pl h6;omega
    obtain⟨z1,z2,z3⟩:=hW.whole hsub hnK k2 k3 hcg.dom hform (by rw[hK'n];exact X7 _);obtain⟨t1,t2⟩:=Eg run rf hst nx ho (v:=v) (v':=v') (w':=w') (σ':=⟨σ'.map,σ.fr⟩) (T':=aK ⟨σ'.map,σ.fr⟩ K') e1.symm (by rw[z3];exact bb.sig (σ:=σ') (σ':=⟨σ'.map,σ.fr⟩) rfl k1) hsz hrep (λx u hxu=>hxu.mono z2);refine(⟨⟨σ'.map,σ.fr⟩,K',z1,λc=>?_,?_,t1,by cases o.dst<;>exact hdf,t2,hE0.trans z2,λc pl hc=>?_,hfresh (λc pl hc=>?_)⟩:Vy P F call ops base τ0 H0 w0 σ0 (jl L i) (a.put o.dst v') w')
    ·rw[hK'g];cases ht:cP (gq P F call ops base τ0 H0 i) c with
     |true=>
      have hnhid:¬ ∃j,j<i∧((ca ops.toList []).getD i 0).testBit j=false∧c=base+j:=by
       intro hh;rcases(htouch c).1 ht with⟨_,h8⟩|⟨h8,_⟩
       ·rw[hHg,if_pos hh]at h8;cases h8
       ·obtain⟨j,hj,_,rfl⟩:=hh;have:=rf.le i ZJ;omega
      rw[if_pos rfl,JF nx ht,←e2]
      ·show H1.get c=(iU _ _ _ _ _).get c;rw[mi,if_neg hnhid]
      ·intro j hj hne hjt hl;obtain⟨y,hy,hyt⟩:=hjt;rcases run.free j i _ y hl hj e3.symm hy with h6|h6
       ·exact h6
       ·exfalso;have fr:=eO h6;rcases hyt with t|t|⟨t3,_,_⟩
        ·exact fr.cw rfl c t
        ·have hcj:=((rf.chg j hj).made y hy).1 c t;rcases(htouch c).1 ht with⟨_,h8⟩|⟨h8,_⟩
         ·rw[hHg,if_neg hnhid,hcj,rf.fresh i j ZJ hj]at h8;cases h8
         ·have:=rf.le i ZJ;omega
        ·have h7:=fr.cc rfl;rw[t3]at h7;cases h7
     |false=>rw[if_neg ZM,AB ht,hK]
    ·rw[hK'n];have hcb:iw (gq P F call ops base τ0 H0 i)=true:=by rw[←e3];rfl
     have hl:cC (λj=>jl L i j&&iw (gq P F call ops base τ0 H0 j)) ops.size=some i:=AA (p:=λj=>iw (gq P F call ops base τ0 H0 j)) hi nx.not hcb (λj hj hne hcj hl=>by
      cases hx:gq P F call ops base τ0 H0 j with
      |none=>rw[hx]at hcj;cases hcj
      |some x=>
       rw[hx]at hcj;rcases run.free j i _ x hl hj e3.symm hx with h6|h6
       ·exact nx.behind hj h6
       ·have:=(eO h6).cc rfl;have h7:x.isCall=true:=hcj;rw[h7]at this;cases this)
     unfold HX;rw[hl];simp only[];rw[←e2];exact(gX _ _ _ _ _).1.symm
    ·rcases k4 c pl hc with h6|h6
     ·exact hnm c pl h6
     ·exact .inr (by have:=rf.le i ZJ;omega)
    ·rcases k4 c pl hc with h6|h6
     ·exact .inl h6
     ·exact .inr (.inr ZJ)
   ·cases hstep
  ·cases hstep
 ·rename_i hwant;rw[←hwt]at hwant;rw[if_neg (by rw[jj htm hwant];simp)];simp only[Yi,Prod.mk.injEq]at hstep;obtain⟨e1,e2,e3⟩:=hstep;obtain⟨t1,t2⟩:=Eg run rf hst nx ho e1.symm mg hsz hrep (λx u hxu=>hxu);have ht:∀c,cP (gq P F call ops base τ0 H0 i) c=false:=λc=>by rw[←e3];rfl
  refine⟨σ,K,hW,λc=>by rw[AB (ht c),hK],?_,t1,by cases o.dst<;>exact hdf,t2,hE0,hnm,hfresh (λc pl hc=>.inl hc)⟩;rw[hn];have:iw (gq P F call ops base τ0 H0 i)=false:=by rw[←e3];rfl
  have hl:cC (λj=>jl L i j&&iw (gq P F call ops base τ0 H0 j)) ops.size=cC (λj=>L j&&iw (gq P F call ops base τ0 H0 j)) ops.size:=nE (p:=λj=>iw (gq P F call ops base τ0 H0 j)) this;unfold HX;rw[hl]
 ·cases hstep
end
end
section
def xJ(ops:Array Oper):Prop:=∀(i:Nat) (o:Oper),ops[i]? =some o→∀e∈o.after.toList,Region.binds .any e=true→e.on<i
def kO:Code→Prop
 |.region _ ops draw=>draw=true→nF ops∧xJ ops
 |.seq a b=>kO a∧kO b
 |.cond _ a b=>kO a∧kO b
 |.block _ b=>kO b
 |.loop b=>kO b
 |_=>True
section
variable {P:Program} {F:TypeId→Option (List TypeId)} {call:FuncId→List AV→ac→Option (AV×ac)} {ops:Array Oper} {base:Nat} {τ0:List AV} {H0:ac}
theorem nG(hs:eC P call){before:List Nat}:∀(l:List Nat) (τ τ':List AV) (H K:ac) (rs rs':List tB),eB P F call ops base before l τ H rs=some (τ',K,rs')→H.next≤K.next
 |[],τ,τ',H,K,rs,rs',h=>by cases h;exact X7 _
 | i::l,τ,τ',H,K,rs,rs',h=>by
  have key:∀{mask τ1 H1 r},bH P F call ops base i mask τ H=some (τ1,H1,r)→H.next≤H1.next:=λ{mask τ1 H1 r} hd=>by
   unfold bH at hd;split at hd
   ·cases hd
   ·split at hd
    ·split at hd
     ·rename_i hop;cases hd;have:=D9 hop;exact Nat.le_of_eq this.symm
     ·split at hd
      ·rename_i hcall;cases hd;have:=hs.next _ _ _ _ _ hcall;show H.next≤(iU _ _ _ _ _).next
       rw[(gX _ _ _ _ _).1];have h2:=(fY base mask i H).1;simp only[]at this;omega
      ·cases hd
     ·cases hd
    ·cases hd;exact X7 _
    ·cases hd
  unfold eB at h;split at h
  ·rename_i hd;exact Yn (key hd) (nG hs l _ _ _ _ _ _ h)
  ·rename_i hd;split at h
   ·exact Yn (key hd) (nG hs l _ _ _ _ _ _ h)
   ·cases h
  ·cases h
def cnt(L:Nat→Bool):Nat→Nat
 |0=>0
 |k+1=>cnt L k+(if L k then 0 else 1)
theorem JG{L:Nat→Bool}:∀{n:Nat},cnt L n=0→∀i,i<n→L i=true
 | n+1,h,i,hi=>by
  unfold cnt at h;rcases Zk (Nat.le_of_lt_succ hi)with rfl|hlt
  ·cases hL:L i with
   |true=>rfl
   |false=>rw[hL]at h;simp at h
  ·exact JG ZJ i hlt
theorem Ha{L M:Nat→Bool}:∀{n:Nat},(∀i,i<n→L i=M i)→cnt L n=cnt M n
 |0,_=>rfl
 |n+1,h=>by rw[cnt,cnt,Ha λi hi=>h i ZJ,h n ZJ]
theorem MD{L:Nat→Bool}{i:Nat}(hL:L i=false):∀{n:Nat},i<n→cnt (jl L i) n+1=cnt L n
 | n+1,hi=>by
  unfold cnt;rcases Zk (Nat.le_of_lt_succ hi)with rfl|hlt
  ·rw[Ha (M:=L) λj hj=>by simp[jl,show¬j=i by omega]];simp[jl,hL]
  ·have:=MD hL hlt;have e:jl L i n=L n:=by simp[jl,show¬n=i by omega]
   rw[e];omega
theorem Hb:∀n,cnt (λ_=>false) n=n
 |0=>rfl
 |n+1=>by simp[cnt,Hb n]
theorem Hd{L:Nat→Bool}:∀n,(∀i,i<n→L i=true)∨∃i,i<n∧L i=false∧∀j,j<i→L j=true
 |0=>.inl λi hi=>by omega
 | n+1=>by
  rcases Hd (L:=L) n with h|⟨i,h1,h2,h3⟩
  ·by_cases hL:L n=true
   ·left;intro i hi;rcases Zk (Nat.le_of_lt_succ hi)with rfl|hlt
    ·exact hL
    ·exact h i hlt
   ·exact .inr ⟨n,ZJ,by simpa using hL,h⟩
  ·exact .inr ⟨i,ZJ,h2,h3⟩
theorem AC{l:Array Bool}{i:Nat}(hi:i<l.size):l.getD i true=l.getD i false:=by simp[Array.getD,hi]
theorem NE(fit:Fit P F)(hs:eC P call)(hch:∀f args H v H',Bd H→call f args H=some (v,H')→Cf H H')(run:mj P F call ops base τ0 H0)(rf:dm P F call ops base τ0 H0)(hst:nF ops)(hed:xJ ops)(hb:base+ops.size=H0.next)
  {w0:World} {σ0:bD} {Q:Exit→Act→World→Prop} (hQ:∀a w,Vy P F call ops base τ0 H0 w0 σ0 (λi=>decide (i<ops.size)) a w→Q .normal a w) :
  ∀(fuel:Nat) (listed:Array Bool) (a:Act) (w:World),listed.size=ops.size→HW ops (λi=>listed.getD i false)→cnt (λi=>listed.getD i false) ops.size≤fuel→
   Vy P F call ops base τ0 H0 w0 σ0 (λi=>listed.getD i false) a w→wpAny P .any ops Q fuel listed a w:=by
 intro fuel
 induction fuel with
 |zero=>
  intro listed a w hsz hcl hf hI;have hall:=JG (by omega:cnt (λi=>listed.getD i false) ops.size=0);unfold wpAny;refine⟨?_,?_⟩
  ·unfold Region.ready;rw[List.filter_eq_nil_iff];intro i hi;rw[Y3]at hi;have:=hall i hi;rw[AC ZJ,this];simp
  ·refine hQ a w ?_;have e:(λi=>listed.getD i false)=λi=>decide (i<ops.size):=by
    funext i;by_cases hi:i<ops.size
    ·rw[hall i hi];simp[hi]
    ·simp[Array.getD,hsz,hi]
   rw[←e];exact hI
 |succ fuel ih=>
  intro listed a w hsz hcl hf hI;unfold wpAny;refine⟨λhr=>?_,λi hi=>?_⟩
  ·rcases Hd (L:=λi=>listed.getD i false) ops.size with hall|⟨i,h1,h2,h3⟩
   ·refine hQ a w ?_;have e:(λi=>listed.getD i false)=λi=>decide (i<ops.size):=by
     funext i;by_cases hi:i<ops.size
     ·rw[hall i hi];simp[hi]
     ·simp[Array.getD,hsz,hi]
    rw[←e];exact hI
   ·exfalso;unfold Region.ready at hr;rw[List.filter_eq_nil_iff]at hr;have ho:ops[i]? =some ops[i]:=YA h1;refine hr i (by rw[Y3];exact h1) ?_;rw[AC ZJ,ho];rw[h2];simp only[Bool.not_false,Bool.true_and,Yz,Zr];rw[Array.all_eq_true_iff_forall_mem];intro e he;cases hbn:Region.binds .any e with
    |false=>rfl
    |true=>have:=h3 e.on (hed i _ ho e (by rw[Array.mem_toList_iff];exact he) hbn);rw[this];rfl
  ·unfold Region.ready at hi;rw[Zj,Y3]at hi;obtain⟨hi1,hi2⟩:=hi;obtain⟨o,ho⟩:∃o,ops[i]? =some o:=⟨_,YA hi1⟩;rw[Yl,ho]at hi2;obtain⟨hi2,hi3⟩:=hi2;have hnot:listed.getD i false=false:=by rw[←AC ZJ];simpa using hi2
   simp only[Yz,Zr]at hi3;rw[Array.all_eq_true_iff_forall_mem]at hi3;have nx:Next ops (λi=>listed.getD i false) i:=⟨hi1,hnot,hcl,λo' ho' e he hbn=>by
    rw[ho]at ho';cases ho';have:=hi3 e (by rw[←Array.mem_toList_iff];exact he);rw[hbn]at this;simpa using this⟩
   have eL:(λj=>(listed.setIfInBounds i true).getD j false)=jl (λj=>listed.getD j false) i:=by
    funext j;unfold jl;by_cases hj:j=i
    ·subst hj;rw[if_pos rfl];simp[Array.getD,show j<listed.size by omega]
    ·rw[if_neg hj];by_cases hjl:j<listed.size
     ·simp[Array.getD,hjl,show¬i=j by omega]
     ·simp[Array.getD,hjl]
   refine wpOp_mono (λa' w' hI'=>?_) (OT fit hs hch run rf hst hb nx hI);refine ih _ a' w' (by simpa using hsz) ?_ ?_ (by rw[eL];exact hI')
   ·rw[eL];intro j oj hoj hLj e he hbn;unfold jl at hLj ⊢;split
    ·rfl
    ·split at hLj
     ·rename_i _ hji;subst hji;exact nx.edges oj hoj e he hbn
     ·exact hcl j oj hoj hLj e he hbn
   ·rw[eL];have:=MD (L:=λj=>listed.getD j false) hnot hi1;omega
theorem Eh(fit:Fit P F)(hs:eC P call)(hch:∀f args H v H',Bd H→call f args H=some (v,H')→Cf H H')(hst:nF ops)(hed:xJ ops){τ τ':List AV}{H H':ac}(h:dG P F call ops true τ H=some (τ',H')):
  H.next≤H'.next∧∀(id:Nat) (w:World) (σ:bD) (a:Act),bu w σ H→cD w σ (aK σ H) τ a→∀Q:Exit→Act→World→Prop,(∀a' w',tE w σ H τ' H' a' w'→Q .normal a' w')→(Code.region id ops true).wp P Q a w:=by
 simp only[dG,if_true]at h;split at h
 ·rename_i τq K rs hd;cases h;refine⟨Yn (YI _ _) (nG hs _ _ _ _ _ _ _ hd),λid w σ a hW hτ Q hQ=>?_⟩;have hbd:Bd H:=λb hb=>by
   cases hg:H.get b with
   |none=>rfl
   |some x=>obtain⟨pl,_,_,h1,_⟩:=hW.live b x hg;have:=hW.named b pl h1;omega
  have hn:H.next+ops.size=({H with next:=H.next+ops.size}:ac).next:=rfl
  have hg0:∀b,({H with next:=H.next+ops.size}:ac).get b=H.get b:=λ_=>rfl
  have hW0:bu w σ {H with next:=H.next+ops.size}:=hW.congr hg0 (YI _ _);have ho0:aK σ {H with next:=H.next+ops.size}=aK σ H:=aK.congr hg0;generalize hH0:({H with next:=H.next+ops.size}:ac)=H0 at hd hn hg0 hW0 ho0;have hbd0:Bd H0:=λb hb=>by rw[hg0];exact hbd b ZJ
  rw[List.range_eq_range']at hd;obtain⟨a1,a2,a3⟩:=OP (P:=P) (F:=F) (call:=call) (ops:=ops) (base:=H.next) (τ0:=τ) (H0:=H0) ops.size 0 [] rs τ' K hd (λj x hj=>by omega);simp only[Y2]at a1 a2 a3;have run:mj P F call ops H.next τ H0:=⟨λi hi=>a1 i (YK _) hi,λi j x r hji hi hx hr=>a2 i j x r (YK _) hi hji hx hr⟩;have rf:=ND hch run hbd0 hn (λj hj=>by rw[hg0];exact hbd _ (YI _ _));have hnone:∀(p:Nat→Bool) n,cC (λj=>false&&p j) n=none:=λp n=>by rw[ub (k:=0) (YK _) (λi _ _=>by simp)];rfl
  have hall:∀(p:Nat→Bool) n,cC (λj=>decide (j<n)&&p j) n=cC p n:=λp n=>kN λi hi=>by simp[hi]
  refine wp_region_any fit.order (NE (w0:=w) (σ0:=σ) fit hs hch run rf hst hed hn ?_ ops.size _ a _ ZM ?_ ?_ ?_)
  ·intro a' w' hI;obtain⟨σ',K',k1,k2,k3,k4,k5,k6,k7,k8,_⟩:=hI;have eS:(eJ P F call ops H.next τ H0 ops.size)=(τ',K):=a3.symm;have hget':∀c,K'.get c=K.get c:=λc=>by have:=Lr run rf c ops.size (X7 _);rw[eS]at this;rw[k2,hget,hall];exact this.symm
   have hnx:K'.next=K.next:=by have:=Ls run ops.size (X7 _);rw[eS]at this;rw[k3,HX,hall];exact this.symm
   have htg:∀t,qa P F call ops H.next τ H0 (λi=>decide (i<ops.size)) t=τ'[t]? :=λt=>by have:=Lq run t ops.size (X7 _);rw[eS]at this;rw[qa,hall];exact this.symm
   have hlen:τ'.length=τ.length:=by have:=rf.len ops.size (X7 _);rw[eS]at this;exact this
   have hoK:aK σ' ({K with log:=rs.flatMap (·.writes)++K.log}:ac)=aK σ' K':=aK.congr λb=>(hget' b).symm
   refine hQ a' w' ⟨σ',⟨⟨by simp[hlen,k4],λt x u hx hu=>?_⟩,k5⟩,k1.congr (λb=>(hget' b).symm) (by rw[hnx];exact X7 _),by rw[hoK,←ho0];exact k7,λc pl hc=>k8 c pl hc⟩;rw[hoK];exact k6 t x u (by rw[htg];exact hx) (by rw[←Yy];exact hu)
  ·intro i o ho hL;simp[Array.getD]at hL
  ·have:(λi=>(Array.replicate ops.size false).getD i false)=λ_=>false:=by funext i;simp[Array.getD]
   rw[this,Hb];exact X7 _
  ·have:(λi=>(Array.replicate ops.size false).getD i false)=λ_=>false:=by funext i;simp[Array.getD]
   rw[this];refine⟨σ,H0,hW0.same rfl rfl rfl rfl,λc=>by rw[hget,hnone],by rw[HX,hnone],by have:=hτ.1.1;simpa using this.symm,hτ.2,λt x u hx hu=>?_,eI.same σ _ rfl rfl rfl rfl,λc pl hc=>.inl hc,λi hi _=>?_⟩
   ·rw[qa,hnone]at hx;have:=hτ.1.2 t x u hx (by rw[Yy];exact hu);rw[←ho0]at this;have e:eI w σ (aK σ H0) {w with drawn:=w.drawn+1} σ (aK σ H0):=eI.same σ _ rfl rfl rfl rfl;exact this.mono e
   ·cases hg:σ (H.next+i)with
    |none=>rfl
    |some pl=>have:=hW.named _ pl hg;omega
 ·cases h
def lB(P:Program)(n:Nat)(c:Code)(τ:List AV)(H:ac)(e:Ex)(τ':List AV)(H':ac):Prop:=
 H.next≤H'.next∧∀(w:World) (σ:bD) (a:Act),bu w σ H→cD w σ (aK σ H) τ a→∀Q:Exit→Act→World→Prop,(∀a' w',tE w σ H τ' H' a' w'→Q (Jw e) a' w')→Code.rounds P c Q n a w
end
end
section
open Go.RowKit
def ME(ops:Array Oper):Bool:=
 let M:=ca ops.toList []
 let N:=ops.toList.map λo=>(o.dst,iH ops o)
 (List.range ops.size).all λi=>(List.range i).all λj=>
  (M.getD i 0).testBit j ||
  (match N[i]?,N[j]? with
   |some (di,ni),some (dj,nj)=>(match dj with|some t=>!ni.contains t|none=>true)&&(match di with|some t=>!nj.contains t|none=>true)
   |_,_=>true)
def HY(ops:Array Oper):Bool:=(List.range ops.size).all λi=>match ops[i]? with
 |some o=>o.after.toList.all λe=>!Region.binds .any e||decide (e.on<i)
 |none=>true
def jy:Code→Bool
 |.region _ ops draw=>!draw||(ME ops&&HY ops)
 |.seq a b=>jy a&&jy b
 |.cond _ a b=>jy a&&jy b
 |.block _ b=>jy b
 |.loop b=>jy b
 |_=>true
theorem JH{ops:Array Oper}(h:ME ops=true):nF ops:=by
 intro i j oi oj hji hoi hoj;have hi:i<ops.size:=(Zo.1 hoi).1;unfold ME at h;simp only[Yo,Y3]at h;have h1:=h i hi j hji;have ei:(ops.toList.map λo=>(o.dst,iH ops o))[i]? =some (oi.dst,iH ops oi):=by rw[Ym,Yy,hoi];rfl
 have ej:(ops.toList.map λo=>(o.dst,iH ops o))[j]? =some (oj.dst,iH ops oj):=by rw[Ym,Yy,hoj];rfl
 rw[ei,ej]at h1;simp only[ZD,Yl]at h1;rcases h1 with h1|⟨h1,h2⟩
 ·exact .inl h1
 ·right;refine⟨λt ht=>?_,λt ht=>?_⟩
  ·rw[ht]at h1;simpa using h1
  ·rw[ht]at h2;simpa using h2
theorem He{ops:Array Oper}(h:HY ops=true):xJ ops:=by intro i o ho e he hb;have hi:i<ops.size:=(Zo.1 ho).1;unfold HY at h;simp only[Yo,Y3]at h;have h1:=h i hi;rw[ho]at h1;simp only[Yo]at h1;have:=h1 e he;rw[hb]at this;simpa using this
theorem gY:∀(c:Code),jy c=true→kO c
 | .region _ ops draw,h=>λhd=>by subst hd;simp only[jy,Bool.not_true,Bool.false_or,Yl]at h;exact⟨JH h.1,He h.2⟩
 |.seq a b,h=>by simp only[jy,Yl]at h;exact⟨gY a h.1,gY b h.2⟩
 |.cond _ a b,h=>by simp only[jy,Yl]at h;exact⟨gY a h.1,gY b h.2⟩
 |.block _ b,h=>gY b h
 |.loop b,h=>gY b h
 |.skip,_=>trivial
 |.rangeFunc ..,_=>trivial
 |.exit _,_=>trivial
 |.scope _,_=>trivial
 |.label _,_=>trivial
 |.goto _,_=>trivial
 |.ret,_=>trivial
 |.refuse _,_=>trivial
def JI (fn : Func) : Bool := (fn.name != "runtime.NumGoroutine") && (match fn.body with | some c => jy c | none => true)
theorem SX {P : Program} (h : P.funcs.toList.all JI = true) : (∀ (g : Nat) (fn : Func), P.funcs[g]? = some fn → fn.name ≠ "runtime.NumGoroutine") ∧ ∀ (g : Nat) (fn : Func) (c : Code), P.funcs[g]? = some fn → fn.body = some c → kO c := by
 rw[Yo]at h;have key:∀(g:Nat) (fn:Func),P.funcs[g]? =some fn→JI fn=true:=λg fn hg=>h fn (by rw[Array.mem_toList_iff];exact Array.mem_of_getElem? hg)
 refine⟨λg fn hg=>?_,λg fn c hg hc=>?_⟩
 ·have:=key g fn hg;simp only[JI,Yl]at this;simpa using this.1
 ·have:=key g fn hg;simp only[JI,Yl,hc]at this;exact gY c this.2
end
section
open Go.RowKit
inductive bv:AV→Prop where
 |int (k:IntKind) (n:Int):bv (.int k n)
 |bool (b:Bool):bv (.bool b)
 |str (s:List UInt8):bv (.str s)
 |nilp:bv .nilp
 |nils:bv .nils
 |emp:bv .emp
 |nilf:bv .nilf
 |junk:bv .junk
 |lst (rows:List (List AV)) (h:∀(i:Nat) (r:List AV) (j:Nat) (a:AV),rows[i]? =some r→r[j]? =some a→bv a):bv (.lst rows)
 |agg (cs:List AV) (h:∀(i:Nat) (a:AV),cs[i]? =some a→bv a):bv (.agg cs)
 |tup (cs:List AV) (h:∀(i:Nat) (a:AV),cs[i]? =some a→bv a):bv (.tup cs)
 |fn (f:FuncId) (cs:List AV) (h:∀(i:Nat) (a:AV),cs[i]? =some a→bv a):bv (.fn f cs)
section
variable {P:Program} {F:TypeId→Option (List TypeId)} {w w':World} {σ σ':bD} {T T':Nat→Prop}
theorem t6.shrink{rows:List (List AV)}{b o sz:Nat}(h:t6 w T rows b o sz)(hT:∀c,T' c→T c):t6 w T' rows b o sz:=⟨λht=>h.out (hT b ht),h.even,h.cell,h.pos,h.ne⟩
theorem bv.rep{a:AV}(hp:bv a):∀{v:Value},bb w σ T a v→(∀c,T' c→T c)→bb w σ' T' a v:=by
 induction hp with
 |int k n=>intro v h _;cases h;exact .int k n
 |bool b=>intro v h _;cases h;exact .bool b
 |str s=>intro v h _;cases h;exact .str _
 |nilp=>intro v h _;cases h;exact .nilp
 |nils=>intro v h _;cases h;exact .nils
 |emp=>intro v h _;cases h;exact .emp _
 |nilf=>intro v h _;cases h;exact .nilf
 |junk=>intro v h _;exact .junk v
 |lst rows h ih=>
  intro v hr hT;cases hr with
  |lst0 a cap hm=>exact .lst0 a cap hm
  |lst _ b o sz cap hl hn hm hc=>exact .lst rows b o sz cap (hl.shrink hT) hn hm λi r j a u h1 h2 h3=>ih i r j a h1 h2 (hc i r j a u h1 h2 h3) hT
 |agg cs h ih=>
  intro v hr hT;cases hr with
  |agg _ vs hl hc=>exact .agg cs vs hl λi a v h1 h2=>ih i a h1 (hc i a v h1 h2) hT
 |tup cs h ih=>
  intro v hr hT;cases hr with
  |tup _ vs hl hc=>exact .tup cs vs hl λi a v h1 h2=>ih i a h1 (hc i a v h1 h2) hT
 |fn f cs h ih=>
  intro v hr hT;cases hr with
  |fn _ _ vs hl hc=>exact .fn f cs vs hl λi a v h1 h2=>ih i a h1 (hc i a v h1 h2) hT
theorem cX(b:Nat):ac.empty.get b=none:=Tr.get_leaf b
def MF(P:Program)(f:FuncId)(args:List AV)(v:AV):Prop:=
 ∀(w:World) (σ:bD) (vs:List Value),bu w σ ac.empty→eH w σ (aK σ ac.empty) args vs→Calls P f vs.toArray w λe w'=>
  ∃v' σ' H',e=.returned v'∧bb w' σ' (aK σ' H') v v'∧eI w σ (aK σ ac.empty) w' σ' (aK σ' H')
theorem VF{f:FuncId}{args:List AV}{v:AV}(hv:bv v)(ha:∀(i:Nat) (a:AV),args[i]? =some a→bv a)(h:MF P f args v)(H:ac):p7 P f args H v H:=by
 intro w σ vs hW hvs;have hown:aK ⟨λ_=>none,aK σ H⟩ ac.empty=aK σ H:=by
  funext c;apply propext;constructor
  ·rintro(h1|⟨b,x,pl,h1,_,_⟩)
   ·exact h1
   ·rw[cX]at h1;cases h1
  ·exact .inl
 have hlt:∀c,aK σ H c→c<w.heap.size:=λc hc=>by
  rcases hc with hc|⟨b,x,pl,h1,h2,rfl⟩
  ·exact(hW.apart c hc).1
  ·exact hW.lt b pl h2
 have hWe:bu w ⟨λ_=>none,aK σ H⟩ ac.empty:=⟨λb pl hb=>(by cases hb),λb pl hb=>(by cases hb),λb x hb=>(by rw[cX]at hb;cases hb),
  λc hc=>⟨hlt c hc,λ⟨b,x,pl,h1,_,_⟩=>(by rw[cX]at h1;cases h1)⟩,λb b' x x' pl pl' hb=>(by rw[cX]at hb;cases hb),by rw[hown];exact hW.glob⟩
 refine(h w _ vs hWe ⟨hvs.1,λi a u h1 h2=>(ha i a h1).rep (hvs.2 i a u h1 h2) (λc hc=>by rw[hown]at hc;exact hc)⟩).mono ?_;rintro e w' ⟨v',σ',H1,rfl,k1,k3⟩;have hE:eI w σ (aK σ H) w' σ (aK σ H):=
  ⟨k3.os,k3.tape,k3.output,k3.size,λc hc hT=>k3.keep c hc (by rw[hown];exact hT),k3.shape,λ_ _ h=>h,rfl,λc hc=>k3.frame c (.inl hc),λc hc=>.inl hc⟩
 refine⟨v',σ,rfl,hv.rep k1 (λc hc=>.inl (by rw[k3.eqfr];exact hc)),⟨hW.named,λb pl hb=>Yw (hW.lt b pl hb) k3.size,λb x hb=>?_,λc hc=>⟨Yw (hW.apart c hc).1 k3.size,(hW.apart c hc).2⟩,hW.inj,hW.glob.mono hE⟩,hE,λc pl hc=>.inl hc⟩;obtain⟨pl,cs,e,h1,h2⟩:=hW.live b x hb;exact⟨pl,cs,e,h1,h2.mono hE (k3.frame _ (.inr ⟨b,x,pl,hb,h1,rfl⟩))⟩
def HZ(P:Program)(c:Code)(Q:Ex→List AV→ac→Prop)(τ:List AV)(H:ac):Prop:=
 ∀(w:World) (σ:bD) (a:Act),bu w σ H→cD w σ (aK σ H) τ a→∀Q':Exit→Act→World→Prop,
  (∀e τ' H' a' w',Q e τ' H'→H.next≤H'.next→tE w σ H τ' H' a' w'→Q' (Jw e) a' w')→c.wp P Q' a w
variable {c c1 c2:Code} {Q Q2:Ex→List AV→ac→Prop} {τ:List AV} {H:ac}
theorem HZ.of_ok{e:Ex}{τ':List AV}{H':ac}(h:cK P c τ H e τ' H')(hQ:Q e τ' H'):HZ P c Q τ H:=
 λw σ a hW hτ Q' hQ'=>h.2 w σ a hW hτ Q' λa' w' haf=>hQ' e τ' H' a' w' hQ h.1 haf
def Ex.then(next:List AV→ac→Prop)(Q:Ex→List AV→ac→Prop):Ex→List AV→ac→Prop
 |.normal,τ,H=>next τ H
 |e,τ,H=>Q e τ H
theorem HZ.cond{x:Operand}{t:Bool}(hx:kC τ x=.bool t)(h:HZ P (if t then c1 else c2) Q τ H):HZ P (.cond x c1 c2) Q τ H:=by intro w σ a hW hτ Q' hQ';have hr:=hτ.eval hW.glob x;rw[hx]at hr;refine wp_cond (t:=t) ?_ (h w σ a hW hτ Q' hQ');generalize a.eval x=u at hr;cases hr;rfl
theorem HZ.exit{id:Nat}(h:Q (.exit id) τ H):HZ P (.exit id) Q τ H:=λw σ a hW hτ Q' hQ'=>wp_exit (hQ' (.exit id) τ H _ _ h (X7 _) (.refl hW hτ))
theorem HZ.ret(h:Q .ret τ H):HZ P .ret Q τ H:=λw σ a hW hτ Q' hQ'=>wp_ret (hQ' .ret τ H _ _ h (X7 _) (.refl hW hτ))
def Ex.inBlock(id:Nat)(Q:Ex→List AV→ac→Prop):Ex→List AV→ac→Prop
 |.exit id',τ,H=>if id'=id then Q .normal τ H else Q (.exit id') τ H
 |e,τ,H=>Q e τ H
theorem HZ.block{id:Nat}(h:HZ P c (Ex.inBlock id Q) τ H):HZ P (.block id c) Q τ H:=by
 intro w σ a hW hτ Q' hQ';refine wp_block (h w σ a hW hτ _ λe τ1 H1 a1 w1 hq hn haf=>?_);cases e with
 |normal=>exact hQ' _ _ _ _ _ hq hn haf
 |ret=>exact hQ' _ _ _ _ _ hq hn haf
 |exit id'=>
  simp only[Ex.inBlock]at hq;simp only[Jw,Exit.inBlock];split
  ·rename_i he;rw[if_pos he]at hq;exact hQ' .normal _ _ _ _ hq hn haf
  ·rename_i he;rw[if_neg he]at hq;exact hQ' (.exit id') _ _ _ _ hq hn haf
theorem Cg{Q':Exit→Act→World→Prop}:∀{n m:Nat} {a:Act} {w:World},n≤m→Code.rounds P c Q' n a w→Code.rounds P c Q' m a w
 |0,m,a,w,_,h=>h.elim
 | n+1,m,a,w,hm,h=>by
  obtain⟨k,rfl⟩:∃k,m=k+1:=⟨m-1,ZJ⟩;rw[rounds_succ]at h ⊢;refine wp_mono h λe a' w' he=>?_
  cases e with
  |normal=>exact Cg ZJ he
  |_=>exact he
theorem HZ.loop(I:Nat→List AV→ac→Prop)(hs:∀n τ H,I n τ H→HZ P c (Ex.then (λτ' H'=>∃m,m<n∧I m τ' H') Q) τ H)(n:Nat)(h0:I n τ H):HZ P (.loop c) Q τ H:=by
 have key:∀n τ H,I n τ H→∀(w:World) (σ:bD) (a:Act),bu w σ H→cD w σ (aK σ H) τ a→∀Q':Exit→Act→World→Prop,
   (∀e τ' H' a' w',Q e τ' H'→H.next≤H'.next→tE w σ H τ' H' a' w'→Q' (Jw e) a' w')→Code.rounds P c Q' (n+1) a w:=by
  intro n
  induction n using Nat.strongRecOn with
  |_ n ih=>
   intro τ H hI w σ a hW hτ Q' hQ';rw[rounds_succ];refine hs n τ H hI w σ a hW hτ _ λe τ1 H1 a1 w1 hq hn haf=>?_
   cases e with
   |normal=>obtain⟨m,hm,hI1⟩:=hq;obtain⟨σ1,t1,r1,e1,m1⟩:=haf;exact Cg ZJ (ih m hm τ1 H1 hI1 w1 σ1 a1 r1 t1 Q' λe2 τ2 H2 a2 w2 q2 n2 haf2=>hQ' e2 τ2 H2 a2 w2 q2 (Yn hn n2) (haf2.trans e1 m1 hn))
   |exit id=>exact hQ' _ _ _ _ _ hq hn haf
   |ret=>exact hQ' _ _ _ _ _ hq hn haf
 intro w σ a hW hτ Q' hQ';exact wp_loop_rounds (n+1) (key n τ H h0 w σ a hW hτ Q' hQ')
end
def Lt:FuncId→List AV→ac→Option (AV×ac):=λ_ _ _=>none
theorem xK(P:Program):eC P Lt:=⟨λ_ _ _ _ _ h=>(by cases h),λ_ _ _ _ _ h=>(by cases h),λ_ _ _ _ _ h=>(by cases h)⟩
theorem HZ.reg{P:Program}{F:TypeId→Option (List TypeId)}{call:FuncId→List AV→ac→Option (AV×ac)}(fit:Fit P F)(hs:eC P call){ops:Array Oper}{id:Nat}{Q:Ex→List AV→ac→Prop}{τ:List AV}{H:ac}{τ':List AV}{H':ac}(h:dG P F call ops false τ H=some (τ',H'))(hQ:Q .normal τ' H'):HZ P (.region id ops false) Q τ H:=
 .of_ok (gp fit hs h) hQ
theorem HZ.ops{P:Program}{F:TypeId→Option (List TypeId)}{call:FuncId→List AV→ac→Option (AV×ac)}(fit:Fit P F)(hs:eC P call){ops:Array Oper}{id:Nat}{Q:Ex→List AV→ac→Prop}{τ:List AV}{H:ac}{τ':List AV}{H':ac}(h:nz P F call ops H.next (List.range ops.size) τ {H with next:=H.next+ops.size}=some (τ',H'))(hQ:Q .normal τ' H'):HZ P (.region id ops false) Q τ H:=
 .of_ok (gp fit hs (by simp only[dG,YB,if_false];exact h)) hQ
end
def gZ(P:Program)(f:FuncId)(args:List AV)(v:AV):Prop:=(∀H,p7 P f args H v H)∧∃fn c,P.funcs[f]? =some fn∧fn.body=some c
theorem gZ.of_v{P:Program}{f:FuncId}{args:List AV}{v:AV}{fn:Func}{c:Code}(hf:P.funcs[f]? =some fn)(hb:fn.body=some c)(hv:bv v)(ha:∀(i:Nat) (a:AV),args[i]? =some a→bv a)(h:MF P f args v):gZ P f args v:=
 ⟨λH=>VF hv ha h H,fn,c,hf,hb⟩
def xL(f:AV→Option AV)(rows:List (List AV)):Option (List (List AV)):=cu (rows.map λr=>cu (r.map f))
def frz(K:ac):Nat→AV→Option AV
 |0,_=>none
 | d+1,a=>match a with
  | .sl b i n=>if n=0 then some (.lst [])else match K.get b with
   |some x=>if 0<x.size∧i+n≤x.rows.length then(xL (frz K d) ((x.rows.drop i).take n)).map .lst else none
   |none=>none
  |.nils=>some (.lst [])
  |.lst rows=>(xL (frz K d) rows).map .lst
  |.agg cs=>(cu (cs.map (frz K d))).map .agg
  |.tup cs=>(cu (cs.map (frz K d))).map .tup
  |.ptr ..=>none
  |.pptr ..=>none
  |.fn ..=>none
  |.mp ..=>none
  |.it ..=>none
  |a=>some a
theorem qb{f:AV→Option AV}{l m:List AV}(h:cu (l.map f)=some m):l.length=m.length∧∀(i:Nat) (y:AV),m[i]? =some y→∃x,l[i]? =some x∧f x=some y:=by
 obtain⟨h1,h2⟩:=jh _ _ h;refine⟨by simpa using h1,λi y hy=>?_⟩;have:=h2 i y hy;rw[Ym]at this;cases hx:l[i]? with
 |none=>rw[hx]at this;cases this
 |some x=>rw[hx]at this;exact⟨x,rfl,by simpa using this⟩
theorem Ch{f:AV→Option AV}{l m:List (List AV)}(h:xL f l=some m):l.length=m.length∧∀(i:Nat) (r':List AV),m[i]? =some r'→∃r,l[i]? =some r∧r.length=r'.length∧∀(j:Nat) (y:AV),r'[j]? =some y→∃x,r[j]? =some x∧f x=some y:=by
 obtain⟨h1,h2⟩:=jh _ _ h;refine⟨by simpa using h1,λi r' hr'=>?_⟩;have:=h2 i r' hr';rw[Ym]at this;cases hx:l[i]? with
 |none=>rw[hx]at this;cases this
 |some r=>rw[hx]at this;simp only[Yz,Yi]at this;obtain⟨h3,h4⟩:=qb this;exact⟨r,rfl,h3,h4⟩
theorem xM{w:World}{σ:bD}{K:ac}(hW:bu w σ K):∀(d:Nat) (a a':AV) (v:Value),frz K d a=some a'→bb w σ (aK σ K) a v→bb w σ (aK σ ac.empty) a' v
 |0,a,a',v,h,_=>by cases h
 | d+1,a,a',v,h,hr=>by
  have hout:∀c,¬aK σ K c→¬aK σ ac.empty c:=λc hc ho=>by
   rcases ho with ho|⟨b,x,pl,h1,_,_⟩
   ·exact hc (.inl ho)
   ·rw[cX]at h1;cases h1
  cases a with
  |sl b i n=>
   simp only[frz]at h;obtain⟨pl,ad,cap,rfl,hs,hn,hm,ha⟩:=hr.sl_inv;split at h
   ·rename_i h0;cases h;rw[h0];exact .lst0 _ _ hm
   ·rename_i h0;split at h
    ·rename_i x hx;split at h
     ·rename_i hc;cases hf:xL (frz K d) ((x.rows.drop i).take n)with
      |none=>rw[hf]at h;cases h
      |some m=>
       rw[hf]at h;cases h;obtain⟨rfl,cs,ty,hcs,hroom⟩:=ha ZJ;obtain⟨pl',cs',e',g1,g2⟩:=hW.live b x hx;rw[hs]at g1;cases g1;replace g2:=g2.1 (hr.sl_ok hs);obtain⟨f1,f2⟩:=Ch hf;have hlen:m.length=n:=by rw[←f1];simp;omega
       have get:∀(q:Nat) (r:List AV),((x.rows.drop i).take n)[q]? =some r→q<n∧x.rows[i+q]? =some r:=λq r hq=>by have hq':=aB hq;rw[←f1]at hlen;rw[hlen]at hq';rw[YG hq',YY]at hq;exact⟨hq',hq⟩
       have hnot:¬aK σ ac.empty pl.block:=λho=>by
        rcases ho with ho|⟨b',x',pl'',h1,_,_⟩
        ·exact(hW.apart _ ho).2 ⟨b,x,pl,hx,hs,rfl⟩
        ·rw[cX]at h1;cases h1
       have:=bb.lst (w:=w) (σ:=σ) (T:=aK σ ac.empty) m pl.block (pl.base+i*pl.size) pl.size cap
        ⟨hnot,λq r' hr'=>by
         obtain⟨r,k1,k2,_⟩:=f2 q r' hr';rw[←k2,g2.even _ r (get q r k1).2,g2.size],λq j hq hj=>by
         obtain⟨r,k1,k2,_⟩:=f2 q m[q] (X6 hq);have hrow:=g2.row (get q r k1).2;have hj':j<r.length:=by rw[g2.even _ r (get q r k1).2,←g2.size];exact hj
         obtain⟨u,hu,_⟩:=hrow j _ (X6 hj');rw[YQ,←YZ]at hu;exact⟨u,hu⟩,by rw[g2.size];exact hc.1,ZJ⟩ ZJ hm
        (λq r' j y u hr' hy hu=>by
         obtain⟨r,k1,k2,k3⟩:=f2 q r' hr';obtain⟨z,k4,k5⟩:=k3 j y hy;obtain⟨u',hu',hz⟩:=g2.row (get q r k1).2 j z k4;rw[YQ,←YZ]at hu';rw[hu]at hu';cases hu';exact xM hW d z y u k5 hz)
       rw[hlen]at this;exact this
     ·cases h
    ·cases h
  |nils=>simp only[frz]at h;cases h;cases hr;exact .lst0 _ _ (by unfold maxLen;omega)
  |lst rows=>
   simp only[frz]at h;cases hf:xL (frz K d) rows with
   |none=>rw[hf]at h;cases h
   |some m=>
    rw[hf]at h;cases h;obtain⟨f1,f2⟩:=Ch hf;cases hr with
    |lst0 a cap hm=>
     have:m=[]:=by cases m with
      |nil=>rfl
      |cons x m=>simp at f1
     subst this;exact .lst0 a cap hm
    |lst _ b o sz cap hl hn hm hc=>
     have:=bb.lst (w:=w) (σ:=σ) (T:=aK σ ac.empty) m b o sz cap
      ⟨hout b hl.out,λq r' hr'=>by
       obtain⟨r,k1,k2,_⟩:=f2 q r' hr';rw[←k2,hl.even q r k1],λq j hq hj=>hl.cell q j ZJ hj,hl.pos,by rw[←f1];exact hl.ne⟩ ZJ hm
      (λq r' j y u hr' hy hu=>by
       obtain⟨r,k1,k2,k3⟩:=f2 q r' hr';obtain⟨z,k4,k5⟩:=k3 j y hy;exact xM hW d z y u k5 (hc q r j z u k1 k4 hu))
     rw[←f1]at this;exact this
  |agg cs=>
   simp only[frz]at h;cases hf:cu (cs.map (frz K d))with
   |none=>rw[hf]at h;cases h
   |some m=>
    rw[hf]at h;cases h;obtain⟨f1,f2⟩:=qb hf;cases hr with
    |agg _ vs hl hc=>
     refine .agg m vs ZJ λq y u hy hu=>?_
     obtain⟨x,k1,k2⟩:=f2 q y hy;exact xM hW d x y u k2 (hc q x u k1 hu)
  |tup cs=>
   simp only[frz]at h;cases hf:cu (cs.map (frz K d))with
   |none=>rw[hf]at h;cases h
   |some m=>
    rw[hf]at h;cases h;obtain⟨f1,f2⟩:=qb hf;cases hr with
    |tup _ vs hl hc=>
     refine .tup m vs ZJ λq y u hy hu=>?_
     obtain⟨x,k1,k2⟩:=f2 q y hy;exact xM hW d x y u k2 (hc q x u k1 hu)
  |int k n=>simp only[frz]at h;cases h;cases hr;exact .int k n
  |bool b=>simp only[frz]at h;cases h;cases hr;exact .bool b
  |str s=>simp only[frz]at h;cases h;cases hr;exact .str _
  |nilp=>simp only[frz]at h;cases h;cases hr;exact .nilp
  |emp=>simp only[frz]at h;cases h;cases hr;exact .emp _
  |nilf=>simp only[frz]at h;cases h;cases hr;exact .nilf
  |junk=>simp only[frz]at h;cases h;exact .junk v
  |ptr b i off=>simp[frz]at h
  |pptr rows i off=>simp[frz]at h
  |fn f cs=>simp[frz]at h
  |mp b=>simp[frz]at h
  |it b=>simp[frz]at h
end Go.Proofs.YtdnpdghlggbklaaGreatDoor.Am
