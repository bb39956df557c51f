/- part -/
import Derived.Test.YtfckbjehkbhkgaaGreatQwb
import Derived.WalkSpells
import Derived.Deep.DeepMust
set_option linter.all false
set_option maxRecDepth 100000
set_option maxHeartbeats 0
namespace Go.Proofs.YtfckbjehkbhkgaaGreat.Am
section
def cC:Op->List Operand
 |.move x|.assign x|.box _ x|.load _ x|.nilCheck x|.unOp _ _ x|.convert _ _ x|.fieldAddr _ x _|.field _ x _|.extract x _=>[x]
 |.pick c a b=>[c,a,b]
 |.build _ ps|.buildSlice _ _ ps=>ps.toList.map (·.2)
 |.store _ a v|.binOp _ _ a v _|.makeSlice _ a v|.indexAddr _ a v|.index _ a v=>[a,v]
 |.makeFunc _ _ c=>c.toList
 |.lookup _ m k _=>[m,k]
 |.mapUpdate _ m k x=>[m,k,x]
 |.range _ x|.next x _=>[x]
 |.slice _ x l h m=>x::(l.toList++h.toList++m.toList)
 |.call c=>(match c.callee with|.value f=>[f]|_=>[])++c.args.toList
 |_=>[]
section
variable {P:Program} {F:TypeId->Option (List TypeId)}
theorem Np{ρ j:Operand->AV}{l:List Operand}(h:∀x∈l,ρ x=j x):l.map ρ=l.map j:=List.map_congr_left h
theorem FZ{ρ j:Operand->AV}{ps:List (Nat×Operand)}(h:∀x∈ps.map (·.2),ρ x=j x):(ps.map λp=>(p.1,ρ p.2))=ps.map λp=>(p.1,j p.2):=
 List.map_congr_left λp hp=>by rw[h p.2 (abP.2 ⟨p,hp,rfl⟩)]
theorem p8{ρ j:Operand->AV}:∀{l:List Operand},(∀x∈l,ρ x=j x)->(l.flatMap λx=>ai (ρ x))=l.flatMap λx=>ai (j x)
 |[],_=>rfl
 |a::l,h=>by simp only[List.flatMap_cons];rw[h a acQ,p8 λx u=>h x (by simp[u])]
theorem Nq{o:Op}{ρ j:Operand->AV}(h:∀x∈cC o,ρ x=j x)(b:Nat)(H:ah):bu P F o ρ b H=bu P F o j b H/\aV o ρ=aV o j/\aK o ρ=aK o j:=by
 cases o with
 |build t ps=>refine⟨?_,rfl,rfl⟩;simp only[bu];rw[FZ h]
 |buildSlice t n ps=>refine⟨?_,rfl,rfl⟩;simp only[bu];rw[FZ h]
 |makeFunc fn first c=>refine⟨?_,rfl,rfl⟩;cases fn<;>simp only[bu];rw[Np (l:=c.toList) h]
 |slice t x l G m=>
  have B:=h x (by simp[cC]);have O:l.map ρ=l.map j:=by cases l with
   |none=>rfl
   |some y=>simp[h y (by simp[cC])]
  have Y:G.map ρ=G.map j:=by cases G with
   |none=>rfl
   |some y=>simp[h y (by simp[cC])]
  have D:m.map ρ=m.map j:=by cases m with
   |none=>rfl
   |some y=>simp[h y (by simp[cC])]
  exact⟨by simp only[bu];rw[B,O,Y,D],by simp only[aV];rw[B],rfl⟩
 |call c=>
  have M:c.args.toList.map ρ=c.args.toList.map j:=Np λx B=>h x (by simp only[cC,aak];exact .inr B)
  have D:∀x∈c.args.toList,ρ x=j x:=λx B=>h x (by simp only[cC,aak];exact .inr B)
  have N:aV (.call c) ρ=aV (.call c) j:=by
   simp only[aV];split
   .exact p8 D
   .exact p8 D
   .rfl
  have S:aK (.call c) ρ=aK (.call c) j:=by
   simp only[aK];split
   .exact p8 λx B=>D x (acv B)
   .exact p8 D
   .rfl
  refine⟨?_,N,S⟩;simp only[bu];split
  .rw[M]
  .rename_i f Z;rw[h f (by simp only[cC,Z];simp),M]
  .rfl
 |store t a v=>refine⟨by simp only[bu];rw[h a (by simp[cC]),h v (by simp[cC])],by simp only[aV];rw[h a (by simp[cC])],by simp only[aK];rw[h a (by simp[cC])]⟩
 |load t a=>refine⟨by simp only[bu];rw[h a (by simp[cC])],by simp only[aV];rw[h a (by simp[cC])],rfl⟩
 |indexAddr t a v=>refine⟨by simp only[bu];rw[h a (by simp[cC]),h v (by simp[cC])],by simp only[aV];rw[h a (by simp[cC])],rfl⟩
 |pick c x y=>refine⟨by simp only[bu];rw[h c (by simp[cC]),h x (by simp[cC]),h y (by simp[cC])],rfl,rfl⟩
 |binOp op t x y u=>refine⟨by simp only[bu];rw[h x (by simp[cC]),h y (by simp[cC])],rfl,rfl⟩
 |makeSlice t x y=>refine⟨by simp only[bu];rw[h x (by simp[cC]),h y (by simp[cC])],rfl,rfl⟩
 |index t x y=>refine⟨by simp only[bu];rw[h x (by simp[cC]),h y (by simp[cC])],rfl,rfl⟩
 |move x=>refine⟨by simp only[bu];rw[h x (by simp[cC])],rfl,rfl⟩
 |assign x=>refine⟨by simp only[bu];rw[h x (by simp[cC])],rfl,rfl⟩
 |box t x=>refine⟨by simp only[bu];rw[h x (by simp[cC])],rfl,rfl⟩
 |nilCheck x=>refine⟨by simp only[bu];rw[h x (by simp[cC])],rfl,rfl⟩
 |unOp op t x=>refine⟨by simp only[bu];rw[h x (by simp[cC])],rfl,rfl⟩
 |convert s d x=>refine⟨by simp only[bu];rw[h x (by simp[cC])],rfl,rfl⟩
 |fieldAddr s x f=>refine⟨by simp only[bu];rw[h x (by simp[cC])],rfl,rfl⟩
 |field s x f=>refine⟨by simp only[bu];rw[h x (by simp[cC])],rfl,rfl⟩
 |extract x i=>refine⟨by simp only[bu];rw[h x (by simp[cC])],rfl,rfl⟩
 |makeMap t r=>cases r<;>exact⟨rfl,rfl,rfl⟩
 |lookup t m k ok=>exact⟨by simp only[bu];rw[h m (by simp[cC]),h k (by simp[cC])],by simp only[aV];rw[h m (by simp[cC])],rfl⟩
 |mapUpdate t m k x=>exact⟨by simp only[bu];rw[h m (by simp[cC]),h k (by simp[cC]),h x (by simp[cC])],by simp only[aV];rw[h m (by simp[cC])],by simp only[aK];rw[h m (by simp[cC])]⟩
 |range t x=>exact⟨by simp only[bu];rw[h x (by simp[cC])],rfl,rfl⟩
 |next E s=>cases s<;>exact⟨by simp only[bu]<;>rw[h E (by simp[cC])],by simp only[aV];rw[h E (by simp[cC])],by simp only[aK];rw[h E (by simp[cC])]⟩
 |_=>exact⟨rfl,rfl,rfl⟩
def vn(P:Program)(F:TypeId->Option (List TypeId))(o:Op)(ρ:Operand->AV)(b:Nat)(v:AV)(H' K:ah):Prop:=
 ∃K',bu P F o ρ b K=some (.val v K')/\K'.next=K.next/\∀c,K'.get c=if c∈aK o ρ\/c=b then H'.get c else K.get c
theorem vn.same{o:Op}{ρ:Operand->AV}{b:Nat}{v:AV}{H K:ah}(B:K.get b=H.get b)(u:aK o ρ=[])(h:bu P F o ρ b K=some (.val v K)):vn P F o ρ b v H K:=by
 refine⟨K,h,rfl,λc=>?_⟩;rw[u];split
 .rename_i j;rcases j with j|j
  .simp at j
  .rw[j];exact B
 .rfl
theorem vn.new{o:Op}{ρ:Operand->AV}{b:Nat}{v:AV}{H K:ah}{x:Blk}(u:aK o ρ=[])(h:bu P F o ρ b K=some (.val v (K.new b x))):vn P F o ρ b v (H.new b x) K:=by
 refine⟨_,h,rfl,λc=>?_⟩;rw[u,ah.get_new,ah.get_new];by_cases j:b=c
 .rw[if_pos j,if_pos j,if_pos (.inr j.symm)]
 .rw[if_neg j,if_neg];rintro(h1|h1)
  .simp at h1
  .exact j h1.symm
theorem vn.put{o:Op}{ρ:Operand->AV}{b q:Nat}{v:AV}{H K:ah}{x:Blk}(D:K.get b=H.get b)(B:aK o ρ=[q])(h:bu P F o ρ b K=some (.val v (K.put q (some x)))):vn P F o ρ b v (H.put q (some x)) K:=by
 refine⟨_,h,rfl,λd=>?_⟩;rw[B,ah.get_put,ah.get_put];by_cases j:q=d
 .rw[if_pos j,if_pos j,if_pos (.inl (by simp[j]))]
 .rw[if_neg j,if_neg j];split
  .rename_i u;rcases u with u|u
   .simp at u;exact absurd u.symm j
   .rw[u];exact D
  .rfl
theorem vn.sameW{o:Op}{ρ:Operand->AV}{b q:Nat}{v:AV}{H K:ah}(D:K.get b=H.get b)(u:aK o ρ=[q])(B:K.get q=H.get q)(h:bu P F o ρ b K=some (.val v K)):vn P F o ρ b v H K:=by
 refine⟨K,h,rfl,λc=>?_⟩;rw[u];split
 .rename_i j;rcases j with j|j
  .simp at j;rw[j];exact B
  .rw[j];exact D
 .rfl
theorem vp{H K:ah}{n:Nat}{x:AV}(j:∀c∈ai x,K.get c=H.get c):hY K n x=hY H n x:=by cases x<;>simp only[hY];rw[j _ (by simp[ai])]
theorem Je{H K:ah}{x:AV}(j:∀c∈dV x,K.get c=H.get c):n0 K x=n0 H x:=by cases x<;>simp only[n0];rw[j _ (by simp[dV])]
theorem OK{o:Op}{ρ:Operand->AV}{b:Nat}{v:AV}{H H':ah}(h:bu P F o ρ b H=some (.val v H'))(K:ah)(hr:∀c∈aV o ρ,K.get c=H.get c)(O:K.get b=H.get b):vn P F o ρ b v H' K:=by
 cases o with
 |load t a=>
  simp only[bu]at h;obtain⟨N,rfl⟩:=gR h;refine .same O rfl ?_;have:ph P K t (ρ a)=ph P H' t (ρ a):=by simp only[aV]at hr;generalize ρ a=x at hr;cases x<;>simp only[ph];rw[hr _ (by simp[ai])]
  simp only[bu,this,N,abp]
 |indexAddr t x ix=>
  simp only[bu]at h;obtain⟨N,rfl⟩:=gR h;refine .same O rfl ?_;have:fF P (n0 K (ρ x)) t (ρ x) (ρ ix)=some v:=by rw[Je hr];exact N
  simp only[bu,this,abp]
 |slice t x lo hi mx=>
  simp only[bu]at h;split at h
  .cases h
  .rename_i hcnd;obtain⟨N,rfl⟩:=gR h;refine .same O rfl ?_;have:md P (n0 K (ρ x)) t (ρ x) (lo.map ρ) (hi.map ρ) (mx.map ρ)=some v:=by rw[Je hr];exact N
   simp only[bu,this,abp];rw[if_neg hcnd]
 |store t a x=>
  simp only[bu]at h;cases S:iy P H t (ρ a) (ρ x)with
  |none=>rw[S]at h;cases h
  |some H1=>
   rw[S]at h;cases h;simp only[aV]at hr;have hst2:=S;unfold iy at S;split at S
   .rename_i c i off cs n ha hcs hn;rw[ha]at hr;have hkc:=hr c (by simp[ai]);split at S
    .rename_i y hy;split at S
     .rename_i r hrw;split at S
      .rename_i B;cases S;refine⟨K.put c (some {y with rows:=y.rows.set i (aR r off cs)}),?_,rfl,λd=>?_⟩
       .simp only[bu,iy,ha,hcs,hn,hkc,hy,hrw];rw[if_pos B];rfl
       .have hw:aK (.store t a x) ρ=[c]:=by simp[aK,ha,ai]
        rw[hw,ah.get_put,ah.get_put];by_cases Z:c=d
        .rw[if_pos Z,if_pos Z,if_pos (.inl (by simp[Z]))]
        .rw[if_neg Z,if_neg Z];split
         .rename_i Y;rcases Y with Y|Y
          .simp at Y;exact absurd Y.symm Z
          .rw[Y];exact O
         .rfl
      .cases S
     .cases S
    .cases S
   .cases S
 |call c=>
  simp only[bu]at h;split at h
  .rename_i bi E;cases j:bE P H b bi c.argTypes (c.args.toList.map ρ)with
   |none=>rw[j]at h;cases h
   |some r=>
    obtain⟨v0,H1⟩:=r;rw[j]at h;cases h;have fin:∀{K':ah} {u:AV},bE P K b bi c.argTypes (c.args.toList.map ρ)=some (u,K')->bu P F (.call c) ρ b K=some (.val u K'):=λhk=>by simp only[bu,E,hk,abp]
    have wnil:bi≠.append/\bi≠.clear->aK (.call c) ρ=[]:=λhne=>by simp only[aK,E];cases bi<;>first|rfl|exact absurd rfl hne.1|exact absurd rfl hne.2
    have hbi0:=j;unfold bE at j;split at j
    .rename_i s G;split at j
     .rename_i hty;cases j;exact .same O (wnil acQ) (fin (by rw[G];simp only[bE,hty]))
     .cases j
    .rename_i x hne G;have e:H1=H:=by
      split at j
      .rw[acF]at j;obtain⟨n,_,hn⟩:=j;cases hn;rfl
      .cases j;rfl
      .cases j
     subst e;refine .same O (wnil acQ) (fin ?_);rw[G];unfold bE;split
     .rename_i s e1 e2;cases e2;exact absurd rfl (hne s)
     .rename_i x' hne' e1 e2;cases e2;split at j
      .rw[acF]at j;obtain⟨n,hl,hn⟩:=j;cases hn;simp only[hl,abp]
      .cases j;rfl
      .cases j
     .rename_i e1 e2;cases e2
     .rename_i e1 e2;cases e2
     .rename_i e1 e2;cases e2
     .rename_i e1 e2;cases e1
     .rename_i e1 e2 e3 e4 e5 e6;simp_all
    .rename_i s x G;obtain⟨a0,a1,D,h0,N⟩:=rO G;split at j
     .rename_i t tx htt;split at j
      .rename_i e' hu';have hrs:∀c'∈ai s,K.get c'=H.get c':=λc' hc'=>hr c' (by simp[aV,E,D,h0,hc'])
       have hrx:∀c'∈ai x,K.get c'=H.get c':=λc' hc'=>hr c' (by simp[aV,E,D,N,hc'])
       have red:∀{K':ah} {u:AV},eh P K b t s x=some (u,K')->bE P K b .append c.argTypes (c.args.toList.map ρ)=some (u,K'):=λhk=>by rw[G];simp only[bE,htt,hu',hk]
       unfold eh at j;split at j
       .rename_i e hu;split at j
        .rename_i n by_ z hn hby hz;split at j
         .rename_i l m hl hm;have hl':hY K n s=some l:=by rw[vp hrs];exact hl
          have hm':hY K n x=some m:=by rw[vp hrx];exact hm
          split at j
          .rename_i B;split at j
           .split at j
            .rename_i hm0;cases j;refine .same O (by simp[aK,E,D,h0,ai]) (fin (red ?_));simp only[eh,hu,hn,hby,hz,hl',hm'];rw[if_pos B,if_pos hm0]
            .rename_i hm0;cases j;refine .new (by simp[aK,E,D,h0,ai]) (fin (red ?_));simp only[eh,hu,hn,hby,hz,hl',hm'];rw[if_pos B,if_neg hm0]
           .split at j
            .rename_i hm0;cases j;refine .same O (by simp[aK,E,D,h0,ai]) (fin (red ?_));simp only[eh,hu,hn,hby,hz,hl',hm'];rw[if_pos B,if_pos hm0]
            .rename_i hm0;cases j;refine .new (by simp[aK,E,D,h0,ai]) (fin (red ?_));simp only[eh,hu,hn,hby,hz,hl',hm'];rw[if_pos B,if_neg hm0]
           .rename_i b' i k;cases j;have hw:aK (.call c) ρ=[b']:=by simp[aK,E,D,h0,ai]
            refine⟨(K.put b' none).new b ⟨n,l++m⟩,fin (red ?_),rfl,λd=>?_⟩
            .simp only[eh,hu,hn,hby,hz,hl',hm'];rw[if_pos B]
            .rw[hw,ah.get_new,ah.get_new,ah.get_put,ah.get_put];by_cases Z:b=d
             .rw[if_pos Z,if_pos Z,if_pos (.inr Z.symm)]
             .rw[if_neg Z,if_neg Z];by_cases hd':b'=d
              .rw[if_pos hd',if_pos hd',if_pos (.inl (by simp[hd']))]
              .rw[if_neg hd',if_neg hd',if_neg];rintro(N|N)
               .simp at N;exact hd' N.symm
               .exact Z N.symm
           .cases j
          .cases j
         .cases j
        .cases j
       .cases j
      .cases j
     .cases j
    .rename_i k a k' c' G;split at j
     .rename_i hk;cases j;exact .same O (wnil acQ) (fin (by rw[G];simp only[bE];rw[if_pos hk]))
     .cases j
    .rename_i k a k' c' G;split at j
     .rename_i hk;cases j;exact .same O (wnil acQ) (fin (by rw[G];simp only[bE];rw[if_pos hk]))
     .cases j
    .rename_i x G;split at j
     .rename_i t htt;cases M:gM P H t x with
      |none=>rw[M]at j;cases j
      |some K1=>
       rw[M]at j;cases j;obtain⟨a0,D,h0⟩:=rN G;have red:∀{K':ah},gM P K t x=some K'->bE P K b .clear c.argTypes (c.args.toList.map ρ)=some (.tup [],K'):=λhk=>by rw[G];simp only[bE,htt,hk,abp]
       unfold gM at M;split at M
       .rename_i e hu;split at M
        .rename_i n z hn hz;split at M
         .cases M;exact .same O (by simp[aK,E,D,h0,ai]) (fin (red (by simp only[gM,hu,hn,hz])))
         .rename_i d i k;split at M
          .rename_i y hy;split at M
           .rename_i B;cases M;have hkd:K.get d=some y:=by rw[hr d (by simp[aV,E,D,h0,ai])];exact hy
            have hw:aK (.call c) ρ=[d]:=by simp[aK,E,D,h0,ai]
            refine⟨K.put d (some {y with rows:=y.rows.take i++List.replicate k z++y.rows.drop (i+k)}),fin (red ?_),rfl,λq=>?_⟩
            .simp only[gM,hu,hn,hz,hkd];rw[if_pos B]
            .rw[hw,ah.get_put,ah.get_put];by_cases Z:d=q
             .rw[if_pos Z,if_pos Z,if_pos (.inl (by simp[Z]))]
             .rw[if_neg Z,if_neg Z];split
              .rename_i Y;rcases Y with Y|Y
               .simp at Y;exact absurd Y.symm Z
               .rw[Y];exact O
              .rfl
           .cases M
          .cases M
         .cases M
        .cases M
       .cases M
     .cases j
    .cases j
  .split at h<;>cases h
  .cases h
 |alloc t=>
  simp only[bu]at h;split at h
  .rename_i cs hcs;cases h;exact .new rfl (by simp only[bu,hcs])
  .cases h
 |box t x=>
  simp only[bu]at h;split at h
  .rename_i cs hcs;split at h
   .rename_i ho;cases h;exact .new rfl (by simp only[bu,hcs];rw[if_pos ho])
   .cases h
  .cases h
 |buildSlice t len parts=>
  simp only[bu]at h;split at h
  .rename_i e hu;split at h
   .rename_i n z hn hz;split at h
    .rename_i Y;cases hf:fK n (List.replicate len z) (parts.toList.map λp=>(p.1,ρ p.2))with
     |none=>rw[hf]at h;cases h
     |some rows=>rw[hf]at h;cases h;exact .new rfl (by simp only[bu,hu,hn,hz];rw[if_pos Y,hf];rfl)
    .cases h
   .cases h
  .cases h
 |makeSlice t l c=>
  simp only[bu]at h;split at h
  .rename_i e hu;split at h
   .rename_i n by_ z l' c' hn hby hz hl Y;split at h
    .rename_i B;cases h;exact .new rfl (by simp only[bu,hu,hn,hby,hz,hl,Y];rw[if_pos B])
    .cases h
   .cases h
  .cases h
 |makeFunc fn first cap=>
  cases fn<;>simp only[bu]at h<;>(try (cases h;done));split at h
  .rename_i hf;cases h;exact .same O rfl (by simp only[bu];rw[if_pos hf])
  .cases h
 |pick c x y=>
  simp only[bu]at h;split at h
  .rename_i t Y;cases h;exact .same O rfl (by simp only[bu,Y])
  .cases h
 |nilCheck x=>simp only[bu]at h;split at h<;>(try (cases h;done))<;>(rename_i G;cases h;exact .same O rfl (by simp only[bu,G]))
 |extract x i=>
  simp only[bu]at h;split at h
  .rename_i vs hx;obtain⟨N,rfl⟩:=gR h;exact .same O rfl (by simp only[bu,hx,N];rfl)
  .cases h
 |makeMap t r=>
  cases r with
  |none=>simp only[bu]at h;cases h;exact .new rfl rfl
  |some r=>simp[bu]at h
 |lookup t m k ok=>simp only[bu]at h;obtain⟨N,rfl⟩:=gR h;obtain⟨c,x,hm,hx,hK⟩:=Bn N;refine .same O rfl ?_;simp only[bu];rw[hK K (by rw[hr c (by simp[aV,hm,ai]),hx])];rfl
 |mapUpdate t m k x=>
  simp only[bu]at h;cases hs:gy P H t (ρ m) (ρ k) (ρ x)with
  |none=>rw[hs]at h;cases h
  |some H2=>rw[hs]at h;cases h;obtain⟨c,y,y',hm,hy,rfl,hK⟩:=oh hs;refine .put O (by simp[aK,hm,ai]) ?_;simp only[bu];rw[hK K (by rw[hr c (by simp[aV,hm,ai]),hy])];rfl
 |range t x=>
  simp only[bu]at h;split at h
  .rename_i s hu hx;cases h;exact .new rfl (by simp only[bu,hu,hx])
  .cases h
 |next it s=>
  cases s with
  |false=>simp[bu]at h
  |true=>
   simp only[bu]at h;cases hs:jN H (ρ it)with
   |none=>rw[hs]at h;cases h
   |some r=>
    obtain⟨v0,H2⟩:=r;rw[hs]at h;cases h;obtain⟨c,y,hm,hy,⟨rfl,hK⟩|⟨y',rfl,hK⟩⟩:=vl hs
    .have Y:=hr c (by simp[aV,hm,ai]);refine .sameW (q:=c) O (by simp[aK,hm,ai]) Y ?_;simp only[bu];rw[hK K (by rw[Y,hy])];rfl
    .have Y:=hr c (by simp[aV,hm,ai]);refine .put O (by simp[aK,hm,ai]) ?_;simp only[bu];rw[hK K (by rw[Y,hy])];rfl
 |move x=>simp only[bu]at h;cases h;exact .same O rfl (by simp only[bu])
 |assign x=>simp only[bu]at h;cases h;exact .same O rfl (by simp only[bu])
 |build t ps=>simp only[bu]at h;obtain⟨N,rfl⟩:=gR h;exact .same O rfl (by simp only[bu,N];rfl)
 |binOp op t x y u=>simp only[bu]at h;obtain⟨N,rfl⟩:=gR h;exact .same O rfl (by simp only[bu,N];rfl)
 |unOp op t x=>simp only[bu]at h;obtain⟨N,rfl⟩:=gR h;exact .same O rfl (by simp only[bu,N];rfl)
 |convert s d x=>simp only[bu]at h;obtain⟨N,rfl⟩:=gR h;exact .same O rfl (by simp only[bu,N];rfl)
 |fieldAddr s x f=>simp only[bu]at h;obtain⟨N,rfl⟩:=gR h;exact .same O rfl (by simp only[bu,N];rfl)
 |field s x f=>simp only[bu]at h;obtain⟨N,rfl⟩:=gR h;exact .same O rfl (by simp only[bu,N];rfl)
 |index t x y=>simp only[bu]at h;obtain⟨N,rfl⟩:=gR h;exact .same O rfl (by simp only[bu,N];rfl)
 |_=>simp[bu]at h
theorem Bs{o:Op}{ρ:Operand->AV}{b:Nat}{g:FuncId}{args:List AV}{H:ah}(h:bu P F o ρ b H=some (.call g args))(K:ah):bu P F o ρ b K=some (.call g args):=by
 cases o with
 |call c=>
  simp only[bu]at h ⊢;split at h
  .rename_i D _;cases j:bE P H b D c.argTypes (c.args.toList.map ρ)with
   |none=>rw[j]at h;cases h
   |some r=>rw[j]at h;cases h
  .rename_i f G;exact h
  .cases h
 |makeFunc u first B=>cases u<;>simp only[bu]at h<;>(try split at h)<;>simp at h
 |makeMap t r=>cases r<;>simp[bu]at h
 |next E s=>cases s<;>simp[bu]at h
 |_=>
  exfalso;simp only[bu]at h
  repeat' (first|(cases h;done)|(simp at h;done)|split at h)
end
end
def Jf(f:Edge->Nat)(p:Edge->Bool)(k:Nat):∀(l:List Edge) (s:Nat),(l.foldl (λs e=>if p e then s ||| f e else s) s).testBit k=true->s.testBit k=true\/∃e∈l,p e=true/\(f e).testBit k=true
 |[],s,h=>.inl h
 | e::l,s,h=>by
  rw[acg]at h;rcases Jf f p k l _ h with j|⟨u,j,h2⟩
  .split at j
   .rename_i hp;rw[Nat.testBit_or,Bool.or_eq_true]at j;rcases j with j|j
    .exact .inl j
    .exact .inr ⟨e,acQ,hp,j⟩
   .exact .inl j
  .exact .inr ⟨u,by simp[j],h2⟩
def uk(acc:List Nat)(o:Oper):Nat:=o.after.toList.foldl (λs e=>if Region.binds .any e then s ||| 2^e.on ||| acc.getD e.on 0 else s) 0
def LN{j:List Nat}{o:Oper}{k:Nat}(h:(uk j o).testBit k=true):∃e∈o.after.toList,Region.binds .any e=true/\(k=e.on\/(j.getD e.on 0).testBit k=true):=by
 have E:uk j o=o.after.toList.foldl (λs e=>if Region.binds .any e then s ||| (2^e.on ||| j.getD e.on 0)else s) 0:=by
  unfold uk;congr 1;funext s e;split
  .rw[Nat.or_assoc]
  .rfl
 rw[E]at h;rcases Jf (λe=>2^e.on ||| j.getD e.on 0) (Region.binds .any) k _ _ h with B|⟨e,B,G,u⟩
 .simp at B
 .refine⟨e,B,G,?_⟩;rw[Nat.testBit_or,Bool.or_eq_true]at u;rcases u with u|u
  .rw[Nat.testBit_two_pow]at u;exact .inl (by have D:=u;simp at D;exact D.symm)
  .exact .inr u
def Bt:∀(l:List Oper) (u:List Nat),u.length+l.length=(cI l u).length/\(∀i,i<u.length->(cI l u).getD i 0=u.getD i 0)/\
  ∀(i:Nat) (o:Oper),l[i]? =some o->∃B,(cI l u).getD (u.length+i) 0=uk B o/\(∀j,B.getD j 0=(cI l u).getD j 0\/B.getD j 0=0)/\(∀j,u.length+i<=j->B.getD j 0=0)
 |[],u=>by simp[cI]
 | o::l,u=>by
  obtain⟨S,h2,M⟩:=Bt l (u++[uk u o]);have N:cI (o::l) u=cI l (u++[uk u o]):=rfl;rw[N];simp only[aal,ach]at S h2 M;have D:∀i,i<u.length->(cI l (u++[uk u o])).getD i 0=u.getD i 0:=λi O=>by rw[h2 i acN];simp[List.getD,aaW O]
  refine⟨acS,D,λi q G=>?_⟩
  match i with
  |0=>
   simp only[List.getElem?_cons_zero,aaS]at G;subst G;refine⟨u,?_,λj=>?_,λj E=>?_⟩
   .rw[acz,h2 u.length acN];simp[List.getD]
   .rcases LE j u.length with E|E
    .exact .inl (D j E).symm
    .exact .inr (by simp[List.getD,aah E])
   .simp[List.getD,aah (show u.length<=j by omega)]
  |i+1=>simp only[acj]at G;obtain⟨B,g1,Z,Y⟩:=M i q G;exact⟨B,by rw[<-g1];congr 1;omega,Z,λj E=>Y j acN⟩
def OL{ops:Array Oper}{i:Nat}{o:Oper}(N:ops[i]? =some o){k:Nat}(h:((cI ops.toList []).getD i 0).testBit k=true):
  ∃e∈o.after.toList,Region.binds .any e=true/\(k=e.on\/(e.on<i/\((cI ops.toList []).getD e.on 0).testBit k=true)):=by
 obtain⟨_,_,O⟩:=Bt ops.toList [];obtain⟨M,G,S,E⟩:=O i o (by rw[abv];exact N);simp only[abq,abI]at G E;rw[G]at h;obtain⟨e,Z,Y,j⟩:=LN h;refine⟨e,Z,Y,?_⟩;rcases j with j|j
 .exact .inl j
 .right;rcases LE e.on i with u|B
  .refine⟨u,?_⟩;rcases S e.on with D|D
   .rw[D]at j;exact j
   .rw[D]at j;simp at j
  .rw[E e.on B]at j;simp at j
def G2(ops:Array Oper)(L:Nat->Bool):Prop:=∀(i:Nat) (o:Oper),ops[i]? =some o->L i=true->∀e∈o.after.toList,Region.binds .any e=true->L e.on=true
def G2.ahead{ops:Array Oper}{L:Nat->Bool}(O:G2 ops L):∀(i:Nat) (o:Oper),ops[i]? =some o->(∀e∈o.after.toList,Region.binds .any e=true->L e.on=true)->∀k,((cI ops.toList []).getD i 0).testBit k=true->L k=true:=by
 intro i
 induction i using Nat.strongRecOn with
 |_ i G=>
  intro o E N k M;obtain⟨e,e1,e2,e3⟩:=OL E M;have B:=N e e1 e2;rcases e3 with rfl|⟨D,Z⟩
  .exact B
  .have u:e.on<ops.size:=by have:i<ops.size:=(acm.1 E).1;omega
   have j:ops[e.on]? =some ops[e.on]:=abu u;exact G e.on D _ j (λe' Y S=>O e.on _ j B e' Y S) k Z
def dy(p:Nat->Bool):Nat->Option Nat
 |0=>none
 |k+1=>if p k then some k else dy p k
def lF{p q:Nat->Bool}:∀{k:Nat},(∀i,i<k->p i=q i)->dy p k=dy q k
 |0,_=>rfl
 | k+1,h=>by unfold dy;rw[h k acN,lF λi j=>h i acN]
def um{p:Nat->Bool}{k m:Nat}(j:k<=m)(h:∀i,k<=i->i<m->p i=false):dy p m=dy p k:=by
 induction m with
 |zero=>rw[show k=0 by omega]
 |succ m u=>
  rcases acs j with rfl|B
  .rfl
  .rw[dy,h m acN acN,if_neg acQ];exact u acN λi D E=>h i D acN
def p9{p L:Nat->Bool}{n i:Nat}(M:i<n)(B:L i=false)(h:∀j,j<n->j≠i->p j=true->(j<i->L j=true)/\(i<j->L j=false)):
  dy (λj=>L j&&p j) n=dy p i:=by
 rw[um (k:=i) acN]
 .refine lF λj D=>?_
  cases hp:p j with
  |false=>simp
  |true=>simp[(h j acN acN hp).1 D]
 .intro j G E;rcases acs G with rfl|u
  .simp[B]
  .cases hp:p j with
   |false=>simp
   |true=>simp[(h j E acN hp).2 u]
def xH{p L:Nat->Bool}{n i:Nat}(E:i<n)(B:L i=false)(u:p i=true)(h:∀j,j<n->j≠i->p j=true->(i<j->L j=false)):
  dy (λj=>(if j=i then true else L j)&&p j) n=some i:=by
 rw[um (k:=i+1) acN]
 .simp[dy,u]
 .intro j G D;cases hp:p j with
  |false=>simp
  |true=>simp[h j D acN hp acN,show¬j=i by omega]
def oq{p L:Nat->Bool}{n i:Nat}(u:p i=false):dy (λj=>(if j=i then true else L j)&&p j) n=dy (λj=>L j&&p j) n:=by
 refine lF λj _=>?_
 by_cases B:j=i
 .subst B;simp[u]
 .simp[B]
section
section
variable (P:Program) (F:TypeId->Option (List TypeId)) (call:FuncId->List AV->ah->Option (AV×ah)) (ops:Array Oper) (base:Nat) (τ0:List AV) (H0:ah)
def fY:Nat->List AV×ah
 |0=>(τ0,H0)
 | i+1=>match bW P F call ops base i ((cI ops.toList []).getD i 0) (fY i).1 (fY i).2 with
  |some (τ,H,_)=>(τ,H)
  |none=>fY i
def iB(i:Nat):Option sZ:=
 match bW P F call ops base i ((cI ops.toList []).getD i 0) (fY P F call ops base τ0 H0 i).1 (fY P F call ops base τ0 H0 i).2 with
 |some (_,_,r)=>r
 |none=>none
structure mP:Prop where
 step:∀i,i<ops.size->bW P F call ops base i ((cI ops.toList []).getD i 0) (fY P F call ops base τ0 H0 i).1 (fY P F call ops base τ0 H0 i).2 =
  some ((fY P F call ops base τ0 H0 (i+1)).1,(fY P F call ops base τ0 H0 (i+1)).2,iB P F call ops base τ0 H0 i)
 free:∀i j x r,j<i->i<ops.size->iB P F call ops base τ0 H0 j=some x->iB P F call ops base τ0 H0 i=some r->((cI ops.toList []).getD i 0).testBit j=true\/mH x r=false
end
section
variable {P:Program} {F:TypeId->Option (List TypeId)} {call:FuncId->List AV->ah->Option (AV×ah)} {ops:Array Oper} {base:Nat} {τ0:List AV} {H0:ah}
theorem Jg{i j:Nat}{B u:List AV}{H H':ah}{x:sZ}(h:bW P F call ops base i j B H=some (u,H',some x)):x.op=i:=by
 unfold bW at h
 repeat' (first|(cases h;rfl)|(cases h;done)|split at h)
theorem Qp:∀(m k:Nat) (rs E:List sZ) (u:List AV) (K:ah),
  fS P F call ops base (cI ops.toList []) (List.range' k m) (fY P F call ops base τ0 H0 k).1 (fY P F call ops base τ0 H0 k).2 rs=some (u,K,E)->(∀j x,j<k->iB P F call ops base τ0 H0 j=some x->x∈rs/\x.op=j)->
  (∀i,k<=i->i<k+m->bW P F call ops base i ((cI ops.toList []).getD i 0) (fY P F call ops base τ0 H0 i).1 (fY P F call ops base τ0 H0 i).2 =
   some ((fY P F call ops base τ0 H0 (i+1)).1,(fY P F call ops base τ0 H0 (i+1)).2,iB P F call ops base τ0 H0 i))/\
  (∀i j x r,k<=i->i<k+m->j<i->iB P F call ops base τ0 H0 j=some x->iB P F call ops base τ0 H0 i=some r->((cI ops.toList []).getD i 0).testBit j=true\/mH x r=false)/\
  (u,K)=fY P F call ops base τ0 H0 (k+m)
 | 0,k,rs,E,u,K,h,_=>by simp only[List.range'_zero,fS,aaS,Prod.mk.injEq]at h;obtain⟨rfl,rfl,rfl⟩:=h;exact⟨λi h1 h2=>by omega,λi j x r h1 h2=>by omega,rfl⟩
 | m+1,k,rs,E,u,K,h,hrs=>by
  rw[List.range'_succ]at h;unfold fS at h;cases S:bW P F call ops base k ((cI ops.toList []).getD k 0) (fY P F call ops base τ0 H0 k).1 (fY P F call ops base τ0 H0 k).2 with
  |none=>rw[S]at h;cases h
  |some q=>
   obtain⟨Y,H1,r⟩:=q;rw[S]at h;have e1:fY P F call ops base τ0 H0 (k+1)=(Y,H1):=by rw[fY,S]
   have e2:iB P F call ops base τ0 H0 k=r:=by rw[iB,S]
   have M:∀D,fS P F call ops base (cI ops.toList []) (List.range' (k+1) m) Y H1 D=some (u,K,E)->(∀x,r=some x->x∈D)->(∀x∈rs,x∈D)->
     (∀j x,j<k->iB P F call ops base τ0 H0 j=some x->∀y,r=some y->((cI ops.toList []).getD k 0).testBit j=true\/mH x y=false)->_:=λD h2 hr2 Z O=>by
    obtain⟨a1,a2,a3⟩:=Qp m (k+1) D E u K (by rw[e1];exact h2) (λj x hj B=>by
     rcases acs (Nat.le_of_lt_succ hj)with rfl|G
     .rw[e2]at B;refine⟨hr2 x B,?_⟩;rw[B]at S;exact Jg S
     .obtain⟨b1,b2⟩:=hrs j x G B;exact⟨Z x b1,b2⟩)
    refine(⟨λi h1 h2=>?_,λi j x y h1 h2 hji B hy=>?_,by rw[a3];congr 1;omega⟩:(∀i,k<=i->i<k+(m+1)->bW P F call ops base i ((cI ops.toList []).getD i 0) (fY P F call ops base τ0 H0 i).1 (fY P F call ops base τ0 H0 i).2 =
     some ((fY P F call ops base τ0 H0 (i+1)).1,(fY P F call ops base τ0 H0 (i+1)).2,iB P F call ops base τ0 H0 i))/\
     (∀i j x r,k<=i->i<k+(m+1)->j<i->iB P F call ops base τ0 H0 j=some x->iB P F call ops base τ0 H0 i=some r->((cI ops.toList []).getD i 0).testBit j=true\/mH x r=false)/\
     (u,K)=fY P F call ops base τ0 H0 (k+(m+1)))
    .rcases acs h1 with rfl|G
     .rw[S,e1,e2]
     .exact a1 i G acN
    .rcases acs h1 with rfl|G
     .rw[e2]at hy;exact O j x hji B y hy
     .exact a2 i j x y G acN hji B hy
   cases r with
   |none=>exact M rs h acQ (λx B=>B) acQ
   |some y=>
    simp only[]at h;split at h
    .rename_i N;refine M (y::rs) h acQ (λx B=>by simp[B]) (λj x hj B y' hy'=>?_)
     cases hy';rw[abh]at N;obtain⟨b1,b2⟩:=hrs j x hj B;have:=N x b1;rw[b2]at this;simpa using this
    .cases h
end
end
section
theorem bC.sig{w:World}{σ σ':bO}{T:Nat->Prop}(hm:σ'.map=σ.map){a:AV}{v:Value}(h:bC w σ T a v):bC w σ' T a v:=by
 have e:∀{b D},σ.map b=some D->σ'.map b=some D:=λhb=>by rw[hm];exact hb
 induction h with
 |int k n=>exact .int k n
 |bool b=>exact .bool b
 |str s=>exact .str s
 |nilp=>exact .nilp
 |ptr b i M D h hp=>exact .ptr b i M D (e h) hp
 |mp b D h Z Y=>exact .mp b D (e h) Z Y
 |it b D h Z Y=>exact .it b D (e h) Z Y
 |pptr j i M b o sz G h E=>exact .pptr j i M b o sz G E
 |nils=>exact .nils
 |emp a=>exact .emp a
 |sl b i n D a B h hp S u ha=>exact .sl b i n D a B (e h) hp S u ha
 |lst0 a B u=>exact .lst0 a B u
 |lst j b o sz B G S u h E=>exact .lst j b o sz B G S u E
 |agg O N G h E=>exact .agg O N G E
 |tup O N G h E=>exact .tup O N G E
 |fn f O N G h E=>exact .fn f O N G E
 |nilf=>exact .nilf
 |junk v=>exact .junk v
theorem xC.sig{w:World}{σ σ':bO}{T:Nat->Prop}(D:σ'.map=σ.map){x:Blk}{B:de}{cs:Array Value}{e:TypeId}(h:xC w σ T x B cs e):xC w σ' T x B cs e:=
 ⟨h.size,h.block,h.even,h.room,λi r j a u M G E=>(h.rep i r j a u M G E).sig D⟩
theorem lE.sig{w:World}{σ σ':bO}{T:Nat->Prop}(u:σ'.map=σ.map){x:Blk}{j:de}{cs:Array Value}{e:TypeId}(h:lE w σ T x j cs e):lE w σ' T x j cs e:=⟨λhp=>(h.1 hp).sig u,h.2⟩
def bO.part(σ:bO)(K Hc:ah):bO:=⟨σ.map,λc=>aX σ K c/\¬Ef σ Hc c⟩
section
variable {w w':World} {σ σ':bO} {K Hc H1 K':ah}
theorem Ef.sub(j:∀c x,Hc.get c=some x->K.get c=some x){d:Nat}(h:Ef σ Hc d):Ef σ K d:=by obtain⟨b,x,u,E,D,B⟩:=h;exact⟨b,x,u,j b x E,D,B⟩
theorem vq(j:∀c x,Hc.get c=some x->K.get c=some x):aX (σ.part K Hc) Hc=aX σ K:=by
 funext d;apply propext;constructor
 .rintro(h|h)
  .exact h.1
  .exact .inr (Ef.sub j h)
 .intro h;by_cases u:Ef σ Hc d
  .exact .inr u
  .exact .inl ⟨h,u⟩
theorem bJ.part(B:bJ w σ K)(j:∀c x,Hc.get c=some x->K.get c=some x)(S:K.next<=Hc.next):bJ w (σ.part K Hc) Hc:=by
 refine⟨λb u M=>abk (B.named b u M) S,B.lt,λb x M=>?_,λc N=>⟨?_,N.2⟩,λb b' x O u G E D h3 Z Y=>B.inj b b' x O u G (j _ _ E) (j _ _ D) h3 Z Y,by rw[vq j];exact B.glob⟩
 .obtain⟨u,cs,e,E,D⟩:=B.live b x (j b x M);rw[vq j];exact⟨u,cs,e,E,lE.sig (σ:=σ) (σ':=σ.part K Hc) rfl D⟩
 .rcases N.1 with h|⟨b,x,u,E,D,rfl⟩
  .exact(B.apart c h).1
  .exact B.lt b u D
theorem bJ.whole(hW:bJ w σ K)(hsub:∀c x,Hc.get c=some x->K.get c=some x)(hn:Hc.next=K.next)(M:bJ w' σ' H1)(hE:fT w (σ.part K Hc) (aX (σ.part K Hc) Hc) w' σ' (aX σ' H1))
  (hdom:∀c,c<Hc.next->Hc.get c=none->H1.get c=none) (hK':∀c,K'.get c=if Hc.get c=none/\c<K.next then K.get c else H1.get c) (hn':H1.next<=K'.next) :
  bJ w' ⟨σ'.map,σ.fr⟩ K'/\fT w σ (aX σ K) w' ⟨σ'.map,σ.fr⟩ (aX ⟨σ'.map,σ.fr⟩ K')/\aX ⟨σ'.map,σ.fr⟩ K'=aX σ' H1:=by
 have hfr:∀c,σ'.fr c↔(aX σ K c/\¬Ef σ Hc c):=λc=>by rw[hE.eqfr];exact Iff.rfl
 have u:∀b j,σ.map b=some j->σ'.map b=some j:=λb j h=>hE.sig b j h
 have D:∀b x,Hc.get b=none->K.get b=some x->∃j,σ.map b=some j/\σ'.fr j.block:=λb x h0 hx=>by obtain⟨j,cs,e,N,S⟩:=hW.live b x hx;refine⟨j,N,(hfr _).2 ⟨.inr ⟨b,x,j,hx,N,rfl⟩,?_⟩⟩;rintro⟨b2,x2,pl2,B,g2,Y⟩;have:=hW.inj b2 b x2 x pl2 j (hsub _ _ B) hx g2 N Y;subst this;rw[h0]at B;cases B
 have E:∀b x,K'.get b=some x->(Hc.get b=none/\b<K.next/\K.get b=some x)\/H1.get b=some x:=λb x hx=>by
  rw[hK']at hx;split at hx
  .rename_i O;exact .inl ⟨O.1,O.2,hx⟩
  .exact .inr hx
 have frK:∀c,σ.fr c->σ'.fr c:=λc O=>(hfr c).2 ⟨.inl O,λht=>(hW.apart c O).2 (Ef.sub hsub ht)⟩
 have G:aX ⟨σ'.map,σ.fr⟩ K'=aX σ' H1:=by
  funext d;apply propext;constructor
  .rintro(h|⟨b,x,j,N,S,rfl⟩)
   .exact .inl (frK d h)
   .rcases E b x N with⟨B,g2,Y⟩|B
    .obtain⟨Z,e1,e2⟩:=D b x B Y;have h2':σ'.map b=some j:=S;rw[u b Z e1]at h2';cases h2';exact .inl e2
    .exact .inr ⟨b,x,j,B,S,rfl⟩
  .rintro(h|⟨b,x,j,N,S,rfl⟩)
   .obtain⟨h3,h4⟩:=(hfr d).1 h;rcases h3 with h3|⟨b,x,j,B,g2,Y⟩
    .exact .inl h3
    .have h0:Hc.get b=none:=by
      cases hg:Hc.get b with
      |none=>rfl
      |some y=>exact absurd ⟨b,y,j,hg,g2,Y⟩ h4
     exact .inr ⟨b,x,j,by rw[hK',if_pos ⟨h0,hW.named b j g2⟩];exact B,u b j g2,Y⟩
   .refine .inr ⟨b,x,j,?_,S,rfl⟩;rw[hK',if_neg]
    .exact N
    .rintro⟨h3,h4⟩;rw[hdom b acN h3]at N;cases N
 have hE2:fT w σ (aX σ K) w' ⟨σ'.map,σ.fr⟩ (aX ⟨σ'.map,σ.fr⟩ K'):=by rw[G];have ho:=vq (σ:=σ) hsub;exact⟨hE.os,hE.tape,hE.output,hE.size,λc O hT=>hE.keep c O (by rw[ho];exact hT),hE.shape,u,rfl,λc O=>hE.frame c ((hfr c).1 (frK c O)),λc O=>by have:=hE.own c O;rwa [ho]at this⟩
 refine⟨⟨λb j hb=>abk (M.named b j hb) hn',M.lt,λb x hx=>?_,λc O=>⟨?_,?_⟩,?_,by rw[G];exact M.glob⟩,hE2,G⟩
 .rcases E b x hx with⟨B,g2,Y⟩|B
  .obtain⟨j,cs,e,N,S⟩:=hW.live b x Y;obtain⟨Z,e1,e2⟩:=D b x B Y;have h1':σ.map b=some j:=N;rw[e1]at h1';cases h1';refine⟨j,cs,e,u b j e1,?_⟩;exact S.mono hE2 (hE.frame _ ((hfr _).1 e2))
  .obtain⟨j,cs,e,N,S⟩:=M.live b x B;rw[G];exact⟨j,cs,e,N,lE.sig (σ:=σ') (σ':=⟨σ'.map,σ.fr⟩) rfl S⟩
 .have:=(hW.apart c O).1;have:=hE.size;omega
 .rintro⟨b,x,j,N,S,h3⟩;rcases E b x N with⟨B,g2,Y⟩|B
  .obtain⟨Z,e1,e2⟩:=D b x B Y;have h2':σ'.map b=some j:=S;rw[u b Z e1]at h2';cases h2';exact(hW.apart c O).2 ⟨b,x,j,Y,e1,h3⟩
  .exact(M.apart c (frK c O)).2 ⟨b,x,j,B,S,h3⟩
 .intro b b' x x' j pl' N S h3 h4 h5;have h3':σ'.map b=some j:=h3;have h4':σ'.map b'=some pl':=h4;rcases E b x N with⟨B,g2,Y⟩|B
  .obtain⟨Z,e1,e2⟩:=D b x B Y;rw[u b Z e1]at h3';cases h3';rcases E b' x' S with⟨k1,k2,k3⟩|k1
   .obtain⟨pl1,f1,f2⟩:=D b' x' k1 k3;rw[u b' pl1 f1]at h4';cases h4';exact hW.inj b b' x x' j pl' Y k3 e1 f1 h5
   .exact absurd ⟨b',x',pl',k1,h4,h5.symm⟩ (M.apart _ e2).2
  .rcases E b' x' S with⟨k1,k2,k3⟩|k1
   .obtain⟨pl1,f1,f2⟩:=D b' x' k1 k3;rw[u b' pl1 f1]at h4';cases h4';exact absurd ⟨b,x,j,B,h3,h5⟩ (M.apart _ f2).2
   .exact M.inj b b' x x' j pl' B k1 h3 h4 h5
end
end
section
def jB(ops:Array Oper)(o:Oper):List Tmp:=
 o.dst.toList++(cC o.op).filterMap (fun|.tmp t=>some t|_=>none)++(match o.guard with|none=>[]|some (j,_)=>((ops[j]?).bind (·.dst)).toList)
def ou(ops:Array Oper):Prop:=∀(i j:Nat) (oi oj:Oper),j<i->ops[i]? =some oi->ops[j]? =some oj->
 ((cI ops.toList []).getD i 0).testBit j=true\/((∀t,oj.dst=some t->t∉jB ops oi)/\(∀t,oi.dst=some t->t∉jB ops oj))
def wr(ops:Array Oper)(t:Tmp)(i:Nat):Bool:=match ops[i]? with|some o=>o.dst==some t|none=>false
def dW(r:Option sZ)(c:Nat):Bool:=match r with
 |none=>false
 |some x=>x.writes.contains c||x.made.contains c||(x.isCall&&decide (x.lo<=c)&&decide (c<x.hi))
theorem uo{r:Option sZ}{c:Nat}:dW r c=true↔touched r c:=by
 cases r with
 |none=>simp[dW,touched]
 |some x=>simp[dW,touched,or_assoc,and_assoc]
def jq(r:Option sZ):Bool:=match r with|none=>false|some x=>x.isCall
section
variable {P:Program} {F:TypeId->Option (List TypeId)} {call:FuncId->List AV->ah->Option (AV×ah)} {ops:Array Oper} {base:Nat} {τ0:List AV} {H0:ah}
theorem Jh{i u:Nat}{B j:List AV}{H H':ah}{r:Option sZ}(h:bW P F call ops base i u B H=some (j,H',r)):∃o v,ops[i]? =some o/\j=iw B o.dst v:=by
 unfold bW at h;split at h
 .cases h
 .rename_i o D;refine⟨o,?_⟩
  repeat' (first|(cases h;exact⟨_,D,rfl⟩)|(cases h;done)|split at h)
structure eN(P:Program)(F:TypeId->Option (List TypeId))(call:FuncId->List AV->ah->Option (AV×ah))(ops:Array Oper)(base:Nat)(τ0:List AV)(H0:ah):Prop where
 bd:∀i,i<=ops.size->Bd (fY P F call ops base τ0 H0 i).2
 le:∀i,i<=ops.size->H0.next<=(fY P F call ops base τ0 H0 i).2.next
 fresh:∀i j,i<=j->j<ops.size->(fY P F call ops base τ0 H0 i).2.get (base+j)=none
 len:∀i,i<=ops.size->(fY P F call ops base τ0 H0 i).1.length=τ0.length
 chg:∀i,i<ops.size->VA base i (fY P F call ops base τ0 H0 i).2 (fY P F call ops base τ0 H0 (i+1)).2 (iB P F call ops base τ0 H0 i)
theorem OM(G:∀f args H v H',Bd H->call f args H=some (v,H')->zn H H')(D:mP P F call ops base τ0 H0)(N:Bd H0)(hn:base+ops.size=H0.next)(M:∀j,j<ops.size->H0.get (base+j)=none):eN P F call ops base τ0 H0:=by
 have u:∀i,i<=ops.size->Bd (fY P F call ops base τ0 H0 i).2/\H0.next<=(fY P F call ops base τ0 H0 i).2.next/\(∀j,i<=j->j<ops.size->(fY P F call ops base τ0 H0 i).2.get (base+j)=none)/\(fY P F call ops base τ0 H0 i).1.length=τ0.length:=by
  intro i
  induction i with
  |zero=>intro _;exact⟨N,Fd _,λj _ hj=>M j hj,rfl⟩
  |succ i Z=>intro B;obtain⟨Y,a2,a3,a4⟩:=Z acN;have E:=D.step i acN;have d:=j3 G Y acN E;obtain⟨o,v,_,hv⟩:=Jh E;refine⟨d.bd Y,abe a2 d.next,λj S O=>d.dom _ acN acN (a3 j acN O),?_⟩;rw[hv,<-a4];cases o.dst<;>simp[iw]
 exact⟨λi B=>(u i B).1,λi B=>(u i B).2.1,λi j S O=>(u i acN).2.2.1 j S O,λi B=>(u i B).2.2.2,λi B=>j3 G (u i acN).1 (by have:=(u i acN).2.1;omega) (D.step i B)⟩
def qa(P:Program)(F:TypeId->Option (List TypeId))(call:FuncId->List AV->ah->Option (AV×ah))(ops:Array Oper)(base:Nat)(τ0:List AV)(H0:ah)(L:Nat->Bool)(t:Tmp):Option AV:=
 match dy (λj=>L j&&wr ops t j) ops.size with
 |some j=>(fY P F call ops base τ0 H0 (j+1)).1[t]?
 |none=>τ0[t]?
def hget(P:Program)(F:TypeId->Option (List TypeId))(call:FuncId->List AV->ah->Option (AV×ah))(ops:Array Oper)(base:Nat)(τ0:List AV)(H0:ah)(L:Nat->Bool)(c:Nat):Option Blk:=
 match dy (λj=>L j&&dW (iB P F call ops base τ0 H0 j) c) ops.size with
 |some j=>(fY P F call ops base τ0 H0 (j+1)).2.get c
 |none=>H0.get c
def G3(P:Program)(F:TypeId->Option (List TypeId))(call:FuncId->List AV->ah->Option (AV×ah))(ops:Array Oper)(base:Nat)(τ0:List AV)(H0:ah)(L:Nat->Bool):Nat:=
 match dy (λj=>L j&&jq (iB P F call ops base τ0 H0 j)) ops.size with
 |some j=>(fY P F call ops base τ0 H0 (j+1)).2.next
 |none=>H0.next
theorem Tt{j:List AV}{d:Option Tmp}{v:AV}{t:Tmp}(h:(d==some t)=false):(iw j d v)[t]? =j[t]? :=by
 cases d with
 |none=>rfl
 |some d=>
  have:d≠t:=by simpa using h
  simp only[iw,abs];rw[if_neg this]
theorem LO(u:mP P F call ops base τ0 H0)(t:Tmp):∀k,k<=ops.size->(fY P F call ops base τ0 H0 k).1[t]? =match dy (wr ops t) k with|some j=>(fY P F call ops base τ0 H0 (j+1)).1[t]?|none=>τ0[t]?
 |0,_=>rfl
 | k+1,hk=>by
  unfold dy;cases B:wr ops t k with
  |true=>simp
  |false=>simp only[abj,if_false];rw[<-LO u t k acN];obtain⟨o,v,E,D⟩:=Jh (u.step k acN);rw[D];simp only[wr,E]at B;exact Tt B
theorem LP(u:mP P F call ops base τ0 H0)(B:eN P F call ops base τ0 H0)(c:Nat):∀k,k<=ops.size->(fY P F call ops base τ0 H0 k).2.get c=match dy (λj=>dW (iB P F call ops base τ0 H0 j) c) k with|some j=>(fY P F call ops base τ0 H0 (j+1)).2.get c|none=>H0.get c
 |0,_=>rfl
 | k+1,hk=>by
  unfold dy;cases D:dW (iB P F call ops base τ0 H0 k) c with
  |true=>simp
  |false=>simp only[abj,if_false];rw[<-LP u B c k acN];exact(B.chg k acN).keep (B.bd k acN) c (λht=>by rw[uo.2 ht]at D;cases D)
theorem El{i j:Nat}{D u:List AV}{H H':ah}{r:Option sZ}(h:bW P F call ops base i j D H=some (u,H',r))(E:jq r=false):H'.next=H.next:=by
 unfold bW at h;split at h
 .cases h
 .split at h
  .split at h
   .rename_i B;cases h;have:=Bo B;exact this
   .split at h
    .cases h;simp[jq]at E
    .cases h
   .cases h
  .cases h;rfl
  .cases h
theorem LQ(u:mP P F call ops base τ0 H0):∀k,k<=ops.size->(fY P F call ops base τ0 H0 k).2.next=match dy (λj=>jq (iB P F call ops base τ0 H0 j)) k with|some j=>(fY P F call ops base τ0 H0 (j+1)).2.next|none=>H0.next
 |0,_=>rfl
 | k+1,hk=>by
  unfold dy;cases B:jq (iB P F call ops base τ0 H0 k)with
  |true=>simp
  |false=>simp only[abj,if_false];rw[<-LQ u k acN];exact El (u.step k acN) B
structure Next(ops:Array Oper)(L:Nat->Bool)(i:Nat):Prop where
 lt:i<ops.size
 not:L i=false
 closed:G2 ops L
 edges:∀(o:Oper),ops[i]? =some o->∀e∈o.after.toList,Region.binds .any e=true->L e.on=true
theorem Next.before{L:Nat->Bool}{i:Nat}(h:Next ops L i){j:Nat}(u:((cI ops.toList []).getD i 0).testBit j=true):L j=true:=
 h.closed.ahead i _ (abu h.lt) (h.edges _ (abu h.lt)) j u
theorem Next.behind{L:Nat->Bool}{i:Nat}(h:Next ops L i){j:Nat}(u:j<ops.size)(B:((cI ops.toList []).getD j 0).testBit i=true):L j=false:=by
 cases D:L j with
 |false=>rfl
 |true=>have:=h.closed.ahead j _ (abu u) (h.closed j _ (abu u) D) i B;rw[h.not]at this;cases this
theorem Tu(N:mP P F call ops base τ0 H0)(G:ou ops){L:Nat->Bool}{i:Nat}(E:Next ops L i){o:Oper}(S:ops[i]? =some o){t:Tmp}(ht:t∈jB ops o):
  qa P F call ops base τ0 H0 L t=(fY P F call ops base τ0 H0 i).1[t]? :=by
 have M:∀j,j<ops.size->j≠i->wr ops t j=true->(j<i->L j=true)/\(i<j->L j=false):=λj Y hne O=>by
  have u:ops[j]? =some ops[j]:=abu Y;simp only[wr,u]at O;have Z:(ops[j]).dst=some t:=by simpa using O
  refine⟨λB=>?_,λB=>?_⟩
  .rcases G i j o _ B S u with D|⟨D,_⟩
   .exact E.before D
   .exact absurd ht (D t Z)
  .rcases G j i _ o B u S with D|⟨_,D⟩
   .exact E.behind Y D
   .exact absurd ht (D t Z)
 rw[LO N t i (by have:=E.lt;omega),qa,p9 E.lt E.not M]
end
end
section
theorem mQ{l m:List Nat}(h:apart l m=true){x:Nat}(j:x∈l):x∉m:=by unfold apart at h;rw[abh]at h;have:=h x j;simpa using this
structure Yx(x y:sZ):Prop where
 wr:∀c∈x.writes,c∉y.reads
 ww:∀c∈x.writes,c∉y.writes
 rw:∀c∈x.reads,c∉y.writes
 mr:∀c∈x.made,c∉y.reads
 mw:∀c∈x.made,c∉y.writes
 cc:x.isCall=true->y.isCall=false
 cw:x.isCall=true->∀c,c∉y.writes
 cr:x.isCall=true->∀c∈y.reads,¬(x.lo<=c/\c<x.hi)
 wc:y.isCall=true->∀c,c∉x.writes
theorem ge{x y:sZ}(h:mH x y=false):Yx x y:=by
 unfold mH at h;simp only[Bool.or_eq_false_iff,Bool.not_eq_false',aas,Bool.and_eq_false_iff]at h;obtain⟨⟨⟨⟨⟨⟨N,M⟩,h3⟩,h4⟩,h5⟩,j⟩,B⟩:=h;refine⟨λc u=>mQ N u,λc u=>mQ M u,λc u=>mQ h3 u,λc u=>mQ h4 u,λc u=>mQ h5 u,λD=>?_,λD c u=>?_,λD c u G=>?_,λE c u=>?_⟩
 .rcases j with j|⟨⟨j,_⟩,_⟩
  .rw[D]at j;cases j
  .exact j
 .rcases j with j|⟨⟨_,j⟩,_⟩
  .rw[D]at j;cases j
  .simp at j;rw[j]at u;simp at u
 .rcases j with j|⟨_,j⟩
  .rw[D]at j;cases j
  .rw[List.any_eq_false]at j;exact j c u (by simpa using G)
 .rcases B with B|B
  .rw[E]at B;cases B
  .simp at B;rw[B]at u;simp at u
section
variable {P:Program} {F:TypeId->Option (List TypeId)} {call:FuncId->List AV->ah->Option (AV×ah)} {ops:Array Oper} {base:Nat} {τ0:List AV} {H0:ah}
theorem F0(u:eN P F call ops base τ0 H0){i:Nat}:∀{j:Nat},i<=j->j<=ops.size->(fY P F call ops base τ0 H0 i).2.next<=(fY P F call ops base τ0 H0 j).2.next
 |0,h1,_=>by rw[show i=0 by omega];exact Fd _
 | j+1,h1,h2=>by
  rcases acs h1 with rfl|B
  .exact Fd _
  .exact abe (F0 u (show i<=j by omega) acN) (u.chg j acN).next
theorem later(G:mP P F call ops base τ0 H0)(u:eN P F call ops base τ0 H0){i j c:Nat}{r y:sZ}{b:Blk}(M:i<j)(E:j<ops.size)(Y:iB P F call ops base τ0 H0 i=some r)(B:iB P F call ops base τ0 H0 j=some y)(ht:touched (iB P F call ops base τ0 H0 j) c)
  (D:(fY P F call ops base τ0 H0 i).2.get c=some b):((cI ops.toList []).getD j 0).testBit i=true\/(Yx r y/\(c∈y.writes\/(y.isCall=true/\False))):=by
 rcases G.free j i r y M E Y B with N|N
 .exact .inl N
 .right;refine⟨ge N,?_⟩;obtain⟨x,O,ht⟩:=ht;rw[B]at O;cases O;rcases ht with ht|ht|⟨S,Z,_⟩
  .exact .inl ht
  .have:=((u.chg j E).made y B).1 c ht;subst this;rw[u.fresh i j acN E]at D;cases D
  .have h2:=((u.chg j E).made y B).2 S;have h3:=F0 u (show i<=j by omega) acN;rw[u.bd i acN c acN]at D;cases D
theorem Nr(E:mP P F call ops base τ0 H0)(N:eN P F call ops base τ0 H0){L:Nat->Bool}{i:Nat}(B:Next ops L i){c:Nat}
  (D:∀j,j<ops.size->j≠i->touched (iB P F call ops base τ0 H0 j) c->(j<i->((cI ops.toList []).getD i 0).testBit j=true)/\(i<j->((cI ops.toList []).getD j 0).testBit i=true)) :
  hget P F call ops base τ0 H0 L c=(fY P F call ops base τ0 H0 i).2.get c:=by
 rw[LP E N c i (by have:=B.lt;omega),hget,p9 (p:=λj=>dW (iB P F call ops base τ0 H0 j) c) B.lt B.not];intro j M G O;obtain⟨Y,S⟩:=D j M G (uo.1 O);exact⟨λu=>B.before (Y u),λu=>B.behind M (S u)⟩
theorem Qq(D:mP P F call ops base τ0 H0)(rf:eN P F call ops base τ0 H0){i c:Nat}{r:sZ}{b:Blk}(hi:i<ops.size)(S:iB P F call ops base τ0 H0 i=some r)(G:c∈r.reads)(hl:(fY P F call ops base τ0 H0 i).2.get c=some b):
  ∀j,j<ops.size->j≠i->touched (iB P F call ops base τ0 H0 j) c->(j<i->((cI ops.toList []).getD i 0).testBit j=true)/\(i<j->((cI ops.toList []).getD j 0).testBit i=true):=by
 intro j hj hne ht;obtain⟨x,M,E⟩:=ht;refine⟨λu=>?_,λu=>?_⟩
 .rcases D.free i j x r u hi M S with B|B
  .exact B
  .exfalso;have O:=ge B;rcases E with t|t|⟨t1,Z,Y⟩
   .exact O.wr c t G
   .exact O.mr c t G
   .exact O.cr t1 c G ⟨Z,Y⟩
 .rcases later D rf u hj S M ⟨x,M,E⟩ hl with B|⟨B,N|⟨_,N⟩⟩
  .exact B
  .exact absurd N (B.rw c G)
  .exact N.elim
theorem Ji{o:Op}{ρ:Operand->AV}{b c:Nat}{v:AV}{H H':ah}(h:bu P F o ρ b H=some (.val v H'))(u:c∈aV o ρ):∃x,H.get c=some x:=by
 cases o with
 |load t a=>
  simp only[bu]at h;obtain⟨B,_⟩:=gR h;simp only[aV]at u;generalize ρ a=y at B u;cases y<;>simp[ai]at u<;>simp[ph]at B;subst u;cases Y:H.get _ with
  |none=>rw[Y]at B;simp at B
  |some x=>exact⟨x,rfl⟩
 |store t a x=>
  simp only[bu]at h;cases G:iy P H t (ρ a) (ρ x)with
  |none=>rw[G]at h;cases h
  |some K=>
   simp only[aV]at u;unfold iy at G;split at G
   .rename_i d i off cs n ha hcs hn;rw[ha]at u;simp[ai]at u;subst u;split at G
    .rename_i y M;exact⟨y,M⟩
    .cases G
   .cases G
 |indexAddr t x ix=>
  simp only[bu]at h;obtain⟨B,_⟩:=gR h;simp only[aV]at u;generalize ρ x=y at B u;cases y<;>simp[dV]at u;subst u;cases Y:H.get c with
  |some x=>exact⟨x,rfl⟩
  |none=>
   exfalso;simp only[fF,n0,Y,Option.map_none,Option.isSome_none,abj,false_and,and_false,if_false]at B;split at B
   .split at B
    .cases B
    .split at B<;>simp_all
   .cases B
 |slice t x lo hi mx=>
  simp only[bu]at h;split at h
  .cases h
  .obtain⟨B,_⟩:=gR h;simp only[aV]at u;generalize ρ x=y at B u;cases y<;>simp[dV]at u;subst u;cases Y:H.get c with
   |some x=>exact⟨x,rfl⟩
   |none=>
    exfalso;simp only[md,n0,Y,Option.map_none,Option.isSome_none,abj,false_and,if_false]at B;split at B
    .split at B
     .split at B<;>cases B
     .cases B
    .cases B
    .cases B
 |call k=>
  simp only[aV]at u;split at u
  .rename_i hk;simp only[bu,hk]at h;cases j:bE P H b .append k.argTypes (k.args.toList.map ρ)with
   |none=>rw[j]at h;cases h
   |some q=>
    unfold bE at j;split at j
    .rename_i e _;cases e
    .rename_i _ e _;cases e
    .rename_i s x e O;obtain⟨a0,a1,E,h0,B⟩:=rO O;rw[E]at u;simp only[List.flatMap_cons,List.flatMap_nil,aby,h0,B,aak]at u;split at j
     .split at j
      .unfold eh at j;split at j
       .split at j
        .split at j
         .rename_i l m hl N;have aux:∀{y:AV} {q n},hY H n y=some q->c∈ai y->∃x,H.get c=some x:=λ{y} {q} {n} M Z=>by
           cases y<;>simp[ai]at Z<;>simp[hY]at M;subst Z;split at M
           .rename_i x hx;exact⟨x,hx⟩
           .cases M
          rcases u with u|u
          .exact aux hl u
          .exact aux N u
         .cases j
        .cases j
       .cases j
      .cases j
     .cases j
    .rename_i e _;cases e
    .rename_i e _;cases e
    .rename_i e _;cases e
    .cases j
  .rename_i hk;simp only[bu,hk]at h;cases j:bE P H b .clear k.argTypes (k.args.toList.map ρ)with
   |none=>rw[j]at h;cases h
   |some q=>
    unfold bE at j;split at j
    .rename_i e _;cases e
    .rename_i _ e _;cases e
    .rename_i e _;cases e
    .rename_i e _;cases e
    .rename_i e _;cases e
    .rename_i x e O;obtain⟨a0,E,h0⟩:=rN O;rw[E]at u;simp only[List.flatMap_cons,List.flatMap_nil,aby,h0]at u;split at j
     .rw[acF]at j;obtain⟨K1,D,_⟩:=j;unfold gM at D;split at D
      .split at D
       .split at D
        .simp[ai]at u
        .simp[ai]at u;subst u;split at D
         .rename_i y M;exact⟨y,M⟩
         .cases D
        .cases D
       .cases D
      .cases D
     .cases j
    .cases j
  .simp at u
 |lookup t m k ok=>simp only[bu]at h;obtain⟨B,rfl⟩:=gR h;obtain⟨q,x,N,hx,_⟩:=Bn B;simp only[aV,N,ai,aag]at u;exact⟨x,by rw[u];exact hx⟩
 |mapUpdate t m k x=>
  simp only[bu]at h;cases S:gy P H t (ρ m) (ρ k) (ρ x)with
  |none=>rw[S]at h;cases h
  |some H2=>obtain⟨q,y,y',N,M,_⟩:=oh S;simp only[aV,N,ai,aag]at u;exact⟨y,by rw[u];exact M⟩
 |next it s=>
  cases s with
  |false=>simp[bu]at h
  |true=>
   simp only[bu]at h;cases S:jN H (ρ it)with
   |none=>rw[S]at h;cases h
   |some r=>obtain⟨q,y,N,M,_⟩:=vl S;simp only[aV,N,ai,aag]at u;exact⟨y,by rw[u];exact M⟩
 |_=>simp[aV]at u
theorem vt{o:Op}{ρ:Operand->AV}{c:Nat}(j:c∈aK o ρ):c∈aV o ρ:=by
 cases o with
 |store t a x=>exact j
 |call k=>
  simp only[aK]at j;simp only[aV];split at j
  .rename_i E;rw[List.mem_flatMap]at j ⊢;obtain⟨x,B,u⟩:=j;exact⟨x,acv B,u⟩
  .exact j
  .simp at j
 |mapUpdate t m k x=>exact j
 |next D s=>exact j
 |_=>simp[aK]at j
end
end
section
def j5(L:Nat->Bool)(i:Nat):Nat->Bool:=λj=>if j=i then true else L j
theorem Bu{p:Nat->Bool}:∀{k j:Nat},dy p k=some j->j<k
 |0,j,h=>by cases h
 | k+1,j,h=>by
  unfold dy at h;split at h
  .cases h;omega
  .have:=Bu h;omega
def F1(H:ah):List Nat->ah->ah
 |[],K=>K
 |c::l,K=>F1 H l {K with tr:=K.tr.set c (H.get c)}
theorem Jj(H:ah):∀(l:List Nat) (K:ah) (c:Nat),(F1 H l K).get c=if c∈l then H.get c else K.get c
 |[],K,c=>by simp[F1]
 | d::l,K,c=>by
  rw[F1,Jj H l];by_cases j:c∈l
  .rw[if_pos j,if_pos (by simp[j])]
  .rw[if_neg j];show(K.tr.set d (H.get d)).get c=_;rw[Tr.get_set];by_cases h2:d=c
   .subst h2;rw[if_pos rfl,if_pos acQ]
   .rw[if_neg h2,if_neg (by simp[j];exact λe=>h2 e.symm)];rfl
section
variable {P:Program} {F:TypeId->Option (List TypeId)} {call:FuncId->List AV->ah->Option (AV×ah)} {ops:Array Oper} {base:Nat} {τ0:List AV} {H0:ah}
def Yn(P:Program)(F:TypeId->Option (List TypeId))(call:FuncId->List AV->ah->Option (AV×ah))(ops:Array Oper)(base:Nat)(τ0:List AV)(H0:ah)(w0:World)(σ0:bO)(L:Nat->Bool)(a:Act)(w:World):Prop:=
 ∃σ K,bJ w σ K/\(∀c,K.get c=hget P F call ops base τ0 H0 L c)/\K.next=G3 P F call ops base τ0 H0 L/\a.tmps.size=τ0.length/\a.defers=[]/\(∀t x u,qa P F call ops base τ0 H0 L t=some x->a.tmps[t]? =some u->bC w σ (aX σ K) x u)/\
  fT w0 σ0 (aX σ0 H0) w σ (aX σ K)/\(∀c pl,σ c=some pl->σ0 c=some pl\/base<=c)/\(∀i,i<ops.size->L i=false->σ (base+i)=none)
def tl(P:Program)(F:TypeId->Option (List TypeId))(call:FuncId->List AV->ah->Option (AV×ah))(ops:Array Oper)(base:Nat)(τ0:List AV)(H0:ah)(L:Nat->Bool):List AV:=
 (List.range τ0.length).map λt=>(qa P F call ops base τ0 H0 L t).getD bY
theorem Jk(D:eN P F call ops base τ0 H0)(L:Nat->Bool)(t:Tmp):(t<τ0.length->∃x,qa P F call ops base τ0 H0 L t=some x)/\(τ0.length<=t->qa P F call ops base τ0 H0 L t=none):=by
 unfold qa;split
 .rename_i j E;have B:=D.len (j+1) (Bu E);exact⟨λu=>⟨_,mt (by rw[B];exact u)⟩,λu=>aah (by rw[B];exact u)⟩
 .exact⟨λu=>⟨_,mt u⟩,λu=>aah u⟩
theorem Qr(j:eN P F call ops base τ0 H0)(L:Nat->Bool)(t:Tmp):(tl P F call ops base τ0 H0 L)[t]? =qa P F call ops base τ0 H0 L t:=by
 unfold tl;rw[abn];rcases LE t τ0.length with h|h
 .rw[acM h];obtain⟨x,u⟩:=(Jk j L t).1 h;simp[u]
 .rw[aah (by simpa using h),(Jk j L t).2 h];rfl
theorem Yy(j:eN P F call ops base τ0 H0){L:Nat->Bool}{a:Act}{w:World}{σ:bO}{T:Nat->Prop}(G:a.tmps.size=τ0.length)(h2:a.defers=[])(E:∀t x u,qa P F call ops base τ0 H0 L t=some x->a.tmps[t]? =some u->bC w σ T x u):
  dC w σ T (tl P F call ops base τ0 H0 L) a:=
 ⟨⟨by simp[tl,G],λt x u B D=>E t x u (by rw[<-Qr j];exact B) (by rw[<-Array.getElem?_toList];exact D)⟩,h2⟩
theorem Tv{l m:List AV}{t:Nat}(h:l[t]? =m[t]?):l.getD t bY=m.getD t bY:=by simp[List.getD,h]
theorem Qs(u:mP P F call ops base τ0 H0)(G:eN P F call ops base τ0 H0)(B:ou ops){L:Nat->Bool}{i:Nat}(M:Next ops L i){o:Oper}(O:ops[i]? =some o):
  (∀x∈cC o.op,lj (fY P F call ops base τ0 H0 i).1 x=lj (tl P F call ops base τ0 H0 L) x)/\ff ops o (tl P F call ops base τ0 H0 L)=ff ops o (fY P F call ops base τ0 H0 i).1:=by
 have E:∀t∈jB ops o,(tl P F call ops base τ0 H0 L)[t]? =(fY P F call ops base τ0 H0 i).1[t]? :=λt h=>by rw[Qr G,Tu u B M O h]
 refine⟨λx N=>?_,?_⟩
 .cases x with
  | tmp t=>exact(Tv (E t (by
    simp only[jB,aak];exact .inl (.inr (List.mem_filterMap.2 ⟨.tmp t,N,rfl⟩))))).symm
  |const v=>rfl
  |global g=>rfl
  |func f=>rfl
 .unfold ff;cases S:o.guard with
  |none=>rfl
  |some q=>
   obtain⟨j,D⟩:=q;simp only[];cases Y:(ops[j]?).bind (·.dst)with
   |none=>rfl
   |some d=>simp only[];rw[E d (by simp only[jB,aak,S,Y];right;simp)]
theorem Bv(run:mP P F call ops base τ0 H0)(rf:eN P F call ops base τ0 H0)(Z:ou ops){L:Nat->Bool}{i:Nat}(N:Next ops L i){o:Oper}(ho:ops[i]? =some o){v:AV}{v':Value}{a:Act}{w w':World}{σ σ':bO}{T T':Nat->Prop}
  (hv:(fY P F call ops base τ0 H0 (i+1)).1=iw (fY P F call ops base τ0 H0 i).1 o.dst v) (hr:bC w' σ' T' v v') (h1:a.tmps.size=τ0.length) (h3:∀t x u,qa P F call ops base τ0 H0 L t=some x->a.tmps[t]? =some u->bC w σ T x u) (hE:∀x u,bC w σ T x u->bC w' σ' T' x u) :
  (a.put o.dst v').tmps.size=τ0.length/\∀t x u,qa P F call ops base τ0 H0 (j5 L i) t=some x->(a.put o.dst v').tmps[t]? =some u->bC w' σ' T' x u:=by
 refine⟨by cases o.dst<;>simp[Act.put,h1],λt x u B D=>?_⟩;by_cases Y:wr ops t i=true
 .have E:o.dst=some t:=by simpa[wr,ho]using Y
  have hl:dy (λj=>j5 L i j&&wr ops t j) ops.size=some i:=by
   refine xH N.lt N.not Y λj hj hne S hlt=>?_
   have M:ops[j]? =some ops[j]:=abu hj;have hdj:(ops[j]).dst=some t:=by simpa[wr,M]using S
   rcases Z j i _ o hlt M ho with h4|⟨h4,_⟩
   .exact N.behind hj h4
   .exact absurd (by simp[jB,hdj]) (h4 t E)
  unfold qa at B;rw[hl]at B;simp only[hv,E,iw,abs]at B;simp only[E,Act.put,Array.getElem?_setIfInBounds]at D;simp only[if_true]at B D;split at B
  .split at D
   .cases B;cases D;exact hr
   .cases D
  .cases B
 .have G:wr ops t i=false:=by simpa using Y
  have E:(o.dst==some t)=false:=by simpa[wr,ho]using G
  have hl:dy (λj=>j5 L i j&&wr ops t j) ops.size=dy (λj=>L j&&wr ops t j) ops.size:=oq G;have O:qa P F call ops base τ0 H0 L t=some x:=by unfold qa at B ⊢;rw[hl]at B;exact B
  refine hE x u (h3 t x u O ?_);rw[<-D];cases hdd:o.dst with
  |none=>rfl
  |some d=>
   have:d≠t:=by rw[hdd]at E;simpa using E
   simp[Act.put,this]
end
end
section
section
variable {P:Program} {F:TypeId->Option (List TypeId)} {call:FuncId->List AV->ah->Option (AV×ah)} {ops:Array Oper} {base:Nat} {τ0:List AV} {H0:ah}
theorem Nt(u:eN P F call ops base τ0 H0)(L:Nat->Bool):H0.next<=G3 P F call ops base τ0 H0 L:=by
 unfold G3;split
 .rename_i j B;exact u.le (j+1) (Bu B)
 .exact Fd _
theorem xI{L:Nat->Bool}{i c:Nat}(h:dW (iB P F call ops base τ0 H0 i) c=false):hget P F call ops base τ0 H0 (j5 L i) c=hget P F call ops base τ0 H0 L c:=by have u:dy (λj=>j5 L i j&&dW (iB P F call ops base τ0 H0 j) c) ops.size=dy (λj=>L j&&dW (iB P F call ops base τ0 H0 j) c) ops.size:=oq (p:=λj=>dW (iB P F call ops base τ0 H0 j) c) h;unfold hget;rw[u]
theorem Jl{L:Nat->Bool}{i c:Nat}(u:Next ops L i)(h:dW (iB P F call ops base τ0 H0 i) c=true)(N:∀j,j<ops.size->j≠i->touched (iB P F call ops base τ0 H0 j) c->i<j->((cI ops.toList []).getD j 0).testBit i=true):hget P F call ops base τ0 H0 (j5 L i) c=(fY P F call ops base τ0 H0 (i+1)).2.get c:=by
 have G:dy (λj=>j5 L i j&&dW (iB P F call ops base τ0 H0 j) c) ops.size=some i:=xH (p:=λj=>dW (iB P F call ops base τ0 H0 j) c) u.lt u.not h λj E B M D=>u.behind E (N j E B (uo.1 M) D)
 unfold hget;rw[G]
theorem Qt(fit:Fit P F)(hs:fU P call)(hch:∀f args H v H',Bd H->call f args H=some (v,H')->zn H H')(G:mP P F call ops base τ0 H0)(Z:eN P F call ops base τ0 H0)(hst:ou ops)(hb:base+ops.size=H0.next)
  {w0:World} {σ0:bO} {L:Nat->Bool} {i:Nat} {a:Act} {w:World} (nx:Next ops L i) (h:Yn P F call ops base τ0 H0 w0 σ0 L a w) {Q:Exit->Act->World->Prop}:wpOp P ops Q i (Yn P F call ops base τ0 H0 w0 σ0 (j5 L i)) a w:=by
 obtain⟨σ,K,hW,hK,hn,hsz,hdf,hrep,hE0,hnm,hfr⟩:=h;have hi:=nx.lt;obtain⟨o,ho⟩:∃o,ops[i]? =some o:=⟨_,abu hi⟩;obtain⟨hu,hwt⟩:=Qs G Z hst nx ho;have htm:=Yy Z hsz hdf hrep;have hbi:σ (base+i)=none:=hfr i hi nx.not;have hKb:K.get (base+i)=none:=by
  cases hg:K.get (base+i)with
  |none=>rfl
  |some x=>obtain⟨pl,_,_,h1,_⟩:=hW.live _ x hg;rw[hbi]at h1;cases h1
 have hSb:(fY P F call ops base τ0 H0 i).2.get (base+i)=none:=Z.fresh i i (Fd _) hi;have hlt:base+i<K.next:=by have:=Nt Z L;rw[hn];omega
 have hfresh:∀{σ':bO},(∀c pl,σ' c=some pl->σ c=some pl\/c=base+i\/K.next<=c)->∀j,j<ops.size->j5 L i j=false->σ' (base+j)=none:=λ{σ'} hσ j hj hLj=>by
  have hji:j≠i:=by rintro rfl;simp[j5]at hLj
  have hL:L j=false:=by simpa[j5,hji]using hLj
  cases hg:σ' (base+j)with
  |none=>rfl
  |some pl=>
   have hge:=Nt Z L;rcases hσ _ pl hg with h1|h1|h1
   .rw[hfr j hj hL]at h1;cases h1
   .omega
   .omega
 have D:=G.step i hi;unfold bW at D;rw[ho]at D;simp only[]at D;unfold wpOp;rw[ho];simp only[];split at D
 .rename_i O;rw[<-hwt]at O;rw[if_pos (j1 htm O)];left;unfold Oper.wp;split at D
  .rename_i v H' hop;simp only[aaS,Prod.mk.injEq]at D;obtain⟨e1,e2,e3⟩:=D;obtain⟨q1,q2,q3⟩:=Nq (P:=P) (F:=F) hu (base+i) (fY P F call ops base τ0 H0 i).2;have hop2:bu P F o.op (lj (tl P F call ops base τ0 H0 L)) (base+i) (fY P F call ops base τ0 H0 i).2=some (.val v H'):=by rw[<-q1];exact hop
   have hreads:∀c,c∈aV o.op (lj (tl P F call ops base τ0 H0 L))->∃x,(fY P F call ops base τ0 H0 i).2.get c=some x/\∀j,j<ops.size->j≠i->touched (iB P F call ops base τ0 H0 j) c->(j<i->((cI ops.toList []).getD i 0).testBit j=true)/\(i<j->((cI ops.toList []).getD j 0).testBit i=true):=λc Y=>by obtain⟨x,hx⟩:=Ji hop2 Y;exact⟨x,hx,Qq G Z hi e3.symm (by show c∈aV o.op (lj (fY P F call ops base τ0 H0 i).1);rw[q2];exact Y) hx⟩
   have hr:∀c∈aV o.op (lj (tl P F call ops base τ0 H0 L)),K.get c=(fY P F call ops base τ0 H0 i).2.get c:=λc Y=>by obtain⟨x,_,h1⟩:=hreads c Y;rw[hK];exact Nr G Z nx h1
   obtain⟨K',l1,l2,l3⟩:=OK hop2 K hr (by rw[hKb,hSb]);obtain⟨v',w',σ',h1,h2,h3,h4,h5⟩:=FX fit hW hbi hlt (o:=o) (htm.eval hW.glob) l1;have E:∀c,dW (iB P F call ops base τ0 H0 i) c=true↔(c∈aK o.op (lj (tl P F call ops base τ0 H0 L))\/c=base+i):=λc=>by rw[<-e3,<-q3];simp[dW]
   have hinv:Yn P F call ops base τ0 H0 w0 σ0 (j5 L i) (a.put o.dst v') w':=by
    obtain⟨t1,t2⟩:=Bv G Z hst nx ho e1.symm h2 hsz hrep (λx u hxu=>hxu.mono h4);refine⟨σ',K',h3,λc=>?_,?_,t1,by cases o.dst<;>exact hdf,t2,hE0.trans h4,λc pl Y=>?_,hfresh (λc pl Y=>?_)⟩
    .rw[l3];cases M:dW (iB P F call ops base τ0 H0 i) c with
     |true=>
      have Y:=(E c).1 M;rw[if_pos Y,Jl nx M,<-e2]
      .rfl
      .intro j hj hne hjt hlt';rcases Y with Y|Y
       .obtain⟨x,_,B⟩:=hreads c (vt Y);exact(B j hj hne hjt).2 hlt'
       .obtain⟨y,hy,hyt⟩:=hjt;rcases G.free j i _ y hlt' hj e3.symm hy with B|B
        .exact B
        .exfalso;have fr:=ge B;rcases hyt with t|t|⟨t3,t4,_⟩
         .exact fr.mw c (by simp[Y]) t
         .have:=((Z.chg j hj).made y hy).1 c t;omega
         .have:=((Z.chg j hj).made y hy).2 t3;have:=Z.le j acN;omega
     |false=>rw[if_neg (λY=>by rw[(E c).2 Y]at M;cases M),xI M,hK]
    .rw[l2,hn];have:jq (iB P F call ops base τ0 H0 i)=false:=by rw[<-e3];rfl
     have hl:dy (λj=>j5 L i j&&jq (iB P F call ops base τ0 H0 j)) ops.size=dy (λj=>L j&&jq (iB P F call ops base τ0 H0 j)) ops.size:=oq (p:=λj=>jq (iB P F call ops base τ0 H0 j)) this;unfold G3;rw[hl]
    .rcases h5 c pl Y with B|B
     .exact hnm c pl B
     .exact .inr acN
    .rcases h5 c pl Y with B|B
     .exact .inl B
     .exact .inr (.inl B)
   rcases h1 with h1|⟨h1,rfl⟩
   .rw[h1];exact hinv
   .rw[h1];exact hinv
  .rename_i f args hop;split at D
   .rename_i v H1 S;simp only[aaS,Prod.mk.injEq]at D;obtain⟨e1,e2,e3⟩:=D;obtain⟨q1,q2,q3⟩:=Nq (P:=P) (F:=F) hu (base+i) (fY P F call ops base τ0 H0 i).2;have hop2:bu P F o.op (lj (tl P F call ops base τ0 H0 L)) (base+i) (fY P F call ops base τ0 H0 i).2=some (.call f args):=by rw[<-q1];exact hop
    have hopK:=Bs hop2 K;obtain⟨fn,cd,hf,hbd⟩:=hs.body _ _ _ _ _ S;obtain⟨vs,g1,g2⟩:=Ja fit (o:=o) (b:=base+i) (htm.eval hW.glob) hopK hf hbd;have hHg:=jp base ((cI ops.toList []).getD i 0) i (fY P F call ops base τ0 H0 i).2;have hHn:=(io base ((cI ops.toList []).getD i 0) i (fY P F call ops base τ0 H0 i).2).1;generalize hHc:eZ base ((cI ops.toList []).getD i 0) i (fY P F call ops base τ0 H0 i).2=Hh at S e3 hHg hHn;have hbdc:Bd ({Hh with log:=[]}:ah):=λd hd=>by
     show Hh.get d=none;rw[hHg];split
     .rfl
     .exact Z.bd i acN d (by rw[<-hHn];exact hd)
    have hcg:zn ({Hh with log:=[]}:ah) H1:=hch _ _ _ _ _ hbdc S;generalize hHc2:({Hh with log:=[]}:ah)=Hc at S hcg hbdc;have hHg:∀c,Hc.get c=if(∃j,j<i/\((cI ops.toList []).getD i 0).testBit j=false/\c=base+j)then none else(fY P F call ops base τ0 H0 i).2.get c:=λc=>by rw[<-hHc2];exact hHg c
    have hHn:Hc.next=(fY P F call ops base τ0 H0 i).2.next:=by rw[<-hHc2];exact hHn
    have hHh:∀c,Hh.get c=Hc.get c:=λc=>by rw[<-hHc2];rfl
    have E:∀c,dW (iB P F call ops base τ0 H0 i) c=true↔((c∈H1.log/\(Hc.get c).isSome=true)\/((fY P F call ops base τ0 H0 i).2.next<=c/\c<H1.next)):=λc=>by rw[<-e3];simp[dW,hHh]
    have hKn:K.next=(fY P F call ops base τ0 H0 i).2.next:=by
     rw[hn,LQ G i acN,G3,p9 (p:=λj=>jq (iB P F call ops base τ0 H0 j)) hi nx.not];intro j hj hne N;cases hx:iB P F call ops base τ0 H0 j with
     |none=>rw[hx]at N;cases N
     |some x=>
      rw[hx]at N;refine⟨λhl=>?_,λhl=>?_⟩
      .rcases G.free i j x _ hl hi hx e3.symm with B|B
       .exact nx.before B
       .have:=(ge B).cc N;cases this
      .rcases G.free j i _ x hl hj e3.symm hx with B|B
       .exact nx.behind hj B
       .have:=(ge B).cc rfl;have h7:x.isCall=true:=N;rw[h7]at this;cases this
    have hsub:∀c x,Hc.get c=some x->K.get c=some x:=λc x hx=>by
     rw[hHg]at hx;split at hx
     .cases hx
     .rename_i hnh;rw[hK,Nr G Z nx ?_]
      .exact hx
      .intro j hj hne M;obtain⟨y,hy,hyt⟩:=M;refine⟨λhl=>?_,λhl=>?_⟩
       .cases hbit:((cI ops.toList []).getD i 0).testBit j with
        |true=>rfl
        |false=>
         exfalso;rcases G.free i j y _ hl hi hy e3.symm with B|B
         .rw[hbit]at B;cases B
         .have fr:=ge B;rcases hyt with t|t|⟨t3,_,_⟩
          .exact fr.wc rfl c t
          .exact hnh ⟨j,hl,hbit,((Z.chg j hj).made y hy).1 c t⟩
          .have:=fr.cc t3;cases this
       .rcases later G Z hl hj e3.symm hy ⟨y,hy,hyt⟩ hx with B|⟨fr,B|⟨_,B⟩⟩
        .exact B
        .exact absurd B (fr.cw rfl c)
        .exact B.elim
    have hnK:Hc.next=K.next:=by rw[hHn,hKn]
    have hWc:=hW.part hsub (by rw[hnK];exact Fd _);rw[g1];refine(hs.ok _ _ _ _ _ S w (σ.part K Hc) vs hWc ⟨g2.1,λq x u hx hu=>by rw[vq hsub];exact bC.sig (σ:=σ) (σ':=σ.part K Hc) rfl (g2.2 q x u hx hu)⟩).mono ?_;rintro e w' ⟨v',σ',rfl,k1,k2,k3,k4⟩;have hK1:=hcg.next;obtain⟨K',hK'n,hK'g⟩:∃K':ah,K'.next=H1.next/\∀c,K'.get c=if dW (iB P F call ops base τ0 H0 i) c=true then H1.get c else K.get c:=by
     refine⟨{F1 H1 (H1.log.filter (λc=>(Hc.get c).isSome)++List.range' K.next (H1.next-K.next)) K with next:=H1.next},rfl,λc=>?_⟩;show(F1 H1 _ K).get c=_;rw[Jj];have:c∈(H1.log.filter (λc=>(Hc.get c).isSome)++List.range' K.next (H1.next-K.next))↔dW (iB P F call ops base τ0 H0 i) c=true:=by
      rw[E,aak,acn,List.mem_range'_1,hKn];constructor
      .rintro(B|B)
       .exact .inl B
       .exact .inr acN
      .rintro(B|B)
       .exact .inl B
       .exact .inr acN
     by_cases M:dW (iB P F call ops base τ0 H0 i) c=true
     .rw[if_pos (this.2 M),if_pos M]
     .rw[if_neg (λB=>M (this.1 B)),if_neg M]
    have hbd1:Bd H1:=hcg.bd hbdc;have hform:∀c,K'.get c=if Hc.get c=none/\c<K.next then K.get c else H1.get c:=λc=>by
     rw[hK'g];by_cases M:dW (iB P F call ops base τ0 H0 i) c=true
     .rw[if_pos M,if_neg];rintro⟨B,h7⟩;rcases(E c).1 M with⟨_,h8⟩|⟨h8,_⟩
      .rw[B]at h8;cases h8
      .omega
     .rw[if_neg M];split
      .rfl
      .rename_i hnn;cases hg:Hc.get c with
       |some x=>
        have hcl:c∉H1.log:=λB=>M ((E c).2 (.inl ⟨B,by rw[hg];rfl⟩))
        have hcn:c<Hc.next:=by
         rcases LE c Hc.next with B|B
         .exact B
         .rw[hbdc c B]at hg;cases hg
        rw[hcg.keep c hcn hcl,hg];exact hsub c x hg
       |none=>
        have hcn:K.next<=c:=by
         rcases LE c K.next with B|B
         .exact absurd ⟨hg,B⟩ hnn
         .exact B
        have hc1:H1.next<=c:=by
         rcases LE c H1.next with B|B
         .exact absurd ((E c).2 (.inr ⟨by rw[<-hKn];exact hcn,B⟩)) M
         .exact B
        rw[hbd1 c hc1];cases hg2:K.get c with
        |none=>rfl
        |some x=>obtain⟨pl,_,_,B,_⟩:=hW.live c x hg2;have:=hW.named c pl B;omega
    obtain⟨z1,z2,z3⟩:=hW.whole hsub hnK k2 k3 hcg.dom hform (by rw[hK'n];exact Fd _);obtain⟨t1,t2⟩:=Bv G Z hst nx ho (v:=v) (v':=v') (w':=w') (σ':=⟨σ'.map,σ.fr⟩) (T':=aX ⟨σ'.map,σ.fr⟩ K') e1.symm (by rw[z3];exact bC.sig (σ:=σ') (σ':=⟨σ'.map,σ.fr⟩) rfl k1) hsz hrep (λx u hxu=>hxu.mono z2);refine(⟨⟨σ'.map,σ.fr⟩,K',z1,λc=>?_,?_,t1,by cases o.dst<;>exact hdf,t2,hE0.trans z2,λc pl Y=>?_,hfresh (λc pl Y=>?_)⟩:Yn P F call ops base τ0 H0 w0 σ0 (j5 L i) (a.put o.dst v') w')
    .rw[hK'g];cases M:dW (iB P F call ops base τ0 H0 i) c with
     |true=>
      have hnhid:¬ ∃j,j<i/\((cI ops.toList []).getD i 0).testBit j=false/\c=base+j:=by
       intro hh;rcases(E c).1 M with⟨_,h8⟩|⟨h8,_⟩
       .rw[hHg,if_pos hh]at h8;cases h8
       .obtain⟨j,hj,_,rfl⟩:=hh;have:=Z.le i acN;omega
      rw[if_pos rfl,Jl nx M,<-e2]
      .show H1.get c=(jO _ _ _ _ _).get c;rw[mO,if_neg hnhid]
      .intro j hj hne hjt hl;obtain⟨y,hy,hyt⟩:=hjt;rcases G.free j i _ y hl hj e3.symm hy with B|B
       .exact B
       .exfalso;have fr:=ge B;rcases hyt with t|t|⟨t3,_,_⟩
        .exact fr.cw rfl c t
        .have N:=((Z.chg j hj).made y hy).1 c t;rcases(E c).1 M with⟨_,h8⟩|⟨h8,_⟩
         .rw[hHg,if_neg hnhid,N,Z.fresh i j acN hj]at h8;cases h8
         .have:=Z.le i acN;omega
        .have h7:=fr.cc rfl;rw[t3]at h7;cases h7
     |false=>rw[if_neg acQ,xI M,hK]
    .rw[hK'n];have hcb:jq (iB P F call ops base τ0 H0 i)=true:=by rw[<-e3];rfl
     have hl:dy (λj=>j5 L i j&&jq (iB P F call ops base τ0 H0 j)) ops.size=some i:=xH (p:=λj=>jq (iB P F call ops base τ0 H0 j)) hi nx.not hcb (λj hj hne N hl=>by
      cases hx:iB P F call ops base τ0 H0 j with
      |none=>rw[hx]at N;cases N
      |some x=>
       rw[hx]at N;rcases G.free j i _ x hl hj e3.symm hx with B|B
       .exact nx.behind hj B
       .have:=(ge B).cc rfl;have h7:x.isCall=true:=N;rw[h7]at this;cases this)
     unfold G3;rw[hl];simp only[];rw[<-e2];exact(iU _ _ _ _ _).1.symm
    .rcases k4 c pl Y with B|B
     .exact hnm c pl B
     .exact .inr (by have:=Z.le i acN;omega)
    .rcases k4 c pl Y with B|B
     .exact .inl B
     .exact .inr (.inr acN)
   .cases D
  .cases D
 .rename_i O;rw[<-hwt]at O;rw[if_neg (by rw[j1 htm O];simp)];simp only[aaS,Prod.mk.injEq]at D;obtain⟨e1,e2,e3⟩:=D;obtain⟨t1,t2⟩:=Bv G Z hst nx ho e1.symm mM hsz hrep (λx u hxu=>hxu);have M:∀c,dW (iB P F call ops base τ0 H0 i) c=false:=λc=>by rw[<-e3];rfl
  refine⟨σ,K,hW,λc=>by rw[xI (M c),hK],?_,t1,by cases o.dst<;>exact hdf,t2,hE0,hnm,hfresh (λc pl Y=>.inl Y)⟩;rw[hn];have:jq (iB P F call ops base τ0 H0 i)=false:=by rw[<-e3];rfl
  have hl:dy (λj=>j5 L i j&&jq (iB P F call ops base τ0 H0 j)) ops.size=dy (λj=>L j&&jq (iB P F call ops base τ0 H0 j)) ops.size:=oq (p:=λj=>jq (iB P F call ops base τ0 H0 j)) this;unfold G3;rw[hl]
 .cases D
end
end
section
def vu(ops:Array Oper):Prop:=∀(i:Nat) (o:Oper),ops[i]? =some o->∀e∈o.after.toList,Region.binds .any e=true->e.on<i
def lG:Code->Prop
 |.region _ ops draw=>draw=true->ou ops/\vu ops
 |.seq a b=>lG a/\lG b
 |.cond _ a b=>lG a/\lG b
 |.block _ b=>lG b
 |.loop b=>lG b
 |_=>True
section
variable {P:Program} {F:TypeId->Option (List TypeId)} {call:FuncId->List AV->ah->Option (AV×ah)} {ops:Array Oper} {base:Nat} {τ0:List AV} {H0:ah}
theorem oz(S:fU P call){B:List Nat}:∀(l:List Nat) (O D:List AV) (H K:ah) (rs E:List sZ),fS P F call ops base B l O H rs=some (D,K,E)->H.next<=K.next
 |[],O,D,H,K,rs,E,h=>by cases h;exact Fd _
 | i::l,O,D,H,K,rs,E,h=>by
  have N:∀{u M Z r},bW P F call ops base i u O H=some (M,Z,r)->H.next<=Z.next:=λ{u M Z r} j=>by
   unfold bW at j;split at j
   .cases j
   .split at j
    .split at j
     .rename_i Y;cases j;have:=Bo Y;exact Nat.le_of_eq this.symm
     .split at j
      .rename_i G;cases j;have:=S.next _ _ _ _ _ G;show H.next<=(jO _ _ _ _ _).next
       rw[(iU _ _ _ _ _).1];have h2:=(io base u i H).1;simp only[]at this;omega
      .cases j
     .cases j
    .cases j;exact Fd _
    .cases j
  unfold fS at h;split at h
  .rename_i j;exact abe (N j) (oz S l _ _ _ _ _ _ h)
  .rename_i j;split at h
   .exact abe (N j) (oz S l _ _ _ _ _ _ h)
   .cases h
  .cases h
def cnt(L:Nat->Bool):Nat->Nat
 |0=>0
 |k+1=>cnt L k+(if L k then 0 else 1)
theorem Jm{L:Nat->Bool}:∀{n:Nat},cnt L n=0->∀i,i<n->L i=true
 | n+1,h,i,hi=>by
  unfold cnt at h;rcases acs (Nat.le_of_lt_succ hi)with rfl|j
  .cases u:L i with
   |true=>rfl
   |false=>rw[u]at h;simp at h
  .exact Jm acN i j
theorem F2{L M:Nat->Bool}:∀{n:Nat},(∀i,i<n->L i=M i)->cnt L n=cnt M n
 |0,_=>rfl
 |n+1,h=>by rw[cnt,cnt,F2 λi j=>h i acN,h n acN]
theorem Nu{L:Nat->Bool}{i:Nat}(B:L i=false):∀{n:Nat},i<n->cnt (j5 L i) n+1=cnt L n
 | n+1,hi=>by
  unfold cnt;rcases acs (Nat.le_of_lt_succ hi)with rfl|u
  .rw[F2 (M:=L) λj D=>by simp[j5,show¬j=i by omega]];simp[j5,B]
  .have:=Nu B u;have e:j5 L i n=L n:=by simp[j5,show¬n=i by omega]
   rw[e];omega
theorem F3:∀n,cnt (λ_=>false) n=n
 |0=>rfl
 |n+1=>by simp[cnt,F3 n]
theorem F4{L:Nat->Bool}:∀n,(∀i,i<n->L i=true)\/∃i,i<n/\L i=false/\∀j,j<i->L j=true
 |0=>.inl λi B=>by omega
 | n+1=>by
  rcases F4 (L:=L) n with h|⟨i,G,h2,E⟩
  .by_cases D:L n=true
   .left;intro i B;rcases acs (Nat.le_of_lt_succ B)with rfl|u
    .exact D
    .exact h i u
   .exact .inr ⟨n,acN,by simpa using D,h⟩
  .exact .inr ⟨i,acN,h2,E⟩
theorem xJ{l:Array Bool}{i:Nat}(j:i<l.size):l.getD i true=l.getD i false:=by simp[Array.getD,j]
theorem ON(fit:Fit P F)(hs:fU P call)(hch:∀f args H v H',Bd H->call f args H=some (v,H')->zn H H')(run:mP P F call ops base τ0 H0)(rf:eN P F call ops base τ0 H0)(hst:ou ops)(hed:vu ops)(hb:base+ops.size=H0.next)
  {w0:World} {σ0:bO} {Q:Exit->Act->World->Prop} (hQ:∀a w,Yn P F call ops base τ0 H0 w0 σ0 (λi=>decide (i<ops.size)) a w->Q .normal a w) :
  ∀(B:Nat) (u:Array Bool) (a:Act) (w:World),u.size=ops.size->G2 ops (λi=>u.getD i false)->cnt (λi=>u.getD i false) ops.size<=B->
   Yn P F call ops base τ0 H0 w0 σ0 (λi=>u.getD i false) a w->wpAny P .any ops Q B u a w:=by
 intro B
 induction B with
 |zero=>
  intro u a w M Z hf hI;have E:=Jm (by omega:cnt (λi=>u.getD i false) ops.size=0);unfold wpAny;refine⟨?_,?_⟩
  .unfold Region.ready;rw[List.filter_eq_nil_iff];intro i D;rw[acd]at D;have:=E i D;rw[xJ acN,this];simp
  .refine hQ a w ?_;have e:(λi=>u.getD i false)=λi=>decide (i<ops.size):=by
    funext i;by_cases D:i<ops.size
    .rw[E i D];simp[D]
    .simp[Array.getD,M,D]
   rw[<-e];exact hI
 |succ B ih=>
  intro u a w M Z hf hI;unfold wpAny;refine⟨λhr=>?_,λi D=>?_⟩
  .rcases F4 (L:=λi=>u.getD i false) ops.size with E|⟨i,h1,h2,h3⟩
   .refine hQ a w ?_;have e:(λi=>u.getD i false)=λi=>decide (i<ops.size):=by
     funext i;by_cases D:i<ops.size
     .rw[E i D];simp[D]
     .simp[Array.getD,M,D]
    rw[<-e];exact hI
   .exfalso;unfold Region.ready at hr;rw[List.filter_eq_nil_iff]at hr;have ho:ops[i]? =some ops[i]:=abu h1;refine hr i (by rw[acd];exact h1) ?_;rw[xJ acN,ho];rw[h2];simp only[Bool.not_false,acB,abp,abS];rw[Array.all_eq_true_iff_forall_mem];intro e he;cases G:Region.binds .any e with
    |false=>rfl
    |true=>have:=h3 e.on (hed i _ ho e (by rw[Array.mem_toList_iff];exact he) G);rw[this];rfl
  .unfold Region.ready at D;rw[acn,acd]at D;obtain⟨Y,N⟩:=D;obtain⟨o,ho⟩:∃o,ops[i]? =some o:=⟨_,abu Y⟩;rw[aas,ho]at N;obtain⟨N,S⟩:=N;have O:u.getD i false=false:=by rw[<-xJ acN];simpa using N
   simp only[abp,abS]at S;rw[Array.all_eq_true_iff_forall_mem]at S;have nx:Next ops (λi=>u.getD i false) i:=⟨Y,O,Z,λo' ho' e he G=>by
    rw[ho]at ho';cases ho';have:=S e (by rw[<-Array.mem_toList_iff];exact he);rw[G]at this;simpa using this⟩
   have eL:(λj=>(u.setIfInBounds i true).getD j false)=j5 (λj=>u.getD j false) i:=by
    funext j;unfold j5;by_cases hj:j=i
    .subst hj;rw[if_pos rfl];simp[Array.getD,show j<u.size by omega]
    .rw[if_neg hj];by_cases hjl:j<u.size
     .simp[Array.getD,hjl,show¬i=j by omega]
     .simp[Array.getD,hjl]
   refine wpOp_mono (λa' w' hI'=>?_) (Qt fit hs hch run rf hst hb nx hI);refine ih _ a' w' (by simpa using M) ?_ ?_ (by rw[eL];exact hI')
   .rw[eL];intro j oj hoj hLj e he G;unfold j5 at hLj ⊢;split
    .rfl
    .split at hLj
     .rename_i _ hji;subst hji;exact nx.edges oj hoj e he G
     .exact Z j oj hoj hLj e he G
   .rw[eL];have:=Nu (L:=λj=>u.getD j false) O Y;omega
theorem Bw(fit:Fit P F)(hs:fU P call)(hch:∀f args H v H',Bd H->call f args H=some (v,H')->zn H H')(hst:ou ops)(hed:vu ops){O D:List AV}{H H':ah}(h:fg P F call ops true O H=some (D,H')):
  H.next<=H'.next/\∀(id:Nat) (w:World) (σ:bO) (a:Act),bJ w σ H->dC w σ (aX σ H) O a->∀Q:Exit->Act->World->Prop,(∀a' w',tf w σ H D H' a' w'->Q .normal a' w')->(Code.region id ops true).wp P Q a w:=by
 simp only[fg,if_true]at h;split at h
 .rename_i τq K rs hd;cases h;refine⟨abe (abB _ _) (oz hs _ _ _ _ _ _ _ hd),λid w σ a hW Y Q hQ=>?_⟩;have hbd:Bd H:=λb hb=>by
   cases hg:H.get b with
   |none=>rfl
   |some x=>obtain⟨pl,_,_,h1,_⟩:=hW.live b x hg;have:=hW.named b pl h1;omega
  have hn:H.next+ops.size=({H with next:=H.next+ops.size}:ah).next:=rfl
  have M:∀b,({H with next:=H.next+ops.size}:ah).get b=H.get b:=λ_=>rfl
  have hW0:bJ w σ {H with next:=H.next+ops.size}:=hW.congr M (abB _ _);have Z:aX σ {H with next:=H.next+ops.size}=aX σ H:=aX.congr M;generalize hH0:({H with next:=H.next+ops.size}:ah)=H0 at hd hn M hW0 Z;have hbd0:Bd H0:=λb hb=>by rw[M];exact hbd b acN
  rw[List.range_eq_range']at hd;obtain⟨a1,a2,a3⟩:=Qp (P:=P) (F:=F) (call:=call) (ops:=ops) (base:=H.next) (τ0:=O) (H0:=H0) ops.size 0 [] rs D K hd (λj x hj=>by omega);simp only[abI]at a1 a2 a3;have E:mP P F call ops H.next O H0:=⟨λi hi=>a1 i (abt _) hi,λi j x r hji hi hx hr=>a2 i j x r (abt _) hi hji hx hr⟩;have rf:=OM hch E hbd0 hn (λj hj=>by rw[M];exact hbd _ (abB _ _));have B:∀(p:Nat->Bool) n,dy (λj=>false&&p j) n=none:=λp n=>by rw[um (k:=0) (abt _) (λi _ _=>by simp)];rfl
  have N:∀(p:Nat->Bool) n,dy (λj=>decide (j<n)&&p j) n=dy p n:=λp n=>lF λi hi=>by simp[hi]
  refine wp_region_any fit.order (ON (w0:=w) (σ0:=σ) fit hs hch E rf hst hed hn ?_ ops.size _ a _ acQ ?_ ?_ ?_)
  .intro a' w' hI;obtain⟨S,K',k1,k2,k3,k4,k5,k6,k7,k8,_⟩:=hI;have eS:(fY P F call ops H.next O H0 ops.size)=(D,K):=a3.symm;have G:∀c,K'.get c=K.get c:=λc=>by have:=LP E rf c ops.size (Fd _);rw[eS]at this;rw[k2,hget,N];exact this.symm
   have hnx:K'.next=K.next:=by have:=LQ E ops.size (Fd _);rw[eS]at this;rw[k3,G3,N];exact this.symm
   have htg:∀t,qa P F call ops H.next O H0 (λi=>decide (i<ops.size)) t=D[t]? :=λt=>by have:=LO E t ops.size (Fd _);rw[eS]at this;rw[qa,N];exact this.symm
   have hlen:D.length=O.length:=by have:=rf.len ops.size (Fd _);rw[eS]at this;exact this
   have hoK:aX S ({K with log:=rs.flatMap (·.writes)++K.log}:ah)=aX S K':=aX.congr λb=>(G b).symm
   refine hQ a' w' ⟨S,⟨⟨by simp[hlen,k4],λt x u hx hu=>?_⟩,k5⟩,k1.congr (λb=>(G b).symm) (by rw[hnx];exact Fd _),by rw[hoK,<-Z];exact k7,λc pl hc=>k8 c pl hc⟩;rw[hoK];exact k6 t x u (by rw[htg];exact hx) (by rw[<-Array.getElem?_toList];exact hu)
  .intro i o ho hL;simp[Array.getD]at hL
  .have:(λi=>(Array.replicate ops.size false).getD i false)=λ_=>false:=by funext i;simp[Array.getD]
   rw[this,F3];exact Fd _
  .have:(λi=>(Array.replicate ops.size false).getD i false)=λ_=>false:=by funext i;simp[Array.getD]
   rw[this];refine⟨σ,H0,hW0.same rfl rfl rfl rfl,λc=>by rw[hget,B],by rw[G3,B],by have:=Y.1.1;simpa using this.symm,Y.2,λt x u hx hu=>?_,fT.same σ _ rfl rfl rfl rfl,λc pl hc=>.inl hc,λi hi _=>?_⟩
   .rw[qa,B]at hx;have:=Y.1.2 t x u hx (by rw[abv];exact hu);rw[<-Z]at this;have e:fT w σ (aX σ H0) {w with drawn:=w.drawn+1} σ (aX σ H0):=fT.same σ _ rfl rfl rfl rfl;exact this.mono e
   .cases hg:σ (H.next+i)with
    |none=>rfl
    |some pl=>have:=hW.named _ pl hg;omega
 .cases h
def me(P:Program)(n:Nat)(c:Code)(τ:List AV)(H:ah)(e:Ex)(τ':List AV)(H':ah):Prop:=
 H.next<=H'.next/\∀(w:World) (σ:bO) (a:Act),bJ w σ H->dC w σ (aX σ H) τ a->∀Q:Exit->Act->World->Prop,(∀a' w',tf w σ H τ' H' a' w'->Q (Jc e) a' w')->Code.rounds P c Q n a w
end
end
section
open Go.RowKit
def Nv(ops:Array Oper):Bool:=
 let M:=cI ops.toList []
 let N:=ops.toList.map λo=>(o.dst,jB ops o)
 (List.range ops.size).all λi=>(List.range i).all λj=>
  (M.getD i 0).testBit j ||
  (match N[i]?,N[j]? with
   |some (di,ni),some (dj,nj)=>(match dj with|some t=>!ni.contains t|none=>true)&&(match di with|some t=>!nj.contains t|none=>true)
   |_,_=>true)
def G4(ops:Array Oper):Bool:=(List.range ops.size).all λi=>match ops[i]? with
 |some o=>o.after.toList.all λe=>!Region.binds .any e||decide (e.on<i)
 |none=>true
def kD:Code->Bool
 |.region _ ops draw=>!draw||(Nv ops&&G4 ops)
 |.seq a b=>kD a&&kD b
 |.cond _ a b=>kD a&&kD b
 |.block _ b=>kD b
 |.loop b=>kD b
 |_=>true
def Jn{ops:Array Oper}(h:Nv ops=true):ou ops:=by
 intro i j N M G B E;have S:i<ops.size:=(acm.1 B).1;unfold Nv at h;simp only[abh,acd]at h;have u:=h i S j G;have Z:(ops.toList.map λo=>(o.dst,jB ops o))[i]? =some (N.dst,jB ops N):=by rw[abn,abv,B];rfl
 have Y:(ops.toList.map λo=>(o.dst,jB ops o))[j]? =some (M.dst,jB ops M):=by rw[abn,abv,E];rfl
 rw[Z,Y]at u;simp only[Bool.or_eq_true,aas]at u;rcases u with u|⟨u,O⟩
 .exact .inl u
 .right;refine⟨λt D=>?_,λt D=>?_⟩
  .rw[D]at u;simpa using u
  .rw[D]at O;simpa using O
def F5{ops:Array Oper}(h:G4 ops=true):vu ops:=by intro i o u e D E;have B:i<ops.size:=(acm.1 u).1;unfold G4 at h;simp only[abh,acd]at h;have j:=h i B;rw[u]at j;simp only[abh]at j;have:=j e D;rw[E]at this;simpa using this
def iV:∀(c:Code),kD c=true->lG c
 | .region _ ops draw,h=>λj=>by subst j;simp only[kD,Bool.not_true,Bool.false_or,aas]at h;exact⟨Jn h.1,F5 h.2⟩
 |.seq a b,h=>by simp only[kD,aas]at h;exact⟨iV a h.1,iV b h.2⟩
 |.cond _ a b,h=>by simp only[kD,aas]at h;exact⟨iV a h.1,iV b h.2⟩
 |.block _ b,h=>iV b h
 |.loop b,h=>iV b h
 |.skip,_=>trivial
 |.rangeFunc ..,_=>trivial
 |.exit _,_=>trivial
 |.scope _,_=>trivial
 |.label _,_=>trivial
 |.goto _,_=>trivial
 |.ret,_=>trivial
 |.refuse _,_=>trivial
def Jo (fn : Func) : Bool := (fn.name != "runtime.NumGoroutine") && (match fn.body with | some c => kD c | none => true)
def VB {P : Program} (h : P.funcs.toList.all Jo = true) : (∀ (g : Nat) (fn : Func), P.funcs[g]? = some fn → fn.name ≠ "runtime.NumGoroutine") ∧ ∀ (g : Nat) (fn : Func) (c : Code), P.funcs[g]? = some fn → fn.body = some c → lG c := by
 rw[abh]at h;have key:∀(g:Nat) (fn:Func),P.funcs[g]? =some fn->Jo fn=true:=λg fn hg=>h fn (by rw[Array.mem_toList_iff];exact Array.mem_of_getElem? hg)
 refine⟨λg fn hg=>?_,λg fn c hg hc=>?_⟩
 .have:=key g fn hg;simp only[Jo,aas]at this;simpa using this.1
 .have:=key g fn hg;simp only[Jo,aas,hc]at this;exact iV c this.2
end
section
open Go.RowKit
inductive bv:AV->Prop where
 |int (k:IntKind) (n:Int):bv (.int k n)
 |bool (b:Bool):bv (.bool b)
 |str (s:List UInt8):bv (.str s)
 |nilp:bv .nilp
 |nils:bv .nils
 |emp:bv .emp
 |nilf:bv .nilf
 |junk:bv .junk
 |lst (rows:List (List AV)) (h:∀(i:Nat) (r:List AV) (j:Nat) (a:AV),rows[i]? =some r->r[j]? =some a->bv a):bv (.lst rows)
 |agg (cs:List AV) (h:∀(i:Nat) (a:AV),cs[i]? =some a->bv a):bv (.agg cs)
 |tup (cs:List AV) (h:∀(i:Nat) (a:AV),cs[i]? =some a->bv a):bv (.tup cs)
 |fn (f:FuncId) (cs:List AV) (h:∀(i:Nat) (a:AV),cs[i]? =some a->bv a):bv (.fn f cs)
section
variable {P:Program} {F:TypeId->Option (List TypeId)} {w w':World} {σ σ':bO} {T T':Nat->Prop}
theorem ug.shrink{rows:List (List AV)}{b o sz:Nat}(h:ug w T rows b o sz)(u:∀c,T' c->T c):ug w T' rows b o sz:=⟨λj=>h.out (u b j),h.even,h.cell,h.pos,h.ne⟩
theorem bv.rep{a:AV}(hp:bv a):∀{v:Value},bC w σ T a v->(∀c,T' c->T c)->bC w σ' T' a v:=by
 induction hp with
 |int k n=>intro v h _;cases h;exact .int k n
 |bool b=>intro v h _;cases h;exact .bool b
 |str s=>intro v h _;cases h;exact .str _
 |nilp=>intro v h _;cases h;exact .nilp
 |nils=>intro v h _;cases h;exact .nils
 |emp=>intro v h _;cases h;exact .emp _
 |nilf=>intro v h _;cases h;exact .nilf
 |junk=>intro v h _;exact .junk v
 |lst Z h G=>
  intro v M D;cases M with
  |lst0 a S hm=>exact .lst0 a S hm
  |lst _ b o sz S N hn hm O=>exact .lst Z b o sz S (N.shrink D) hn hm λi r j a u B E h3=>G i r j a B E (O i r j a u B E h3) D
 |agg cs h G=>
  intro v M D;cases M with
  |agg _ Y N O=>exact .agg cs Y N λi a v B E=>G i a B (O i a v B E) D
 |tup cs h G=>
  intro v M D;cases M with
  |tup _ Y N O=>exact .tup cs Y N λi a v B E=>G i a B (O i a v B E) D
 |fn f cs h G=>
  intro v M D;cases M with
  |fn _ _ Y N O=>exact .fn f cs Y N λi a v B E=>G i a B (O i a v B E) D
theorem cS(b:Nat):ah.empty.get b=none:=Tr.get_leaf b
def Nw(P:Program)(f:FuncId)(args:List AV)(v:AV):Prop:=
 ∀(w:World) (σ:bO) (vs:List Value),bJ w σ ah.empty->fX w σ (aX σ ah.empty) args vs->Calls P f vs.toArray w λe w'=>
  ∃v' σ' H',e=.returned v'/\bC w' σ' (aX σ' H') v v'/\fT w σ (aX σ ah.empty) w' σ' (aX σ' H')
theorem Yz{f:FuncId}{args:List AV}{v:AV}(hv:bv v)(ha:∀(i:Nat) (a:AV),args[i]? =some a->bv a)(h:Nw P f args v)(H:ah):p7 P f args H v H:=by
 intro w σ vs N O;have M:aX ⟨λ_=>none,aX σ H⟩ ah.empty=aX σ H:=by
  funext c;apply propext;constructor
  .rintro(D|⟨b,x,E,D,_,_⟩)
   .exact D
   .rw[cS]at D;cases D
  .exact .inl
 have Y:∀c,aX σ H c->c<w.heap.size:=λc j=>by
  rcases j with j|⟨b,x,E,D,S,rfl⟩
  .exact(N.apart c j).1
  .exact N.lt b E S
 have Z:bJ w ⟨λ_=>none,aX σ H⟩ ah.empty:=⟨λb E B=>(by cases B),λb E B=>(by cases B),λb x B=>(by rw[cS]at B;cases B),
  λc j=>⟨Y c j,λ⟨b,x,E,D,_,_⟩=>(by rw[cS]at D;cases D)⟩,λb b' x x' E pl' B=>(by rw[cS]at B;cases B),by rw[M];exact N.glob⟩
 refine(h w _ vs Z ⟨O.1,λi a u D S=>(ha i a D).rep (O.2 i a u D S) (λc j=>by rw[M]at j;exact j)⟩).mono ?_;rintro e w' ⟨v',σ',H1,rfl,k1,G⟩;have hE:fT w σ (aX σ H) w' σ (aX σ H):=
  ⟨G.os,G.tape,G.output,G.size,λc j hT=>G.keep c j (by rw[M];exact hT),G.shape,λ_ _ h=>h,rfl,λc j=>G.frame c (.inl j),λc j=>.inl j⟩
 refine⟨v',σ,rfl,hv.rep k1 (λc j=>.inl (by rw[G.eqfr];exact j)),⟨N.named,λb E B=>abk (N.lt b E B) G.size,λb x B=>?_,λc j=>⟨abk (N.apart c j).1 G.size,(N.apart c j).2⟩,N.inj,N.glob.mono hE⟩,hE,λc E j=>.inl j⟩;obtain⟨E,cs,e,D,S⟩:=N.live b x B;exact⟨E,cs,e,D,S.mono hE (G.frame _ (.inr ⟨b,x,E,B,D,rfl⟩))⟩
def G5(P:Program)(c:Code)(Q:Ex->List AV->ah->Prop)(τ:List AV)(H:ah):Prop:=
 ∀(w:World) (σ:bO) (a:Act),bJ w σ H->dC w σ (aX σ H) τ a->∀Q':Exit->Act->World->Prop,
  (∀e τ' H' a' w',Q e τ' H'->H.next<=H'.next->tf w σ H τ' H' a' w'->Q' (Jc e) a' w')->c.wp P Q' a w
variable {c c1 c2:Code} {Q Q2:Ex->List AV->ah->Prop} {τ:List AV} {H:ah}
theorem G5.of_ok{e:Ex}{j:List AV}{H':ah}(h:dQ P c τ H e j H')(G:Q e j H'):G5 P c Q τ H:=
 λw σ a E u N D=>h.2 w σ a E u N λM w' B=>D e j H' M w' G h.1 B
def Ex.then(next:List AV->ah->Prop)(Q:Ex->List AV->ah->Prop):Ex->List AV->ah->Prop
 |.normal,τ,H=>next τ H
 |e,τ,H=>Q e τ H
theorem G5.cond{x:Operand}{t:Bool}(G:lj τ x=.bool t)(h:G5 P (if t then c1 else c2) Q τ H):G5 P (.cond x c1 c2) Q τ H:=by intro w σ a E j M D;have B:=j.eval E.glob x;rw[G]at B;refine wp_cond (t:=t) ?_ (h w σ a E j M D);generalize a.eval x=u at B;cases B;rfl
theorem G5.exit{j:Nat}(h:Q (.exit j) τ H):G5 P (.exit j) Q τ H:=λw σ a D u E B=>wp_exit (B (.exit j) τ H _ _ h (Fd _) (.refl D u))
theorem G5.ret(h:Q .ret τ H):G5 P .ret Q τ H:=λw σ a B j D u=>wp_ret (u .ret τ H _ _ h (Fd _) (.refl B j))
def Ex.inBlock(id:Nat)(Q:Ex->List AV->ah->Prop):Ex->List AV->ah->Prop
 |.exit id',τ,H=>if id'=id then Q .normal τ H else Q (.exit id') τ H
 |e,τ,H=>Q e τ H
theorem G5.block{N:Nat}(h:G5 P c (Ex.inBlock N Q) τ H):G5 P (.block N c) Q τ H:=by
 intro w σ a S G Q' u;refine wp_block (h w σ a S G _ λe O H1 Z Y B D j=>?_);cases e with
 |normal=>exact u _ _ _ _ _ B D j
 |ret=>exact u _ _ _ _ _ B D j
 |exit E=>
  simp only[Ex.inBlock]at B;simp only[Jc,Exit.inBlock];split
  .rename_i M;rw[if_pos M]at B;exact u .normal _ _ _ _ B D j
  .rename_i M;rw[if_neg M]at B;exact u (.exit E) _ _ _ _ B D j
theorem zo{u:Exit->Act->World->Prop}:∀{n m:Nat} {a:Act} {w:World},n<=m->Code.rounds P c u n a w->Code.rounds P c u m a w
 |0,m,a,w,_,h=>h.elim
 | n+1,m,a,w,hm,h=>by
  obtain⟨k,rfl⟩:∃k,m=k+1:=⟨m-1,acN⟩;rw[rounds_succ]at h ⊢;refine wp_mono h λe B w' j=>?_
  cases e with
  |normal=>exact zo acN j
  |_=>exact j
theorem G5.loop(I:Nat->List AV->ah->Prop)(hs:∀n τ H,I n τ H->G5 P c (Ex.then (λu H'=>∃m,m<n/\I m u H') Q) τ H)(n:Nat)(h0:I n τ H):G5 P (.loop c) Q τ H:=by
 have Y:∀n τ H,I n τ H->∀(w:World) (σ:bO) (a:Act),bJ w σ H->dC w σ (aX σ H) τ a->∀E:Exit->Act->World->Prop,
   (∀e u H' a' w',Q e u H'->H.next<=H'.next->tf w σ H u H' a' w'->E (Jc e) a' w')->Code.rounds P c E (n+1) a w:=by
  intro n
  induction n using Nat.strongRecOn with
  |_ n ih=>
   intro τ H hI w σ a hW B E j;rw[rounds_succ];refine hs n τ H hI w σ a hW B _ λe O H1 a1 w1 Z M D=>?_
   cases e with
   |normal=>obtain⟨m,hm,hI1⟩:=Z;obtain⟨S,t1,r1,e1,m1⟩:=D;exact zo acN (ih m hm O H1 hI1 w1 S a1 r1 t1 E λe2 N H2 a2 w2 q2 n2 G=>j e2 N H2 a2 w2 q2 (abe M n2) (G.trans e1 m1 M))
   |exit id=>exact j _ _ _ _ _ Z M D
   |ret=>exact j _ _ _ _ _ Z M D
 intro w σ a hW B E j;exact wp_loop_rounds (n+1) (Y n τ H h0 w σ a hW B E j)
end
def LR:FuncId->List AV->ah->Option (AV×ah):=λ_ _ _=>none
theorem vx(P:Program):fU P LR:=⟨λ_ _ _ _ _ h=>(by cases h),λ_ _ _ _ _ h=>(by cases h),λ_ _ _ _ _ h=>(by cases h)⟩
theorem G5.reg{P:Program}{F:TypeId->Option (List TypeId)}{call:FuncId->List AV->ah->Option (AV×ah)}(fit:Fit P F)(B:fU P call){ops:Array Oper}{u:Nat}{Q:Ex->List AV->ah->Prop}{τ:List AV}{H:ah}{j:List AV}{H':ah}(h:fg P F call ops false τ H=some (j,H'))(D:Q .normal j H'):G5 P (.region u ops false) Q τ H:=
 .of_ok (iA fit B h) D
theorem G5.ops{P:Program}{F:TypeId->Option (List TypeId)}{call:FuncId->List AV->ah->Option (AV×ah)}(fit:Fit P F)(B:fU P call){ops:Array Oper}{u:Nat}{Q:Ex->List AV->ah->Prop}{τ:List AV}{H:ah}{j:List AV}{H':ah}(h:oa P F call ops H.next (List.range ops.size) τ {H with next:=H.next+ops.size}=some (j,H'))(D:Q .normal j H'):G5 P (.region u ops false) Q τ H:=
 .of_ok (iA fit B (by simp only[fg,abj,if_false];exact h)) D
end
def dX(P:Program)(f:FuncId)(args:List AV)(v:AV):Prop:=(∀H,p7 P f args H v H)/\∃fn c,P.funcs[f]? =some fn/\fn.body=some c
def dX.of_v{P:Program}{f:FuncId}{args:List AV}{v:AV}{j:Func}{c:Code}(B:P.funcs[f]? =some j)(D:j.body=some c)(u:bv v)(E:∀(i:Nat) (a:AV),args[i]? =some a->bv a)(h:Nw P f args v):dX P f args v:=
 ⟨λH=>Yz u E h H,j,c,B,D⟩
def vy(f:AV->Option AV)(rows:List (List AV)):Option (List (List AV)):=cX (rows.map λr=>cX (r.map f))
def frz(K:ah):Nat->AV->Option AV
 |0,_=>none
 | d+1,a=>match a with
  | .sl b i n=>if n=0 then some (.lst [])else match K.get b with
   |some x=>if 0<x.size/\i+n<=x.rows.length then(vy (frz K d) ((x.rows.drop i).take n)).map .lst else none
   |none=>none
  |.nils=>some (.lst [])
  |.lst rows=>(vy (frz K d) rows).map .lst
  |.agg cs=>(cX (cs.map (frz K d))).map .agg
  |.tup cs=>(cX (cs.map (frz K d))).map .tup
  |.ptr ..=>none
  |.pptr ..=>none
  |.fn ..=>none
  |.mp ..=>none
  |.it ..=>none
  |a=>some a
def qd{f:AV->Option AV}{l m:List AV}(h:cX (l.map f)=some m):l.length=m.length/\∀(i:Nat) (y:AV),m[i]? =some y->∃x,l[i]? =some x/\f x=some y:=by
 obtain⟨D,B⟩:=jY _ _ h;refine⟨by simpa using D,λi y u=>?_⟩;have:=B i y u;rw[abn]at this;cases j:l[i]? with
 |none=>rw[j]at this;cases this
 |some x=>rw[j]at this;exact⟨x,rfl,by simpa using this⟩
def zq{f:AV->Option AV}{l m:List (List AV)}(h:vy f l=some m):l.length=m.length/\∀(i:Nat) (u:List AV),m[i]? =some u->∃r,l[i]? =some r/\r.length=u.length/\∀(j:Nat) (y:AV),u[j]? =some y->∃x,r[j]? =some x/\f x=some y:=by
 obtain⟨N,M⟩:=jY _ _ h;refine⟨by simpa using N,λi u B=>?_⟩;have:=M i u B;rw[abn]at this;cases D:l[i]? with
 |none=>rw[D]at this;cases this
 |some r=>rw[D]at this;simp only[abp,aaS]at this;obtain⟨G,E⟩:=qd this;exact⟨r,rfl,G,E⟩
def vz{w:World}{σ:bO}{K:ah}(hW:bJ w σ K):∀(d:Nat) (a a':AV) (v:Value),frz K d a=some a'->bC w σ (aX σ K) a v->bC w σ (aX σ ah.empty) a' v
 |0,a,a',v,h,_=>by cases h
 | d+1,a,a',v,h,hr=>by
  have hout:∀c,¬aX σ K c->¬aX σ ah.empty c:=λc Y ho=>by
   rcases ho with ho|⟨b,x,pl,h1,_,_⟩
   .exact Y (.inl ho)
   .rw[cS]at h1;cases h1
  cases a with
  |sl b i n=>
   simp only[frz]at h;obtain⟨pl,ad,M,rfl,hs,hn,hm,ha⟩:=hr.sl_inv;split at h
   .rename_i h0;cases h;rw[h0];exact .lst0 _ _ hm
   .rename_i h0;split at h
    .rename_i x hx;split at h
     .rename_i Y;cases D:vy (frz K d) ((x.rows.drop i).take n)with
      |none=>rw[D]at h;cases h
      |some m=>
       rw[D]at h;cases h;obtain⟨rfl,cs,ty,hcs,hroom⟩:=ha acN;obtain⟨pl',cs',e',g1,Z⟩:=hW.live b x hx;rw[hs]at g1;cases g1;replace Z:=Z.1 (hr.sl_ok hs);obtain⟨f1,S⟩:=zq D;have G:m.length=n:=by rw[<-f1];simp;omega
       have get:∀(q:Nat) (r:List AV),((x.rows.drop i).take n)[q]? =some r->q<n/\x.rows[i+q]? =some r:=λq r hq=>by have hq':=aH hq;rw[<-f1]at G;rw[G]at hq';rw[abJ hq',abY]at hq;exact⟨hq',hq⟩
       have hnot:¬aX σ ah.empty pl.block:=λho=>by
        rcases ho with ho|⟨b',x',pl'',h1,_,_⟩
        .exact(hW.apart _ ho).2 ⟨b,x,pl,hx,hs,rfl⟩
        .rw[cS]at h1;cases h1
       have:=bC.lst (w:=w) (σ:=σ) (T:=aX σ ah.empty) m pl.block (pl.base+i*pl.size) pl.size M
        ⟨hnot,λq r' B=>by
         obtain⟨r,E,N,_⟩:=S q r' B;rw[<-N,Z.even _ r (get q r E).2,Z.size],λq j hq hj=>by
         obtain⟨r,E,N,_⟩:=S q m[q] (mt hq);have hrow:=Z.row (get q r E).2;have hj':j<r.length:=by rw[Z.even _ r (get q r E).2,<-Z.size];exact hj
         obtain⟨u,O,_⟩:=hrow j _ (mt hj');rw[abM,<-Nat.add_assoc]at O;exact⟨u,O⟩,by rw[Z.size];exact Y.1,acN⟩ acN hm
        (λq r' j y u B hy O=>by
         obtain⟨r,E,N,k3⟩:=S q r' B;obtain⟨z,k4,k5⟩:=k3 j y hy;obtain⟨u',hu',hz⟩:=Z.row (get q r E).2 j z k4;rw[abM,<-Nat.add_assoc]at hu';rw[O]at hu';cases hu';exact vz hW d z y u k5 hz)
       rw[G]at this;exact this
     .cases h
    .cases h
  |nils=>simp only[frz]at h;cases h;cases hr;exact .lst0 _ _ (by unfold maxLen;omega)
  |lst rows=>
   simp only[frz]at h;cases D:vy (frz K d) rows with
   |none=>rw[D]at h;cases h
   |some m=>
    rw[D]at h;cases h;obtain⟨f1,S⟩:=zq D;cases hr with
    |lst0 a M hm=>
     have:m=[]:=by cases m with
      |nil=>rfl
      |cons x m=>simp at f1
     subst this;exact .lst0 a M hm
    |lst _ b o sz M hl hn hm Y=>
     have:=bC.lst (w:=w) (σ:=σ) (T:=aX σ ah.empty) m b o sz M
      ⟨hout b hl.out,λq r' B=>by
       obtain⟨r,E,N,_⟩:=S q r' B;rw[<-N,hl.even q r E],λq j hq hj=>hl.cell q j acN hj,hl.pos,by rw[<-f1];exact hl.ne⟩ acN hm
      (λq r' j y u B hy O=>by
       obtain⟨r,E,N,k3⟩:=S q r' B;obtain⟨z,k4,k5⟩:=k3 j y hy;exact vz hW d z y u k5 (Y q r j z u E k4 O))
     rw[<-f1]at this;exact this
  |agg cs=>
   simp only[frz]at h;cases D:cX (cs.map (frz K d))with
   |none=>rw[D]at h;cases h
   |some m=>
    rw[D]at h;cases h;obtain⟨f1,S⟩:=qd D;cases hr with
    |agg _ vs hl Y=>
     refine .agg m vs acN λq y u hy O=>?_
     obtain⟨x,E,N⟩:=S q y hy;exact vz hW d x y u N (Y q x u E O)
  |tup cs=>
   simp only[frz]at h;cases D:cX (cs.map (frz K d))with
   |none=>rw[D]at h;cases h
   |some m=>
    rw[D]at h;cases h;obtain⟨f1,S⟩:=qd D;cases hr with
    |tup _ vs hl Y=>
     refine .tup m vs acN λq y u hy O=>?_
     obtain⟨x,E,N⟩:=S q y hy;exact vz hW d x y u N (Y q x u E O)
  |int k n=>simp only[frz]at h;cases h;cases hr;exact .int k n
  |bool b=>simp only[frz]at h;cases h;cases hr;exact .bool b
  |str s=>simp only[frz]at h;cases h;cases hr;exact .str _
  |nilp=>simp only[frz]at h;cases h;cases hr;exact .nilp
  |emp=>simp only[frz]at h;cases h;cases hr;exact .emp _
  |nilf=>simp only[frz]at h;cases h;cases hr;exact .nilf
  |junk=>simp only[frz]at h;cases h;exact .junk v
  |ptr b i off=>simp[frz]at h
  |pptr rows i off=>simp[frz]at h
  |fn f cs=>simp[frz]at h
  |mp b=>simp[frz]at h
  |it b=>simp[frz]at h
end Go.Proofs.YtfckbjehkbhkgaaGreat.Am
section
namespace Go.Proofs.YtfckbjehkbhkgaaGreat
open Go.ChangeShapes Go.WideShapes Go.ChangeAt Go.RowKit
abbrev Ints:=Sl (α:=Int) 1 (rInt .i64)
def Fit(l:List Int):Prop:=∀x∈l,(Lit.int .i64 x).wf=true
def Ints.fit{A:Option Addr}{n c:Nat}{l:List Int}{w:World}{F:Nat->Prop}(h:Ints w F (.slice A n c) l):Fit l:=by intro x j;obtain⟨i,u,rfl⟩:=abC j;obtain⟨b,o,M,G,E,_,B,D⟩:=h.at_ u;exact B.2
end Go.Proofs.YtfckbjehkbhkgaaGreat
end
section
namespace Go.Proofs.YtfckbjehkbhkgaaGreat
open Go.ChangeShapes Go.WideShapes Go.ChangeAt Go.RowKit
structure WD where
 nc:Nat
 rw:List Bool
 mx:List Int
 nf:Nat
 nt:Nat
structure LockD where
 owner:Int
 readers:List Int
structure ThrD where
 status:Int
 cond:Int
 atomic:Bool
structure SyncD where
 locks:List LockD
 tx:Int
 done:List Bool
 threads:List ThrD
def rLk:Rel Bool:=λ_ _ b cs=>∃s,cs=[.string s,.bool b]
def rCd:Rel Int:=λ_ _ m cs=>∃s,cs=[.string s,.int .i64 m]/\(Lit.int .i64 m).wf=true
def rLock:Rel LockD:=λw F l cs=>∃A n c,cs=[.int .i64 l.owner,.slice A n c]/\(Lit.int .i64 l.owner).wf=true/\Ints w F (.slice A n c) l.readers
def rThr:Rel ThrD:=λ_ _ t cs=>cs=[.int .i64 t.status,.int .i64 t.cond,.bool t.atomic]/\(Lit.int .i64 t.status).wf=true/\(Lit.int .i64 t.cond).wf=true
def rLk_stays:rLk.Stays:=λ_ _ _ _ _ _ _ _ h=>h
def rCd_stays:rCd.Stays:=λ_ _ _ _ _ _ _ _ h=>h
def rThr_stays:rThr.Stays:=λ_ _ _ _ _ _ _ _ h=>h
def rLock_stays:rLock.Stays:=λw G F N l M j u ⟨A,n,c,E,D,B⟩=>⟨A,n,c,E,D,B.stays acR (rInt_stays _) j u⟩
structure WV where
 cA:Option Addr
 nc:Nat
 cc:Nat
 lA:Option Addr
 nl:Nat
 lc:Nat
 dA:Option Addr
 nd:Nat
 dc:Nat
 fA:Option Addr
 nf:Nat
 fc:Nat
 tA:Option Addr
 nt:Nat
 tc:Nat
 sA:Option Addr
 ns:Nat
 sc:Nat
structure WOk(w:World)(F:Nat->Prop)(v:WV)(d:WD):Prop where
 nc:v.nc=d.nc/\v.nc<=maxLen
 nf:v.nf=d.nf/\v.nf<=maxLen
 nt:v.nt=d.nt/\v.nt<=maxLen
 locks:Sl 2 rLk w F (.slice v.lA v.nl v.lc) d.rw
 conds:Sl 2 rCd w F (.slice v.dA v.nd v.dc) d.mx
structure SV where
 kA:Option Addr
 nk:Nat
 kc:Nat
 tx:Int
 eA:Option Addr
 ne:Nat
 ec:Nat
 hA:Option Addr
 nh:Nat
 hc:Nat
structure SOk(w:World)(F:Nat->Prop)(v:SV)(d:SyncD):Prop where
 locks:Sl 2 rLock w F (.slice v.kA v.nk v.kc) d.locks
 done:Sl 1 rBool w F (.slice v.eA v.ne v.ec) d.done
 threads:Sl 3 rThr w F (.slice v.hA v.nh v.hc) d.threads
 tx:v.tx=d.tx
 wf:(Lit.int .i64 d.tx).wf=true
abbrev WV.val(v:WV):Value:=.agg #[.slice v.cA v.nc v.cc,.slice v.lA v.nl v.lc,.slice v.dA v.nd v.dc,.slice v.fA v.nf v.fc,.slice v.tA v.nt v.tc,.slice v.sA v.ns v.sc]
abbrev SV.val(v:SV):Value:=.agg #[.slice v.kA v.nk v.kc,.int .i64 v.tx,.slice v.eA v.ne v.ec,.slice v.hA v.nh v.hc]
def WOk.stays{w w':World}{F B:Nat->Prop}{v:WV}{d:WD}(h:WOk w F v d)(j:∀b,F b->b<w.heap.size->w'.heap[b]? =w.heap[b]?)(u:∀b,F b->b<w.heap.size->B b):WOk w' B v d:=
 ⟨h.nc,h.nf,h.nt,h.locks.stays acR rLk_stays j u,h.conds.stays acR rCd_stays j u⟩
def SOk.stays{w w':World}{F B:Nat->Prop}{v:SV}{d:SyncD}(h:SOk w F v d)(j:∀b,F b->b<w.heap.size->w'.heap[b]? =w.heap[b]?)(u:∀b,F b->b<w.heap.size->B b):SOk w' B v d:=
 ⟨h.locks.stays acR rLock_stays j u,h.done.stays acR rBool_stays j u,h.threads.stays acR rThr_stays j u,h.tx,h.wf⟩
def inB(i:Int)(n:Nat):Bool:=decide (0<=i)&&decide (i<n)
def fitsS(d:WD)(s:SyncD):Bool:=s.locks.length==d.rw.length&&(s.done.length==d.nf)&&(s.threads.length==d.nt)&&d.mx.all (λm=>inB m d.rw.length)
def rwAt(d:WD)(i:Int):Bool:=d.rw.getD i.toNat false
def allowedS(d:WD)(kind obj:Int):Bool:=
 if kind=1\/kind=2\/kind=5\/kind=12\/kind=13\/kind=14\/kind=15 then obj==-1
 else if kind=3\/kind=4 then inB obj d.nc
 else if kind=6\/kind=7 then inB obj d.rw.length&&!rwAt d obj
 else if kind=8\/kind=9\/kind=10\/kind=11 then inB obj d.rw.length&&rwAt d obj
 else if kind=16\/kind=17\/kind=18\/kind=19 then inB obj d.mx.length
 else if kind=20\/kind=21 then inB obj d.nt
 else if kind=22\/kind=23 then inB obj d.nf
 else false
end Go.Proofs.YtfckbjehkbhkgaaGreat
end
section
namespace Go.Proofs.YtfckbjehkbhkgaaGreat
open Go.ChangeShapes Go.WideShapes Go.ChangeAt Go.RowKit
def elemI:Elem Tryz.prog 26 3 (.int .i64 0) 1 8:=elem_mk Tryz.underlying26 (by kernel_rfl) rfl acR
def cloneI_any(A:Option Addr)(n c:Nat)(xs:List Value)(w:World)(G:Flat w 1 A n xs)(N:∀x∈xs,x.oneCell'=true)(hn:n*8<=140737488355328)(M:A=none->n=0):
  Calls Tryz.prog 52 #[.slice A n c] w λe w'=>∃v,e=.returned v/\w'.ownsRow w.heap.size 3 1 v n xs/\Below w.heap.size w w':=by
 have D:=Lib.hid G;have S:=Lib.hid N;clear G N;have Y:=λ(W:World) (a:Option Addr) (l c:Nat)=>Lib.run_eql_slice_nil (P:=Tryz.prog) W 26 3 a l c 0 0 Tryz.underlying26;cases A with
 |none=>
  obtain rfl:n=0:=M rfl;have E:xs=[]:=ace (by have:=D.out.1;simpa using this);have Z:=Lib.hid E;clear E D S
  go_enter Tryz.func52,Tryz.ntmps52
  go_wp2_with fail
  go_ret
  exact⟨_,rfl,by rw[Z.out];exact World.ownsRow_nil _ _ _ _,Below.refl _ _⟩
 |some a=>
  clear M;have O:Hid ((w.alloc (.cells #[] 3)).ownsRow w.heap.size 3 1 (.slice (some ⟨w.heap.size,0,none⟩) 0 0) 0 []):=Lib.hid (World.ownsRow_made w #[] 0 (Fd _) (by simp[maxLen]) acQ)
  go_enter Tryz.func52,Tryz.ntmps52
  go_wp2_with (at_builtin;go_must (refine wpList_app rfl (.tmp 5) (.tmp 6) rfl elemI w.heap.size _ 0 [] rfl O.out (some a) n c xs rfl (D.out.kept ((Below.refl _ _).alloc (Fd _) _)) S.out (by simp only[maxLen];omega) acN acQ ?_);intro v1 w1 j u)
  have B:=((Below.refl w.heap.size w).alloc (Fd _) _).grown u acQ (own_from O.out)
  go_wp2_with fail
  go_ret
  exact⟨_,rfl,by simpa using j,B⟩
end Go.Proofs.YtfckbjehkbhkgaaGreat
end
section
namespace Go.Proofs.YtfckbjehkbhkgaaGreat
open Go.ChangeShapes Go.WideShapes Go.ChangeAt Go.RowKit
def append_zero(t ty e:TypeId)(P:Program)(w:World)(ht:P.underlying t=some (.slice e))(j:∃i,P.info? e=some i)(A B:Option Addr)(c:Nat):(Builtin.append_ #[t,t] ty #[.slice A 0 0,.slice B 0 c]).run P w=.ok (.slice A 0 0) w:=by obtain⟨i,j⟩:=j;cases A<;>cases B<;>simp[Builtin.append_,run_underlying ht,sizeOf,typeInfo,j,Builtin.lenOf,Builtin.firstCells,loadCells,loadCellsFrom,storeCells]
def cloneI_zero(A:Option Addr)(c:Nat)(w:World):Calls Tryz.prog 52 #[.slice A 0 c] w λe w'=>∃B,e=.returned (.slice B 0 0)/\Below w.heap.size w w':=by
 have E:=λ(W:World) (a:Option Addr) (l c:Nat)=>Lib.run_eql_slice_nil (P:=Tryz.prog) W 26 3 a l c 0 0 Tryz.underlying26;cases A with
 |none=>
  go_enter Tryz.func52,Tryz.ntmps52
  go_wp2_with fail
  go_ret
  exact⟨_,rfl,Below.refl _ _⟩
 |some a=>
  have j:∃i,Tryz.prog.info? 3=some i:=Option.isSome_iff_exists.1 (show(Tryz.prog.info? 3).isSome=true by kernel_rfl);have u:=λ(W:World) (D:TypeId) (A B:Option Addr)=>append_zero 26 D 3 Tryz.prog W Tryz.underlying26 j A B c
  go_enter Tryz.func52,Tryz.ntmps52
  go_wp2_with fail
  go_ret
  exact⟨_,rfl,(Below.refl _ _).alloc (Fd _) _⟩
end Go.Proofs.YtfckbjehkbhkgaaGreat
end
