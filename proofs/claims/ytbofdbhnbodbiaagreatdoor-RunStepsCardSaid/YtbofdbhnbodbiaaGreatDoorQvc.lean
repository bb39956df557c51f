/- A part of the proof; the statement is proved in the last part. -/
import Derived.Test.YtbofdbhnbodbiaaGreatDoorQvb
set_option linter.all false
set_option maxRecDepth 100000
set_option maxHeartbeats 20000000
namespace Go.Proofs.YtbofdbhnbodbiaaGreatDoor.Am
section
def bP:Op->List Operand
 |.move x|.assign x|.box _ x|.load _ x|.nilCheck x|.unOp _ _ x|.convert _ _ x|.fieldAddr _ x _|.field _ x _|.extract x _=>[x]
 |.pick c a b=>[c,a,b]
 |.build _ ps|.buildSlice _ _ ps=>ps.toList.map (·.2)
 |.store _ a v|.binOp _ _ a v _|.makeSlice _ a v|.indexAddr _ a v|.index _ a v=>[a,v]
 |.makeFunc _ _ c=>c.toList
 |.lookup _ m k _=>[m,k]
 |.mapUpdate _ m k x=>[m,k,x]
 |.range _ x|.next x _=>[x]
 |.slice _ x l h m=>x::(l.toList++h.toList++m.toList)
 |.call c=>(match c.callee with|.value f=>[f]|_=>[])++c.args.toList
 |_=>[]
section
variable {P:Program} {F:TypeId->Option (List TypeId)}
theorem Gy{ρ j:Operand->AV}{l:List Operand}(h:∀x∈l,ρ x=j x):l.map ρ=l.map j:=List.map_congr_left h
theorem A0{ρ j:Operand->AV}{ps:List (Nat×Operand)}(h:∀x∈ps.map (·.2),ρ x=j x):(ps.map λp=>(p.1,ρ p.2))=ps.map λp=>(p.1,j p.2):=
 List.map_congr_left λp hp=>by rw[h p.2 (Tl.2 ⟨p,hp,rfl⟩)]
theorem ng{ρ j:Operand->AV}:∀{l:List Operand},(∀x∈l,ρ x=j x)->(l.flatMap λx=>af (ρ x))=l.flatMap λx=>af (j x)
 |[],_=>rfl
 |a::l,h=>by simp only[List.flatMap_cons];rw[h a Ud,ng λx u=>h x (by simp[u])]
theorem Gz{o:Op}{ρ j:Operand->AV}(h:∀x∈bP o,ρ x=j x)(b:Nat)(H:ae):aV P F o ρ b H=aV P F o j b H/\aK o ρ=aK o j/\aD o ρ=aD o j:=by
 cases o with
 |build t ps=>refine⟨?_,rfl,rfl⟩;simp only[aV];rw[A0 h]
 |buildSlice t n ps=>refine⟨?_,rfl,rfl⟩;simp only[aV];rw[A0 h]
 |makeFunc fn first c=>refine⟨?_,rfl,rfl⟩;cases fn<;>simp only[aV];rw[Gy (l:=c.toList) h]
 |slice t x l G m=>
  have B:=h x (by simp[bP]);have O:l.map ρ=l.map j:=by cases l with
   |none=>rfl
   |some y=>simp[h y (by simp[bP])]
  have Y:G.map ρ=G.map j:=by cases G with
   |none=>rfl
   |some y=>simp[h y (by simp[bP])]
  have D:m.map ρ=m.map j:=by cases m with
   |none=>rfl
   |some y=>simp[h y (by simp[bP])]
  exact⟨by simp only[aV];rw[B,O,Y,D],by simp only[aK];rw[B],rfl⟩
 |call c=>
  have M:c.args.toList.map ρ=c.args.toList.map j:=Gy λx B=>h x (by simp only[bP,SC];exact .inr B)
  have D:∀x∈c.args.toList,ρ x=j x:=λx B=>h x (by simp only[bP,SC];exact .inr B)
  have N:aK (.call c) ρ=aK (.call c) j:=by
   simp only[aK];split
   .exact ng D
   .exact ng D
   .rfl
  have S:aD (.call c) ρ=aD (.call c) j:=by
   simp only[aD];split
   .exact ng λx B=>D x (List.mem_of_mem_take B)
   .exact ng D
   .rfl
  refine⟨?_,N,S⟩;simp only[aV];split
  .rw[M]
  .rename_i f Z;rw[h f (by simp only[bP,Z];simp),M]
  .rfl
 |store t a v=>refine⟨by simp only[aV];rw[h a (by simp[bP]),h v (by simp[bP])],by simp only[aK];rw[h a (by simp[bP])],by simp only[aD];rw[h a (by simp[bP])]⟩
 |load t a=>refine⟨by simp only[aV];rw[h a (by simp[bP])],by simp only[aK];rw[h a (by simp[bP])],rfl⟩
 |indexAddr t a v=>refine⟨by simp only[aV];rw[h a (by simp[bP]),h v (by simp[bP])],by simp only[aK];rw[h a (by simp[bP])],rfl⟩
 |pick c x y=>refine⟨by simp only[aV];rw[h c (by simp[bP]),h x (by simp[bP]),h y (by simp[bP])],rfl,rfl⟩
 |binOp op t x y u=>refine⟨by simp only[aV];rw[h x (by simp[bP]),h y (by simp[bP])],rfl,rfl⟩
 |makeSlice t x y=>refine⟨by simp only[aV];rw[h x (by simp[bP]),h y (by simp[bP])],rfl,rfl⟩
 |index t x y=>refine⟨by simp only[aV];rw[h x (by simp[bP]),h y (by simp[bP])],rfl,rfl⟩
 |move x=>refine⟨by simp only[aV];rw[h x (by simp[bP])],rfl,rfl⟩
 |assign x=>refine⟨by simp only[aV];rw[h x (by simp[bP])],rfl,rfl⟩
 |box t x=>refine⟨by simp only[aV];rw[h x (by simp[bP])],rfl,rfl⟩
 |nilCheck x=>refine⟨by simp only[aV];rw[h x (by simp[bP])],rfl,rfl⟩
 |unOp op t x=>refine⟨by simp only[aV];rw[h x (by simp[bP])],rfl,rfl⟩
 |convert s d x=>refine⟨by simp only[aV];rw[h x (by simp[bP])],rfl,rfl⟩
 |fieldAddr s x f=>refine⟨by simp only[aV];rw[h x (by simp[bP])],rfl,rfl⟩
 |field s x f=>refine⟨by simp only[aV];rw[h x (by simp[bP])],rfl,rfl⟩
 |extract x i=>refine⟨by simp only[aV];rw[h x (by simp[bP])],rfl,rfl⟩
 |makeMap t r=>cases r<;>exact⟨rfl,rfl,rfl⟩
 |lookup t m k ok=>exact⟨by simp only[aV];rw[h m (by simp[bP]),h k (by simp[bP])],by simp only[aK];rw[h m (by simp[bP])],rfl⟩
 |mapUpdate t m k x=>exact⟨by simp only[aV];rw[h m (by simp[bP]),h k (by simp[bP]),h x (by simp[bP])],by simp only[aK];rw[h m (by simp[bP])],by simp only[aD];rw[h m (by simp[bP])]⟩
 |range t x=>exact⟨by simp only[aV];rw[h x (by simp[bP])],rfl,rfl⟩
 |next E s=>cases s<;>exact⟨by simp only[aV]<;>rw[h E (by simp[bP])],by simp only[aK];rw[h E (by simp[bP])],by simp only[aD];rw[h E (by simp[bP])]⟩
 |_=>exact⟨rfl,rfl,rfl⟩
def rR(P:Program)(F:TypeId->Option (List TypeId))(o:Op)(ρ:Operand->AV)(b:Nat)(v:AV)(H' K:ae):Prop:=
 ∃K',aV P F o ρ b K=some (.val v K')/\K'.next=K.next/\∀c,K'.get c=if c∈aD o ρ\/c=b then H'.get c else K.get c
theorem rR.same{o:Op}{ρ:Operand->AV}{b:Nat}{v:AV}{H K:ae}(B:K.get b=H.get b)(u:aD o ρ=[])(h:aV P F o ρ b K=some (.val v K)):rR P F o ρ b v H K:=by
 refine⟨K,h,rfl,λc=>?_⟩;rw[u];split
 .rename_i j;rcases j with j|j
  .simp at j
  .rw[j];exact B
 .rfl
theorem rR.new{o:Op}{ρ:Operand->AV}{b:Nat}{v:AV}{H K:ae}{x:Blk}(u:aD o ρ=[])(h:aV P F o ρ b K=some (.val v (K.new b x))):rR P F o ρ b v (H.new b x) K:=by
 refine⟨_,h,rfl,λc=>?_⟩;rw[u,ae.get_new,ae.get_new];by_cases j:b=c
 .rw[if_pos j,if_pos j,if_pos (.inr j.symm)]
 .rw[if_neg j,if_neg];rintro(h1|h1)
  .simp at h1
  .exact j h1.symm
theorem rR.put{o:Op}{ρ:Operand->AV}{b q:Nat}{v:AV}{H K:ae}{x:Blk}(D:K.get b=H.get b)(B:aD o ρ=[q])(h:aV P F o ρ b K=some (.val v (K.put q (some x)))):rR P F o ρ b v (H.put q (some x)) K:=by
 refine⟨_,h,rfl,λd=>?_⟩;rw[B,ae.get_put,ae.get_put];by_cases j:q=d
 .rw[if_pos j,if_pos j,if_pos (.inl (by simp[j]))]
 .rw[if_neg j,if_neg j];split
  .rename_i u;rcases u with u|u
   .simp at u;exact absurd u.symm j
   .rw[u];exact D
  .rfl
theorem rR.sameW{o:Op}{ρ:Operand->AV}{b q:Nat}{v:AV}{H K:ae}(D:K.get b=H.get b)(u:aD o ρ=[q])(B:K.get q=H.get q)(h:aV P F o ρ b K=some (.val v K)):rR P F o ρ b v H K:=by
 refine⟨K,h,rfl,λc=>?_⟩;rw[u];split
 .rename_i j;rcases j with j|j
  .simp at j;rw[j];exact B
  .rw[j];exact D
 .rfl
theorem rS{H K:ae}{n:Nat}{x:AV}(j:∀c∈af x,K.get c=H.get c):fI K n x=fI H n x:=by cases x<;>simp only[fI];rw[j _ (by simp[af])]
theorem Dp{H K:ae}{x:AV}(j:∀c∈fk x,K.get c=H.get c):lG K x=lG H x:=by cases x<;>simp only[lG];rw[j _ (by simp[fk])]
theorem HB{o:Op}{ρ:Operand->AV}{b:Nat}{v:AV}{H H':ae}(h:aV P F o ρ b H=some (.val v H'))(K:ae)(hr:∀c∈aK o ρ,K.get c=H.get c)(O:K.get b=H.get b):rR P F o ρ b v H' K:=by
 cases o with
 |load t a=>
  simp only[aV]at h;obtain⟨N,rfl⟩:=fo h;refine .same O rfl ?_;have:mg P K t (ρ a)=mg P H' t (ρ a):=by simp only[aK]at hr;generalize ρ a=x at hr;cases x<;>simp only[mg];rw[hr _ (by simp[af])]
  simp only[aV,this,N,S0]
 |indexAddr t x ix=>
  simp only[aV]at h;obtain⟨N,rfl⟩:=fo h;refine .same O rfl ?_;have:dZ P (lG K (ρ x)) t (ρ x) (ρ ix)=some v:=by rw[Dp hr];exact N
  simp only[aV,this,S0]
 |slice t x lo hi mx=>
  simp only[aV]at h;split at h
  .cases h
  .rename_i hcnd;obtain⟨N,rfl⟩:=fo h;refine .same O rfl ?_;have:j6 P (lG K (ρ x)) t (ρ x) (lo.map ρ) (hi.map ρ) (mx.map ρ)=some v:=by rw[Dp hr];exact N
   simp only[aV,this,S0];rw[if_neg hcnd]
 |store t a x=>
  simp only[aV]at h;cases S:fW P H t (ρ a) (ρ x)with
  |none=>rw[S]at h;cases h
  |some H1=>
   rw[S]at h;cases h;simp only[aK]at hr;have hst2:=S;unfold fW at S;split at S
   .rename_i c i off cs n ha hcs hn;rw[ha]at hr;have hkc:=hr c (by simp[af]);split at S
    .rename_i y hy;split at S
     .rename_i r hrw;split at S
      .rename_i B;cases S;refine⟨K.put c (some {y with rows:=y.rows.set i (bq r off cs)}),?_,rfl,λd=>?_⟩
       .simp only[aV,fW,ha,hcs,hn,hkc,hy,hrw];rw[if_pos B];rfl
       .have hw:aD (.store t a x) ρ=[c]:=by simp[aD,ha,af]
        rw[hw,ae.get_put,ae.get_put];by_cases Z:c=d
        .rw[if_pos Z,if_pos Z,if_pos (.inl (by simp[Z]))]
        .rw[if_neg Z,if_neg Z];split
         .rename_i Y;rcases Y with Y|Y
          .simp at Y;exact absurd Y.symm Z
          .rw[Y];exact O
         .rfl
      .cases S
     .cases S
    .cases S
   .cases S
 |call c=>
  simp only[aV]at h;split at h
  .rename_i bi E;cases j:bj P H b bi c.argTypes (c.args.toList.map ρ)with
   |none=>rw[j]at h;cases h
   |some r=>
    obtain⟨v0,H1⟩:=r;rw[j]at h;cases h;have fin:∀{K':ae} {u:AV},bj P K b bi c.argTypes (c.args.toList.map ρ)=some (u,K')->aV P F (.call c) ρ b K=some (.val u K'):=λhk=>by simp only[aV,E,hk,S0]
    have wnil:bi≠.append/\bi≠.clear->aD (.call c) ρ=[]:=λhne=>by simp only[aD,E];cases bi<;>first|rfl|exact absurd rfl hne.1|exact absurd rfl hne.2
    have hbi0:=j;unfold bj at j;split at j
    .rename_i s G;split at j
     .rename_i hty;cases j;exact .same O (wnil Ud) (fin (by rw[G];simp only[bj,hty]))
     .cases j
    .rename_i x hne G;have e:H1=H:=by
      split at j
      .rw[T3]at j;obtain⟨n,_,hn⟩:=j;cases hn;rfl
      .cases j;rfl
      .cases j
     subst e;refine .same O (wnil Ud) (fin ?_);rw[G];unfold bj;split
     .rename_i s e1 e2;cases e2;exact absurd rfl (hne s)
     .rename_i x' hne' e1 e2;cases e2;split at j
      .rw[T3]at j;obtain⟨n,hl,hn⟩:=j;cases hn;simp only[hl,S0]
      .cases j;rfl
      .cases j
     .rename_i e1 e2;cases e2
     .rename_i e1 e2;cases e2
     .rename_i e1 e2;cases e2
     .rename_i e1 e2;cases e1
     .rename_i e1 e2 e3 e4 e5 e6;simp_all
    .rename_i s x G;obtain⟨a0,a1,D,h0,N⟩:=oR G;split at j
     .rename_i t tx htt;split at j
      .rename_i e' hu';have hrs:∀c'∈af s,K.get c'=H.get c':=λc' hc'=>hr c' (by simp[aK,E,D,h0,hc'])
       have hrx:∀c'∈af x,K.get c'=H.get c':=λc' hc'=>hr c' (by simp[aK,E,D,N,hc'])
       have red:∀{K':ae} {u:AV},cX P K b t s x=some (u,K')->bj P K b .append c.argTypes (c.args.toList.map ρ)=some (u,K'):=λhk=>by rw[G];simp only[bj,htt,hu',hk]
       unfold cX at j;split at j
       .rename_i e hu;split at j
        .rename_i n by_ z hn hby hz;split at j
         .rename_i l m hl hm;have hl':fI K n s=some l:=by rw[rS hrs];exact hl
          have hm':fI K n x=some m:=by rw[rS hrx];exact hm
          split at j
          .rename_i B;split at j
           .split at j
            .rename_i hm0;cases j;refine .same O (by simp[aD,E,D,h0,af]) (fin (red ?_));simp only[cX,hu,hn,hby,hz,hl',hm'];rw[if_pos B,if_pos hm0]
            .rename_i hm0;cases j;refine .new (by simp[aD,E,D,h0,af]) (fin (red ?_));simp only[cX,hu,hn,hby,hz,hl',hm'];rw[if_pos B,if_neg hm0]
           .split at j
            .rename_i hm0;cases j;refine .same O (by simp[aD,E,D,h0,af]) (fin (red ?_));simp only[cX,hu,hn,hby,hz,hl',hm'];rw[if_pos B,if_pos hm0]
            .rename_i hm0;cases j;refine .new (by simp[aD,E,D,h0,af]) (fin (red ?_));simp only[cX,hu,hn,hby,hz,hl',hm'];rw[if_pos B,if_neg hm0]
           .rename_i b' i k;cases j;have hw:aD (.call c) ρ=[b']:=by simp[aD,E,D,h0,af]
            refine⟨(K.put b' none).new b ⟨n,l++m⟩,fin (red ?_),rfl,λd=>?_⟩
            .simp only[cX,hu,hn,hby,hz,hl',hm'];rw[if_pos B]
            .rw[hw,ae.get_new,ae.get_new,ae.get_put,ae.get_put];by_cases Z:b=d
             .rw[if_pos Z,if_pos Z,if_pos (.inr Z.symm)]
             .rw[if_neg Z,if_neg Z];by_cases hd':b'=d
              .rw[if_pos hd',if_pos hd',if_pos (.inl (by simp[hd']))]
              .rw[if_neg hd',if_neg hd',if_neg];rintro(N|N)
               .simp at N;exact hd' N.symm
               .exact Z N.symm
           .cases j
          .cases j
         .cases j
        .cases j
       .cases j
      .cases j
     .cases j
    .rename_i k a k' c' G;split at j
     .rename_i hk;cases j;exact .same O (wnil Ud) (fin (by rw[G];simp only[bj];rw[if_pos hk]))
     .cases j
    .rename_i k a k' c' G;split at j
     .rename_i hk;cases j;exact .same O (wnil Ud) (fin (by rw[G];simp only[bj];rw[if_pos hk]))
     .cases j
    .rename_i x G;split at j
     .rename_i t htt;cases M:fj P H t x with
      |none=>rw[M]at j;cases j
      |some K1=>
       rw[M]at j;cases j;obtain⟨a0,D,h0⟩:=oQ G;have red:∀{K':ae},fj P K t x=some K'->bj P K b .clear c.argTypes (c.args.toList.map ρ)=some (.tup [],K'):=λhk=>by rw[G];simp only[bj,htt,hk,S0]
       unfold fj at M;split at M
       .rename_i e hu;split at M
        .rename_i n z hn hz;split at M
         .cases M;exact .same O (by simp[aD,E,D,h0,af]) (fin (red (by simp only[fj,hu,hn,hz])))
         .rename_i d i k;split at M
          .rename_i y hy;split at M
           .rename_i B;cases M;have hkd:K.get d=some y:=by rw[hr d (by simp[aK,E,D,h0,af])];exact hy
            have hw:aD (.call c) ρ=[d]:=by simp[aD,E,D,h0,af]
            refine⟨K.put d (some {y with rows:=y.rows.take i++List.replicate k z++y.rows.drop (i+k)}),fin (red ?_),rfl,λq=>?_⟩
            .simp only[fj,hu,hn,hz,hkd];rw[if_pos B]
            .rw[hw,ae.get_put,ae.get_put];by_cases Z:d=q
             .rw[if_pos Z,if_pos Z,if_pos (.inl (by simp[Z]))]
             .rw[if_neg Z,if_neg Z];split
              .rename_i Y;rcases Y with Y|Y
               .simp at Y;exact absurd Y.symm Z
               .rw[Y];exact O
              .rfl
           .cases M
          .cases M
         .cases M
        .cases M
       .cases M
     .cases j
    .cases j
  .split at h<;>cases h
  .cases h
 |alloc t=>
  simp only[aV]at h;split at h
  .rename_i cs hcs;cases h;exact .new rfl (by simp only[aV,hcs])
  .cases h
 |box t x=>
  simp only[aV]at h;split at h
  .rename_i cs hcs;split at h
   .rename_i ho;cases h;exact .new rfl (by simp only[aV,hcs];rw[if_pos ho])
   .cases h
  .cases h
 |buildSlice t len parts=>
  simp only[aV]at h;split at h
  .rename_i e hu;split at h
   .rename_i n z hn hz;split at h
    .rename_i Y;cases hf:eg n (List.replicate len z) (parts.toList.map λp=>(p.1,ρ p.2))with
     |none=>rw[hf]at h;cases h
     |some rows=>rw[hf]at h;cases h;exact .new rfl (by simp only[aV,hu,hn,hz];rw[if_pos Y,hf];rfl)
    .cases h
   .cases h
  .cases h
 |makeSlice t l c=>
  simp only[aV]at h;split at h
  .rename_i e hu;split at h
   .rename_i n by_ z l' c' hn hby hz hl Y;split at h
    .rename_i B;cases h;exact .new rfl (by simp only[aV,hu,hn,hby,hz,hl,Y];rw[if_pos B])
    .cases h
   .cases h
  .cases h
 |makeFunc fn first cap=>
  cases fn<;>simp only[aV]at h<;>(try (cases h;done));split at h
  .rename_i hf;cases h;exact .same O rfl (by simp only[aV];rw[if_pos hf])
  .cases h
 |pick c x y=>
  simp only[aV]at h;split at h
  .rename_i t Y;cases h;exact .same O rfl (by simp only[aV,Y])
  .cases h
 |nilCheck x=>simp only[aV]at h;split at h<;>(try (cases h;done))<;>(rename_i G;cases h;exact .same O rfl (by simp only[aV,G]))
 |extract x i=>
  simp only[aV]at h;split at h
  .rename_i vs hx;obtain⟨N,rfl⟩:=fo h;exact .same O rfl (by simp only[aV,hx,N];rfl)
  .cases h
 |makeMap t r=>
  cases r with
  |none=>simp only[aV]at h;cases h;exact .new rfl rfl
  |some r=>simp[aV]at h
 |lookup t m k ok=>simp only[aV]at h;obtain⟨N,rfl⟩:=fo h;obtain⟨c,x,hm,hx,hK⟩:=xu N;refine .same O rfl ?_;simp only[aV];rw[hK K (by rw[hr c (by simp[aK,hm,af]),hx])];rfl
 |mapUpdate t m k x=>
  simp only[aV]at h;cases hs:eX P H t (ρ m) (ρ k) (ρ x)with
  |none=>rw[hs]at h;cases h
  |some H2=>rw[hs]at h;cases h;obtain⟨c,y,y',hm,hy,rfl,hK⟩:=lK hs;refine .put O (by simp[aD,hm,af]) ?_;simp only[aV];rw[hK K (by rw[hr c (by simp[aK,hm,af]),hy])];rfl
 |range t x=>
  simp only[aV]at h;split at h
  .rename_i s hu hx;cases h;exact .new rfl (by simp only[aV,hu,hx])
  .cases h
 |next it s=>
  cases s with
  |false=>simp[aV]at h
  |true=>
   simp only[aV]at h;cases hs:iq H (ρ it)with
   |none=>rw[hs]at h;cases h
   |some r=>
    obtain⟨v0,H2⟩:=r;rw[hs]at h;cases h;obtain⟨c,y,hm,hy,⟨rfl,hK⟩|⟨y',rfl,hK⟩⟩:=rP hs
    .have Y:=hr c (by simp[aK,hm,af]);refine .sameW (q:=c) O (by simp[aD,hm,af]) Y ?_;simp only[aV];rw[hK K (by rw[Y,hy])];rfl
    .have Y:=hr c (by simp[aK,hm,af]);refine .put O (by simp[aD,hm,af]) ?_;simp only[aV];rw[hK K (by rw[Y,hy])];rfl
 |move x=>simp only[aV]at h;cases h;exact .same O rfl (by simp only[aV])
 |assign x=>simp only[aV]at h;cases h;exact .same O rfl (by simp only[aV])
 |build t ps=>simp only[aV]at h;obtain⟨N,rfl⟩:=fo h;exact .same O rfl (by simp only[aV,N];rfl)
 |binOp op t x y u=>simp only[aV]at h;obtain⟨N,rfl⟩:=fo h;exact .same O rfl (by simp only[aV,N];rfl)
 |unOp op t x=>simp only[aV]at h;obtain⟨N,rfl⟩:=fo h;exact .same O rfl (by simp only[aV,N];rfl)
 |convert s d x=>simp only[aV]at h;obtain⟨N,rfl⟩:=fo h;exact .same O rfl (by simp only[aV,N];rfl)
 |fieldAddr s x f=>simp only[aV]at h;obtain⟨N,rfl⟩:=fo h;exact .same O rfl (by simp only[aV,N];rfl)
 |field s x f=>simp only[aV]at h;obtain⟨N,rfl⟩:=fo h;exact .same O rfl (by simp only[aV,N];rfl)
 |index t x y=>simp only[aV]at h;obtain⟨N,rfl⟩:=fo h;exact .same O rfl (by simp only[aV,N];rfl)
 |_=>simp[aV]at h
theorem xz{o:Op}{ρ:Operand->AV}{b:Nat}{g:FuncId}{args:List AV}{H:ae}(h:aV P F o ρ b H=some (.call g args))(K:ae):aV P F o ρ b K=some (.call g args):=by
 cases o with
 |call c=>
  simp only[aV]at h ⊢;split at h
  .rename_i D _;cases j:bj P H b D c.argTypes (c.args.toList.map ρ)with
   |none=>rw[j]at h;cases h
   |some r=>rw[j]at h;cases h
  .rename_i f G;exact h
  .cases h
 |makeFunc u first B=>cases u<;>simp only[aV]at h<;>(try split at h)<;>simp at h
 |makeMap t r=>cases r<;>simp[aV]at h
 |next E s=>cases s<;>simp[aV]at h
 |_=>
  exfalso;simp only[aV]at h
  repeat' (first|(cases h;done)|(simp at h;done)|split at h)
end
end
def Dq(f:Edge->Nat)(p:Edge->Bool)(k:Nat):∀(l:List Edge) (s:Nat),(l.foldl (λs e=>if p e then s ||| f e else s) s).testBit k=true->s.testBit k=true\/∃e∈l,p e=true/\(f e).testBit k=true
 |[],s,h=>.inl h
 | e::l,s,h=>by
  rw[TL]at h;rcases Dq f p k l _ h with j|⟨u,j,h2⟩
  .split at j
   .rename_i hp;rw[Nat.testBit_or,T6]at j;rcases j with j|j
    .exact .inl j
    .exact .inr ⟨e,Ud,hp,j⟩
   .exact .inl j
  .exact .inr ⟨u,by simp[j],h2⟩
def qI(acc:List Nat)(o:Oper):Nat:=o.after.toList.foldl (λs e=>if Region.binds .any e then s ||| 2^e.on ||| acc.getD e.on 0 else s) 0
def Fv{j:List Nat}{o:Oper}{k:Nat}(h:(qI j o).testBit k=true):∃e∈o.after.toList,Region.binds .any e=true/\(k=e.on\/(j.getD e.on 0).testBit k=true):=by
 have E:qI j o=o.after.toList.foldl (λs e=>if Region.binds .any e then s ||| (2^e.on ||| j.getD e.on 0)else s) 0:=by
  unfold qI;congr 1;funext s e;split
  .rw[Nat.or_assoc]
  .rfl
 rw[E]at h;rcases Dq (λe=>2^e.on ||| j.getD e.on 0) (Region.binds .any) k _ _ h with B|⟨e,B,G,u⟩
 .simp at B
 .refine⟨e,B,G,?_⟩;rw[Nat.testBit_or,T6]at u;rcases u with u|u
  .rw[Nat.testBit_two_pow]at u;exact .inl (by have D:=u;simp at D;exact D.symm)
  .exact .inr u
def xA:∀(l:List Oper) (u:List Nat),u.length+l.length=(bS l u).length/\(∀i,i<u.length->(bS l u).getD i 0=u.getD i 0)/\
  ∀(i:Nat) (o:Oper),l[i]? =some o->∃B,(bS l u).getD (u.length+i) 0=qI B o/\(∀j,B.getD j 0=(bS l u).getD j 0\/B.getD j 0=0)/\(∀j,u.length+i<=j->B.getD j 0=0)
 |[],u=>by simp[bS]
 | o::l,u=>by
  obtain⟨S,h2,M⟩:=xA l (u++[qI u o]);have N:bS (o::l) u=bS l (u++[qI u o]):=rfl;rw[N];simp only[SD,List.length_singleton]at S h2 M;have D:∀i,i<u.length->(bS l (u++[qI u o])).getD i 0=u.getD i 0:=λi O=>by rw[h2 i Ua];simp[List.getD,SE O]
  refine⟨by simp;omega,D,λi q G=>?_⟩
  match i with
  |0=>
   simp only[List.getElem?_cons_zero,SF]at G;subst G;refine⟨u,?_,λj=>?_,λj E=>?_⟩
   .rw[T2,h2 u.length Ua];simp[List.getD]
   .rcases Fn j u.length with E|E
    .exact .inl (D j E).symm
    .exact .inr (by simp[List.getD,LE E])
   .simp[List.getD,LE (show u.length<=j by omega)]
  |i+1=>simp only[TJ]at G;obtain⟨B,g1,Z,Y⟩:=M i q G;exact⟨B,by rw[<-g1];congr 1;omega,Z,λj E=>Y j Ua⟩
def HC{ops:Array Oper}{i:Nat}{o:Oper}(N:ops[i]? =some o){k:Nat}(h:((bS ops.toList []).getD i 0).testBit k=true):
  ∃e∈o.after.toList,Region.binds .any e=true/\(k=e.on\/(e.on<i/\((bS ops.toList []).getD e.on 0).testBit k=true)):=by
 obtain⟨_,_,O⟩:=xA ops.toList [];obtain⟨M,G,S,E⟩:=O i o (by rw[SY];exact N);simp only[S2,Tm]at G E;rw[G]at h;obtain⟨e,e1,e2,j⟩:=Fv h;refine⟨e,e1,e2,?_⟩;rcases j with j|j
 .exact .inl j
 .right;rcases Fn e.on i with u|B
  .refine⟨u,?_⟩;rcases S e.on with D|D
   .rw[D]at j;exact j
   .rw[D]at j;simp at j
  .rw[E e.on B]at j;simp at j
def BU(ops:Array Oper)(L:Nat->Bool):Prop:=∀(i:Nat) (o:Oper),ops[i]? =some o->L i=true->∀e∈o.after.toList,Region.binds .any e=true->L e.on=true
def BU.ahead{ops:Array Oper}{L:Nat->Bool}(O:BU ops L):∀(i:Nat) (o:Oper),ops[i]? =some o->(∀e∈o.after.toList,Region.binds .any e=true->L e.on=true)->∀k,((bS ops.toList []).getD i 0).testBit k=true->L k=true:=by
 intro i
 induction i using Nat.strongRecOn with
 |_ i G=>
  intro o E N k M;obtain⟨e,e1,e2,e3⟩:=HC E M;have B:=N e e1 e2;rcases e3 with rfl|⟨D,Z⟩
  .exact B
  .have u:e.on<ops.size:=by have:i<ops.size:=(TK.1 E).1;omega
   have j:ops[e.on]? =some ops[e.on]:=S1 u;exact G e.on D _ j (λe' Y S=>O e.on _ j B e' Y S) k Z
def cz(p:Nat->Bool):Nat->Option Nat
 |0=>none
 |k+1=>if p k then some k else cz p k
def jC{p q:Nat->Bool}:∀{k:Nat},(∀i,i<k->p i=q i)->cz p k=cz q k
 |0,_=>rfl
 | k+1,h=>by unfold cz;rw[h k Ua,jC λi j=>h i Ua]
def qJ{p:Nat->Bool}{k m:Nat}(j:k<=m)(h:∀i,k<=i->i<m->p i=false):cz p m=cz p k:=by
 induction m with
 |zero=>rw[show k=0 by omega]
 |succ m u=>
  rcases TQ j with rfl|B
  .rfl
  .rw[cz,h m Ua Ua,if_neg Ud];exact u Ua λi D E=>h i D Ua
def np{p L:Nat->Bool}{n i:Nat}(M:i<n)(B:L i=false)(h:∀j,j<n->j≠i->p j=true->(j<i->L j=true)/\(i<j->L j=false)):
  cz (λj=>L j&&p j) n=cz p i:=by
 rw[qJ (k:=i) Ua]
 .refine jC λj D=>?_
  cases hp:p j with
  |false=>simp
  |true=>simp[(h j Ua Ua hp).1 D]
 .intro j G E;rcases TQ G with rfl|u
  .simp[B]
  .cases hp:p j with
   |false=>simp
   |true=>simp[(h j E Ua hp).2 u]
def tN{p L:Nat->Bool}{n i:Nat}(E:i<n)(B:L i=false)(u:p i=true)(h:∀j,j<n->j≠i->p j=true->(i<j->L j=false)):
  cz (λj=>(if j=i then true else L j)&&p j) n=some i:=by
 rw[qJ (k:=i+1) Ua]
 .simp[cz,u]
 .intro j G D;cases hp:p j with
  |false=>simp
  |true=>simp[h j D Ua hp Ua,show¬j=i by omega]
def lM{p L:Nat->Bool}{n i:Nat}(u:p i=false):cz (λj=>(if j=i then true else L j)&&p j) n=cz (λj=>L j&&p j) n:=by
 refine jC λj _=>?_
 by_cases B:j=i
 .subst B;simp[u]
 .simp[B]
section
section
variable (P:Program) (F:TypeId->Option (List TypeId)) (call:FuncId->List AV->ae->Option (AV×ae)) (ops:Array Oper) (base:Nat) (τ0:List AV) (H0:ae)
def eI:Nat->List AV×ae
 |0=>(τ0,H0)
 | i+1=>match bJ P F call ops base i ((bS ops.toList []).getD i 0) (eI i).1 (eI i).2 with
  |some (τ,H,_)=>(τ,H)
  |none=>eI i
def fZ(i:Nat):Option pR:=
 match bJ P F call ops base i ((bS ops.toList []).getD i 0) (eI P F call ops base τ0 H0 i).1 (eI P F call ops base τ0 H0 i).2 with
 |some (_,_,r)=>r
 |none=>none
structure kK:Prop where
 step:∀i,i<ops.size->bJ P F call ops base i ((bS ops.toList []).getD i 0) (eI P F call ops base τ0 H0 i).1 (eI P F call ops base τ0 H0 i).2 =
  some ((eI P F call ops base τ0 H0 (i+1)).1,(eI P F call ops base τ0 H0 (i+1)).2,fZ P F call ops base τ0 H0 i)
 free:∀i j x r,j<i->i<ops.size->fZ P F call ops base τ0 H0 j=some x->fZ P F call ops base τ0 H0 i=some r->((bS ops.toList []).getD i 0).testBit j=true\/kz x r=false
end
section
variable {P:Program} {F:TypeId->Option (List TypeId)} {call:FuncId->List AV->ae->Option (AV×ae)} {ops:Array Oper} {base:Nat} {τ0:List AV} {H0:ae}
theorem Dr{i j:Nat}{B u:List AV}{H H':ae}{x:pR}(h:bJ P F call ops base i j B H=some (u,H',some x)):x.op=i:=by
 unfold bJ at h
 repeat' (first|(cases h;rfl)|(cases h;done)|split at h)
theorem IX:∀(m k:Nat) (O E:List pR) (u:List AV) (K:ae),
  ey P F call ops base (bS ops.toList []) (List.range' k m) (eI P F call ops base τ0 H0 k).1 (eI P F call ops base τ0 H0 k).2 O=some (u,K,E)->(∀j x,j<k->fZ P F call ops base τ0 H0 j=some x->x∈O/\x.op=j)->
  (∀i,k<=i->i<k+m->bJ P F call ops base i ((bS ops.toList []).getD i 0) (eI P F call ops base τ0 H0 i).1 (eI P F call ops base τ0 H0 i).2 =
   some ((eI P F call ops base τ0 H0 (i+1)).1,(eI P F call ops base τ0 H0 (i+1)).2,fZ P F call ops base τ0 H0 i))/\
  (∀i j x r,k<=i->i<k+m->j<i->fZ P F call ops base τ0 H0 j=some x->fZ P F call ops base τ0 H0 i=some r->((bS ops.toList []).getD i 0).testBit j=true\/kz x r=false)/\
  (u,K)=eI P F call ops base τ0 H0 (k+m)
 | 0,k,O,E,u,K,h,_=>by simp only[List.range'_zero,ey,SF,Prod.mk.injEq]at h;obtain⟨rfl,rfl,rfl⟩:=h;exact⟨λi h1 h2=>by omega,λi j x r h1 h2=>by omega,rfl⟩
 | m+1,k,O,E,u,K,h,hrs=>by
  rw[List.range'_succ]at h;unfold ey at h;cases Y:bJ P F call ops base k ((bS ops.toList []).getD k 0) (eI P F call ops base τ0 H0 k).1 (eI P F call ops base τ0 H0 k).2 with
  |none=>rw[Y]at h;cases h
  |some q=>
   obtain⟨Z,H1,r⟩:=q;rw[Y]at h;have e1:eI P F call ops base τ0 H0 (k+1)=(Z,H1):=by rw[eI,Y]
   have e2:fZ P F call ops base τ0 H0 k=r:=by rw[fZ,Y]
   have M:∀D,ey P F call ops base (bS ops.toList []) (List.range' (k+1) m) Z H1 D=some (u,K,E)->(∀x,r=some x->x∈D)->(∀x∈O,x∈D)->
     (∀j x,j<k->fZ P F call ops base τ0 H0 j=some x->∀y,r=some y->((bS ops.toList []).getD k 0).testBit j=true\/kz x y=false)->_:=λD h2 hr2 hsub S=>by
    obtain⟨a1,a2,a3⟩:=IX m (k+1) D E u K (by rw[e1];exact h2) (λj x hj B=>by
     rcases TQ (Nat.le_of_lt_succ hj)with rfl|G
     .rw[e2]at B;refine⟨hr2 x B,?_⟩;rw[B]at Y;exact Dr Y
     .obtain⟨b1,b2⟩:=hrs j x G B;exact⟨hsub x b1,b2⟩)
    refine(⟨λi h1 h2=>?_,λi j x y h1 h2 hji B hy=>?_,by rw[a3];congr 1;omega⟩:(∀i,k<=i->i<k+(m+1)->bJ P F call ops base i ((bS ops.toList []).getD i 0) (eI P F call ops base τ0 H0 i).1 (eI P F call ops base τ0 H0 i).2 =
     some ((eI P F call ops base τ0 H0 (i+1)).1,(eI P F call ops base τ0 H0 (i+1)).2,fZ P F call ops base τ0 H0 i))/\
     (∀i j x r,k<=i->i<k+(m+1)->j<i->fZ P F call ops base τ0 H0 j=some x->fZ P F call ops base τ0 H0 i=some r->((bS ops.toList []).getD i 0).testBit j=true\/kz x r=false)/\
     (u,K)=eI P F call ops base τ0 H0 (k+(m+1)))
    .rcases TQ h1 with rfl|G
     .rw[Y,e1,e2]
     .exact a1 i G Ua
    .rcases TQ h1 with rfl|G
     .rw[e2]at hy;exact S j x hji B y hy
     .exact a2 i j x y G Ua hji B hy
   cases r with
   |none=>exact M O h Ud (λx B=>B) Ud
   |some y=>
    simp only[]at h;split at h
    .rename_i N;refine M (y::O) h Ud (λx B=>by simp[B]) (λj x hj B y' hy'=>?_)
     cases hy';rw[SM]at N;obtain⟨b1,b2⟩:=hrs j x hj B;have:=N x b1;rw[b2]at this;simpa using this
    .cases h
end
end
section
theorem bn.sig{w:World}{σ σ':bE}{T:Nat->Prop}(hm:σ'.map=σ.map){a:AV}{v:Value}(h:bn w σ T a v):bn w σ' T a v:=by
 have e:∀{b D},σ.map b=some D->σ'.map b=some D:=λhb=>by rw[hm];exact hb
 induction h with
 |int k n=>exact .int k n
 |bool b=>exact .bool b
 |str s=>exact .str s
 |nilp=>exact .nilp
 |ptr b i M D h hp=>exact .ptr b i M D (e h) hp
 |mp b D h Z Y=>exact .mp b D (e h) Z Y
 |it b D h Z Y=>exact .it b D (e h) Z Y
 |pptr j i M b o sz G h E=>exact .pptr j i M b o sz G E
 |nils=>exact .nils
 |emp a=>exact .emp a
 |sl b i n D a B h hp S u ha=>exact .sl b i n D a B (e h) hp S u ha
 |lst0 a B u=>exact .lst0 a B u
 |lst j b o sz B G S u h E=>exact .lst j b o sz B G S u E
 |agg O N G h E=>exact .agg O N G E
 |tup O N G h E=>exact .tup O N G E
 |fn f O N G h E=>exact .fn f O N G E
 |nilf=>exact .nilf
 |junk v=>exact .junk v
theorem tI.sig{w:World}{σ σ':bE}{T:Nat->Prop}(D:σ'.map=σ.map){x:Blk}{B:cq}{cs:Array Value}{e:TypeId}(h:tI w σ T x B cs e):tI w σ' T x B cs e:=
 ⟨h.size,h.block,h.even,h.room,λi r j a u M G E=>(h.rep i r j a u M G E).sig D⟩
theorem jB.sig{w:World}{σ σ':bE}{T:Nat->Prop}(u:σ'.map=σ.map){x:Blk}{j:cq}{cs:Array Value}{e:TypeId}(h:jB w σ T x j cs e):jB w σ' T x j cs e:=⟨λhp=>(h.1 hp).sig u,h.2⟩
def bE.part(σ:bE)(K Hc:ae):bE:=⟨σ.map,λc=>aQ σ K c/\¬zR σ Hc c⟩
section
variable {w w':World} {σ σ':bE} {K Hc H1 K':ae}
theorem zR.sub(j:∀c x,Hc.get c=some x->K.get c=some x){d:Nat}(h:zR σ Hc d):zR σ K d:=by obtain⟨b,x,u,E,D,B⟩:=h;exact⟨b,x,u,j b x E,D,B⟩
theorem rT(j:∀c x,Hc.get c=some x->K.get c=some x):aQ (σ.part K Hc) Hc=aQ σ K:=by
 funext d;apply propext;constructor
 .rintro(h|h)
  .exact h.1
  .exact .inr (zR.sub j h)
 .intro h;by_cases u:zR σ Hc d
  .exact .inr u
  .exact .inl ⟨h,u⟩
theorem bv.part(B:bv w σ K)(j:∀c x,Hc.get c=some x->K.get c=some x)(S:K.next<=Hc.next):bv w (σ.part K Hc) Hc:=by
 refine⟨λb u M=>SW (B.named b u M) S,B.lt,λb x M=>?_,λc N=>⟨?_,N.2⟩,λb b' x O u G E D h3 Z Y=>B.inj b b' x O u G (j _ _ E) (j _ _ D) h3 Z Y,by rw[rT j];exact B.glob⟩
 .obtain⟨u,cs,e,E,D⟩:=B.live b x (j b x M);rw[rT j];exact⟨u,cs,e,E,jB.sig (σ:=σ) (σ':=σ.part K Hc) rfl D⟩
 .rcases N.1 with h|⟨b,x,u,E,D,rfl⟩
  .exact(B.apart c h).1
  .exact B.lt b u D
theorem bv.whole(hW:bv w σ K)(hsub:∀c x,Hc.get c=some x->K.get c=some x)(hn:Hc.next=K.next)(M:bv w' σ' H1)(hE:eH w (σ.part K Hc) (aQ (σ.part K Hc) Hc) w' σ' (aQ σ' H1))
  (hdom:∀c,c<Hc.next->Hc.get c=none->H1.get c=none) (hK':∀c,K'.get c=if Hc.get c=none/\c<K.next then K.get c else H1.get c) (hn':H1.next<=K'.next) :
  bv w' ⟨σ'.map,σ.fr⟩ K'/\eH w σ (aQ σ K) w' ⟨σ'.map,σ.fr⟩ (aQ ⟨σ'.map,σ.fr⟩ K')/\aQ ⟨σ'.map,σ.fr⟩ K'=aQ σ' H1:=by
 have hfr:∀c,σ'.fr c↔(aQ σ K c/\¬zR σ Hc c):=λc=>by rw[hE.eqfr];exact Iff.rfl
 have u:∀b j,σ.map b=some j->σ'.map b=some j:=λb j h=>hE.sig b j h
 have D:∀b x,Hc.get b=none->K.get b=some x->∃j,σ.map b=some j/\σ'.fr j.block:=λb x h0 hx=>by obtain⟨j,cs,e,N,S⟩:=hW.live b x hx;refine⟨j,N,(hfr _).2 ⟨.inr ⟨b,x,j,hx,N,rfl⟩,?_⟩⟩;rintro⟨b2,x2,pl2,B,g2,Y⟩;have:=hW.inj b2 b x2 x pl2 j (hsub _ _ B) hx g2 N Y;subst this;rw[h0]at B;cases B
 have E:∀b x,K'.get b=some x->(Hc.get b=none/\b<K.next/\K.get b=some x)\/H1.get b=some x:=λb x hx=>by
  rw[hK']at hx;split at hx
  .rename_i O;exact .inl ⟨O.1,O.2,hx⟩
  .exact .inr hx
 have frK:∀c,σ.fr c->σ'.fr c:=λc O=>(hfr c).2 ⟨.inl O,λht=>(hW.apart c O).2 (zR.sub hsub ht)⟩
 have G:aQ ⟨σ'.map,σ.fr⟩ K'=aQ σ' H1:=by
  funext d;apply propext;constructor
  .rintro(h|⟨b,x,j,N,S,rfl⟩)
   .exact .inl (frK d h)
   .rcases E b x N with⟨B,g2,Y⟩|B
    .obtain⟨Z,e1,e2⟩:=D b x B Y;have h2':σ'.map b=some j:=S;rw[u b Z e1]at h2';cases h2';exact .inl e2
    .exact .inr ⟨b,x,j,B,S,rfl⟩
  .rintro(h|⟨b,x,j,N,S,rfl⟩)
   .obtain⟨h3,h4⟩:=(hfr d).1 h;rcases h3 with h3|⟨b,x,j,B,g2,Y⟩
    .exact .inl h3
    .have h0:Hc.get b=none:=by
      cases hg:Hc.get b with
      |none=>rfl
      |some y=>exact absurd ⟨b,y,j,hg,g2,Y⟩ h4
     exact .inr ⟨b,x,j,by rw[hK',if_pos ⟨h0,hW.named b j g2⟩];exact B,u b j g2,Y⟩
   .refine .inr ⟨b,x,j,?_,S,rfl⟩;rw[hK',if_neg]
    .exact N
    .rintro⟨h3,h4⟩;rw[hdom b Ua h3]at N;cases N
 have hE2:eH w σ (aQ σ K) w' ⟨σ'.map,σ.fr⟩ (aQ ⟨σ'.map,σ.fr⟩ K'):=by rw[G];have ho:=rT (σ:=σ) hsub;exact⟨hE.os,hE.tape,hE.output,hE.size,λc O hT=>hE.keep c O (by rw[ho];exact hT),hE.shape,u,rfl,λc O=>hE.frame c ((hfr c).1 (frK c O)),λc O=>by have:=hE.own c O;rwa [ho]at this⟩
 refine⟨⟨λb j hb=>SW (M.named b j hb) hn',M.lt,λb x hx=>?_,λc O=>⟨?_,?_⟩,?_,by rw[G];exact M.glob⟩,hE2,G⟩
 .rcases E b x hx with⟨B,g2,Y⟩|B
  .obtain⟨j,cs,e,N,S⟩:=hW.live b x Y;obtain⟨Z,e1,e2⟩:=D b x B Y;have h1':σ.map b=some j:=N;rw[e1]at h1';cases h1';refine⟨j,cs,e,u b j e1,?_⟩;exact S.mono hE2 (hE.frame _ ((hfr _).1 e2))
  .obtain⟨j,cs,e,N,S⟩:=M.live b x B;rw[G];exact⟨j,cs,e,N,jB.sig (σ:=σ') (σ':=⟨σ'.map,σ.fr⟩) rfl S⟩
 .have:=(hW.apart c O).1;have:=hE.size;omega
 .rintro⟨b,x,j,N,S,h3⟩;rcases E b x N with⟨B,g2,Y⟩|B
  .obtain⟨Z,e1,e2⟩:=D b x B Y;have h2':σ'.map b=some j:=S;rw[u b Z e1]at h2';cases h2';exact(hW.apart c O).2 ⟨b,x,j,Y,e1,h3⟩
  .exact(M.apart c (frK c O)).2 ⟨b,x,j,B,S,h3⟩
 .intro b b' x x' j pl' N S h3 h4 h5;have h3':σ'.map b=some j:=h3;have h4':σ'.map b'=some pl':=h4;rcases E b x N with⟨B,g2,Y⟩|B
  .obtain⟨Z,e1,e2⟩:=D b x B Y;rw[u b Z e1]at h3';cases h3';rcases E b' x' S with⟨k1,k2,k3⟩|k1
   .obtain⟨pl1,f1,f2⟩:=D b' x' k1 k3;rw[u b' pl1 f1]at h4';cases h4';exact hW.inj b b' x x' j pl' Y k3 e1 f1 h5
   .exact absurd ⟨b',x',pl',k1,h4,h5.symm⟩ (M.apart _ e2).2
  .rcases E b' x' S with⟨k1,k2,k3⟩|k1
   .obtain⟨pl1,f1,f2⟩:=D b' x' k1 k3;rw[u b' pl1 f1]at h4';cases h4';exact absurd ⟨b,x,j,B,h3,h5⟩ (M.apart _ f2).2
   .exact M.inj b b' x x' j pl' B k1 h3 h4 h5
end
end
section
def hZ(ops:Array Oper)(o:Oper):List Tmp:=
 o.dst.toList++(bP o.op).filterMap (fun|.tmp t=>some t|_=>none)++(match o.guard with|none=>[]|some (j,_)=>((ops[j]?).bind (·.dst)).toList)
def lN(ops:Array Oper):Prop:=∀(i j:Nat) (oi oj:Oper),j<i->ops[i]? =some oi->ops[j]? =some oj->
 ((bS ops.toList []).getD i 0).testBit j=true\/((∀t,oj.dst=some t->t∉hZ ops oi)/\(∀t,oi.dst=some t->t∉hZ ops oj))
def wr(ops:Array Oper)(t:Tmp)(i:Nat):Bool:=match ops[i]? with|some o=>o.dst==some t|none=>false
def cT(r:Option pR)(c:Nat):Bool:=match r with
 |none=>false
 |some x=>x.writes.contains c||x.made.contains c||(x.isCall&&decide (x.lo<=c)&&decide (c<x.hi))
theorem qK{r:Option pR}{c:Nat}:cT r c=true↔touched r c:=by
 cases r with
 |none=>simp[cT,touched]
 |some x=>simp[cT,touched,or_assoc,and_assoc]
def gT(r:Option pR):Bool:=match r with|none=>false|some x=>x.isCall
section
variable {P:Program} {F:TypeId->Option (List TypeId)} {call:FuncId->List AV->ae->Option (AV×ae)} {ops:Array Oper} {base:Nat} {τ0:List AV} {H0:ae}
theorem Ds{i u:Nat}{B j:List AV}{H H':ae}{r:Option pR}(h:bJ P F call ops base i u B H=some (j,H',r)):∃o v,ops[i]? =some o/\j=fT B o.dst v:=by
 unfold bJ at h;split at h
 .cases h
 .rename_i o D;refine⟨o,?_⟩
  repeat' (first|(cases h;exact⟨_,D,rfl⟩)|(cases h;done)|split at h)
structure dx(P:Program)(F:TypeId->Option (List TypeId))(call:FuncId->List AV->ae->Option (AV×ae))(ops:Array Oper)(base:Nat)(τ0:List AV)(H0:ae):Prop where
 bd:∀i,i<=ops.size->Bd (eI P F call ops base τ0 H0 i).2
 le:∀i,i<=ops.size->H0.next<=(eI P F call ops base τ0 H0 i).2.next
 fresh:∀i j,i<=j->j<ops.size->(eI P F call ops base τ0 H0 i).2.get (base+j)=none
 len:∀i,i<=ops.size->(eI P F call ops base τ0 H0 i).1.length=τ0.length
 chg:∀i,i<ops.size->MR base i (eI P F call ops base τ0 H0 i).2 (eI P F call ops base τ0 H0 (i+1)).2 (fZ P F call ops base τ0 H0 i)
theorem HD(G:∀f args H v H',Bd H->call f args H=some (v,H')->vc H H')(D:kK P F call ops base τ0 H0)(N:Bd H0)(hn:base+ops.size=H0.next)(M:∀j,j<ops.size->H0.get (base+j)=none):dx P F call ops base τ0 H0:=by
 have u:∀i,i<=ops.size->Bd (eI P F call ops base τ0 H0 i).2/\H0.next<=(eI P F call ops base τ0 H0 i).2.next/\(∀j,i<=j->j<ops.size->(eI P F call ops base τ0 H0 i).2.get (base+j)=none)/\(eI P F call ops base τ0 H0 i).1.length=τ0.length:=by
  intro i
  induction i with
  |zero=>intro _;exact⟨N,Fd _,λj _ hj=>M j hj,rfl⟩
  |succ i Z=>intro B;obtain⟨Y,a2,a3,a4⟩:=Z Ua;have E:=D.step i Ua;have d:=iG G Y Ua E;obtain⟨o,v,_,hv⟩:=Ds E;refine⟨d.bd Y,SK a2 d.next,λj S O=>d.dom _ Ua Ua (a3 j Ua O),?_⟩;rw[hv,<-a4];cases o.dst<;>simp[fT]
 exact⟨λi B=>(u i B).1,λi B=>(u i B).2.1,λi j S O=>(u i Ua).2.2.1 j S O,λi B=>(u i B).2.2.2,λi B=>iG G (u i Ua).1 (by have:=(u i Ua).2.1;omega) (D.step i B)⟩
def nq(P:Program)(F:TypeId->Option (List TypeId))(call:FuncId->List AV->ae->Option (AV×ae))(ops:Array Oper)(base:Nat)(τ0:List AV)(H0:ae)(L:Nat->Bool)(t:Tmp):Option AV:=
 match cz (λj=>L j&&wr ops t j) ops.size with
 |some j=>(eI P F call ops base τ0 H0 (j+1)).1[t]?
 |none=>τ0[t]?
def hget(P:Program)(F:TypeId->Option (List TypeId))(call:FuncId->List AV->ae->Option (AV×ae))(ops:Array Oper)(base:Nat)(τ0:List AV)(H0:ae)(L:Nat->Bool)(c:Nat):Option Blk:=
 match cz (λj=>L j&&cT (fZ P F call ops base τ0 H0 j) c) ops.size with
 |some j=>(eI P F call ops base τ0 H0 (j+1)).2.get c
 |none=>H0.get c
def BV(P:Program)(F:TypeId->Option (List TypeId))(call:FuncId->List AV->ae->Option (AV×ae))(ops:Array Oper)(base:Nat)(τ0:List AV)(H0:ae)(L:Nat->Bool):Nat:=
 match cz (λj=>L j&&gT (fZ P F call ops base τ0 H0 j)) ops.size with
 |some j=>(eI P F call ops base τ0 H0 (j+1)).2.next
 |none=>H0.next
theorem Lq{j:List AV}{d:Option Tmp}{v:AV}{t:Tmp}(h:(d==some t)=false):(fT j d v)[t]? =j[t]? :=by
 cases d with
 |none=>rfl
 |some d=>
  have:d≠t:=by simpa using h
  simp only[fT,SS];rw[if_neg this]
theorem Fw(u:kK P F call ops base τ0 H0)(t:Tmp):∀k,k<=ops.size->(eI P F call ops base τ0 H0 k).1[t]? =match cz (wr ops t) k with|some j=>(eI P F call ops base τ0 H0 (j+1)).1[t]?|none=>τ0[t]?
 |0,_=>rfl
 | k+1,hk=>by
  unfold cz;cases B:wr ops t k with
  |true=>simp
  |false=>simp only[SO,if_false];rw[<-Fw u t k Ua];obtain⟨o,v,E,D⟩:=Ds (u.step k Ua);rw[D];simp only[wr,E]at B;exact Lq B
theorem Fx(u:kK P F call ops base τ0 H0)(B:dx P F call ops base τ0 H0)(c:Nat):∀k,k<=ops.size->(eI P F call ops base τ0 H0 k).2.get c=match cz (λj=>cT (fZ P F call ops base τ0 H0 j) c) k with|some j=>(eI P F call ops base τ0 H0 (j+1)).2.get c|none=>H0.get c
 |0,_=>rfl
 | k+1,hk=>by
  unfold cz;cases D:cT (fZ P F call ops base τ0 H0 k) c with
  |true=>simp
  |false=>simp only[SO,if_false];rw[<-Fx u B c k Ua];exact(B.chg k Ua).keep (B.bd k Ua) c (λht=>by rw[qK.2 ht]at D;cases D)
theorem zX{i j:Nat}{D u:List AV}{H H':ae}{r:Option pR}(h:bJ P F call ops base i j D H=some (u,H',r))(E:gT r=false):H'.next=H.next:=by
 unfold bJ at h;split at h
 .cases h
 .split at h
  .split at h
   .rename_i B;cases h;have:=xv B;exact this
   .split at h
    .cases h;simp[gT]at E
    .cases h
   .cases h
  .cases h;rfl
  .cases h
theorem Fy(u:kK P F call ops base τ0 H0):∀k,k<=ops.size->(eI P F call ops base τ0 H0 k).2.next=match cz (λj=>gT (fZ P F call ops base τ0 H0 j)) k with|some j=>(eI P F call ops base τ0 H0 (j+1)).2.next|none=>H0.next
 |0,_=>rfl
 | k+1,hk=>by
  unfold cz;cases B:gT (fZ P F call ops base τ0 H0 k)with
  |true=>simp
  |false=>simp only[SO,if_false];rw[<-Fy u k Ua];exact zX (u.step k Ua) B
structure Next(ops:Array Oper)(L:Nat->Bool)(i:Nat):Prop where
 lt:i<ops.size
 not:L i=false
 closed:BU ops L
 edges:∀(o:Oper),ops[i]? =some o->∀e∈o.after.toList,Region.binds .any e=true->L e.on=true
theorem Next.before{L:Nat->Bool}{i:Nat}(h:Next ops L i){j:Nat}(u:((bS ops.toList []).getD i 0).testBit j=true):L j=true:=
 h.closed.ahead i _ (S1 h.lt) (h.edges _ (S1 h.lt)) j u
theorem Next.behind{L:Nat->Bool}{i:Nat}(h:Next ops L i){j:Nat}(u:j<ops.size)(B:((bS ops.toList []).getD j 0).testBit i=true):L j=false:=by
 cases D:L j with
 |false=>rfl
 |true=>have:=h.closed.ahead j _ (S1 u) (h.closed j _ (S1 u) D) i B;rw[h.not]at this;cases this
theorem Lr(N:kK P F call ops base τ0 H0)(G:lN ops){L:Nat->Bool}{i:Nat}(E:Next ops L i){o:Oper}(S:ops[i]? =some o){t:Tmp}(ht:t∈hZ ops o):
  nq P F call ops base τ0 H0 L t=(eI P F call ops base τ0 H0 i).1[t]? :=by
 have M:∀j,j<ops.size->j≠i->wr ops t j=true->(j<i->L j=true)/\(i<j->L j=false):=λj Y hne O=>by
  have u:ops[j]? =some ops[j]:=S1 Y;simp only[wr,u]at O;have Z:(ops[j]).dst=some t:=by simpa using O
  refine⟨λB=>?_,λB=>?_⟩
  .rcases G i j o _ B S u with D|⟨D,_⟩
   .exact E.before D
   .exact absurd ht (D t Z)
  .rcases G j i _ o B u S with D|⟨_,D⟩
   .exact E.behind Y D
   .exact absurd ht (D t Z)
 rw[Fw N t i (by have:=E.lt;omega),nq,np E.lt E.not M]
end
end
section
theorem kL{l m:List Nat}(h:apart l m=true){x:Nat}(j:x∈l):x∉m:=by unfold apart at h;rw[SM]at h;have:=h x j;simpa using this
structure PE(x y:pR):Prop where
 wr:∀c∈x.writes,c∉y.reads
 ww:∀c∈x.writes,c∉y.writes
 rw:∀c∈x.reads,c∉y.writes
 mr:∀c∈x.made,c∉y.reads
 mw:∀c∈x.made,c∉y.writes
 cc:x.isCall=true->y.isCall=false
 cw:x.isCall=true->∀c,c∉y.writes
 cr:x.isCall=true->∀c∈y.reads,¬(x.lo<=c/\c<x.hi)
 wc:y.isCall=true->∀c,c∉x.writes
theorem eO{x y:pR}(h:kz x y=false):PE x y:=by
 unfold kz at h;simp only[Bool.or_eq_false_iff,Bool.not_eq_false',SN,Bool.and_eq_false_iff]at h;obtain⟨⟨⟨⟨⟨⟨N,M⟩,h3⟩,h4⟩,h5⟩,j⟩,B⟩:=h;refine⟨λc u=>kL N u,λc u=>kL M u,λc u=>kL h3 u,λc u=>kL h4 u,λc u=>kL h5 u,λD=>?_,λD c u=>?_,λD c u G=>?_,λE c u=>?_⟩
 .rcases j with j|⟨⟨j,_⟩,_⟩
  .rw[D]at j;cases j
  .exact j
 .rcases j with j|⟨⟨_,j⟩,_⟩
  .rw[D]at j;cases j
  .simp at j;rw[j]at u;simp at u
 .rcases j with j|⟨_,j⟩
  .rw[D]at j;cases j
  .rw[List.any_eq_false]at j;exact j c u (by simpa using G)
 .rcases B with B|B
  .rw[E]at B;cases B
  .simp at B;rw[B]at u;simp at u
section
variable {P:Program} {F:TypeId->Option (List TypeId)} {call:FuncId->List AV->ae->Option (AV×ae)} {ops:Array Oper} {base:Nat} {τ0:List AV} {H0:ae}
theorem A3(u:dx P F call ops base τ0 H0){i:Nat}:∀{j:Nat},i<=j->j<=ops.size->(eI P F call ops base τ0 H0 i).2.next<=(eI P F call ops base τ0 H0 j).2.next
 |0,h1,_=>by rw[show i=0 by omega];exact Fd _
 | j+1,h1,h2=>by
  rcases TQ h1 with rfl|B
  .exact Fd _
  .exact SK (A3 u (show i<=j by omega) Ua) (u.chg j Ua).next
theorem later(G:kK P F call ops base τ0 H0)(u:dx P F call ops base τ0 H0){i j c:Nat}{r y:pR}{b:Blk}(M:i<j)(E:j<ops.size)(S:fZ P F call ops base τ0 H0 i=some r)(B:fZ P F call ops base τ0 H0 j=some y)(ht:touched (fZ P F call ops base τ0 H0 j) c)
  (D:(eI P F call ops base τ0 H0 i).2.get c=some b):((bS ops.toList []).getD j 0).testBit i=true\/(PE r y/\(c∈y.writes\/(y.isCall=true/\False))):=by
 rcases G.free j i r y M E S B with N|N
 .exact .inl N
 .right;refine⟨eO N,?_⟩;obtain⟨x,O,ht⟩:=ht;rw[B]at O;cases O;rcases ht with ht|ht|⟨t1,t2,_⟩
  .exact .inl ht
  .have:=((u.chg j E).made y B).1 c ht;subst this;rw[u.fresh i j Ua E]at D;cases D
  .have Z:=((u.chg j E).made y B).2 t1;have Y:=A3 u (show i<=j by omega) Ua;rw[u.bd i Ua c Ua]at D;cases D
theorem GA(E:kK P F call ops base τ0 H0)(N:dx P F call ops base τ0 H0){L:Nat->Bool}{i:Nat}(B:Next ops L i){c:Nat}
  (D:∀j,j<ops.size->j≠i->touched (fZ P F call ops base τ0 H0 j) c->(j<i->((bS ops.toList []).getD i 0).testBit j=true)/\(i<j->((bS ops.toList []).getD j 0).testBit i=true)) :
  hget P F call ops base τ0 H0 L c=(eI P F call ops base τ0 H0 i).2.get c:=by
 rw[Fx E N c i (by have:=B.lt;omega),hget,np (p:=λj=>cT (fZ P F call ops base τ0 H0 j) c) B.lt B.not];intro j M G O;obtain⟨Y,S⟩:=D j M G (qK.1 O);exact⟨λu=>B.before (Y u),λu=>B.behind M (S u)⟩
theorem IY(D:kK P F call ops base τ0 H0)(Y:dx P F call ops base τ0 H0){i c:Nat}{r:pR}{b:Blk}(hi:i<ops.size)(S:fZ P F call ops base τ0 H0 i=some r)(G:c∈r.reads)(hl:(eI P F call ops base τ0 H0 i).2.get c=some b):
  ∀j,j<ops.size->j≠i->touched (fZ P F call ops base τ0 H0 j) c->(j<i->((bS ops.toList []).getD i 0).testBit j=true)/\(i<j->((bS ops.toList []).getD j 0).testBit i=true):=by
 intro j hj hne Z;obtain⟨x,M,E⟩:=Z;refine⟨λu=>?_,λu=>?_⟩
 .rcases D.free i j x r u hi M S with B|B
  .exact B
  .exfalso;have O:=eO B;rcases E with t|t|⟨t1,t2,t3⟩
   .exact O.wr c t G
   .exact O.mr c t G
   .exact O.cr t1 c G ⟨t2,t3⟩
 .rcases later D Y u hj S M ⟨x,M,E⟩ hl with B|⟨B,N|⟨_,N⟩⟩
  .exact B
  .exact absurd N (B.rw c G)
  .exact N.elim
theorem Dt{o:Op}{ρ:Operand->AV}{b c:Nat}{v:AV}{H H':ae}(h:aV P F o ρ b H=some (.val v H'))(u:c∈aK o ρ):∃x,H.get c=some x:=by
 cases o with
 |load t a=>
  simp only[aV]at h;obtain⟨B,_⟩:=fo h;simp only[aK]at u;generalize ρ a=y at B u;cases y<;>simp[af]at u<;>simp[mg]at B;subst u;cases Y:H.get _ with
  |none=>rw[Y]at B;simp at B
  |some x=>exact⟨x,rfl⟩
 |store t a x=>
  simp only[aV]at h;cases G:fW P H t (ρ a) (ρ x)with
  |none=>rw[G]at h;cases h
  |some K=>
   simp only[aK]at u;unfold fW at G;split at G
   .rename_i d i off cs n ha hcs hn;rw[ha]at u;simp[af]at u;subst u;split at G
    .rename_i y M;exact⟨y,M⟩
    .cases G
   .cases G
 |indexAddr t x ix=>
  simp only[aV]at h;obtain⟨B,_⟩:=fo h;simp only[aK]at u;generalize ρ x=y at B u;cases y<;>simp[fk]at u;subst u;cases Y:H.get c with
  |some x=>exact⟨x,rfl⟩
  |none=>
   exfalso;simp only[dZ,lG,Y,Option.map_none,Option.isSome_none,SO,false_and,and_false,if_false]at B;split at B
   .split at B
    .cases B
    .split at B<;>simp_all
   .cases B
 |slice t x lo hi mx=>
  simp only[aV]at h;split at h
  .cases h
  .obtain⟨B,_⟩:=fo h;simp only[aK]at u;generalize ρ x=y at B u;cases y<;>simp[fk]at u;subst u;cases Y:H.get c with
   |some x=>exact⟨x,rfl⟩
   |none=>
    exfalso;simp only[j6,lG,Y,Option.map_none,Option.isSome_none,SO,false_and,if_false]at B;split at B
    .split at B
     .split at B<;>cases B
     .cases B
    .cases B
    .cases B
 |call k=>
  simp only[aK]at u;split at u
  .rename_i hk;simp only[aV,hk]at h;cases j:bj P H b .append k.argTypes (k.args.toList.map ρ)with
   |none=>rw[j]at h;cases h
   |some q=>
    unfold bj at j;split at j
    .rename_i e _;cases e
    .rename_i _ e _;cases e
    .rename_i s x e O;obtain⟨a0,a1,E,h0,B⟩:=oR O;rw[E]at u;simp only[List.flatMap_cons,List.flatMap_nil,Ta,h0,B,SC]at u;split at j
     .split at j
      .unfold cX at j;split at j
       .split at j
        .split at j
         .rename_i l m hl N;have aux:∀{y:AV} {q n},fI H n y=some q->c∈af y->∃x,H.get c=some x:=λ{y} {q} {n} M Z=>by
           cases y<;>simp[af]at Z<;>simp[fI]at M;subst Z;split at M
           .rename_i x hx;exact⟨x,hx⟩
           .cases M
          rcases u with u|u
          .exact aux hl u
          .exact aux N u
         .cases j
        .cases j
       .cases j
      .cases j
     .cases j
    .rename_i e _;cases e
    .rename_i e _;cases e
    .rename_i e _;cases e
    .cases j
  .rename_i hk;simp only[aV,hk]at h;cases j:bj P H b .clear k.argTypes (k.args.toList.map ρ)with
   |none=>rw[j]at h;cases h
   |some q=>
    unfold bj at j;split at j
    .rename_i e _;cases e
    .rename_i _ e _;cases e
    .rename_i e _;cases e
    .rename_i e _;cases e
    .rename_i e _;cases e
    .rename_i x e O;obtain⟨a0,E,h0⟩:=oQ O;rw[E]at u;simp only[List.flatMap_cons,List.flatMap_nil,Ta,h0]at u;split at j
     .rw[T3]at j;obtain⟨K1,D,_⟩:=j;unfold fj at D;split at D
      .split at D
       .split at D
        .simp[af]at u
        .simp[af]at u;subst u;split at D
         .rename_i y M;exact⟨y,M⟩
         .cases D
        .cases D
       .cases D
      .cases D
     .cases j
    .cases j
  .simp at u
 |lookup t m k ok=>simp only[aV]at h;obtain⟨B,rfl⟩:=fo h;obtain⟨q,x,N,hx,_⟩:=xu B;simp only[aK,N,af,Sz]at u;exact⟨x,by rw[u];exact hx⟩
 |mapUpdate t m k x=>
  simp only[aV]at h;cases S:eX P H t (ρ m) (ρ k) (ρ x)with
  |none=>rw[S]at h;cases h
  |some H2=>obtain⟨q,y,y',N,M,_⟩:=lK S;simp only[aK,N,af,Sz]at u;exact⟨y,by rw[u];exact M⟩
 |next it s=>
  cases s with
  |false=>simp[aV]at h
  |true=>
   simp only[aV]at h;cases S:iq H (ρ it)with
   |none=>rw[S]at h;cases h
   |some r=>obtain⟨q,y,N,M,_⟩:=rP S;simp only[aK,N,af,Sz]at u;exact⟨y,by rw[u];exact M⟩
 |_=>simp[aK]at u
theorem rU{o:Op}{ρ:Operand->AV}{c:Nat}(j:c∈aD o ρ):c∈aK o ρ:=by
 cases o with
 |store t a x=>exact j
 |call k=>
  simp only[aD]at j;simp only[aK];split at j
  .rename_i E;rw[List.mem_flatMap]at j ⊢;obtain⟨x,B,u⟩:=j;exact⟨x,List.mem_of_mem_take B,u⟩
  .exact j
  .simp at j
 |mapUpdate t m k x=>exact j
 |next D s=>exact j
 |_=>simp[aD]at j
end
end
section
def iH(L:Nat->Bool)(i:Nat):Nat->Bool:=λj=>if j=i then true else L j
theorem xB{p:Nat->Bool}:∀{k j:Nat},cz p k=some j->j<k
 |0,j,h=>by cases h
 | k+1,j,h=>by
  unfold cz at h;split at h
  .cases h;omega
  .have:=xB h;omega
def A4(H:ae):List Nat->ae->ae
 |[],K=>K
 |c::l,K=>A4 H l {K with tr:=K.tr.set c (H.get c)}
theorem Du(H:ae):∀(l:List Nat) (K:ae) (c:Nat),(A4 H l K).get c=if c∈l then H.get c else K.get c
 |[],K,c=>by simp[A4]
 | d::l,K,c=>by
  rw[A4,Du H l];by_cases j:c∈l
  .rw[if_pos j,if_pos (by simp[j])]
  .rw[if_neg j];show(K.tr.set d (H.get d)).get c=_;rw[Tr.get_set];by_cases h2:d=c
   .subst h2;rw[if_pos rfl,if_pos Ud]
   .rw[if_neg h2,if_neg (by simp[j];exact λe=>h2 e.symm)];rfl
section
variable {P:Program} {F:TypeId->Option (List TypeId)} {call:FuncId->List AV->ae->Option (AV×ae)} {ops:Array Oper} {base:Nat} {τ0:List AV} {H0:ae}
def Pv(P:Program)(F:TypeId->Option (List TypeId))(call:FuncId->List AV->ae->Option (AV×ae))(ops:Array Oper)(base:Nat)(τ0:List AV)(H0:ae)(w0:World)(σ0:bE)(L:Nat->Bool)(a:Act)(w:World):Prop:=
 ∃σ K,bv w σ K/\(∀c,K.get c=hget P F call ops base τ0 H0 L c)/\K.next=BV P F call ops base τ0 H0 L/\a.tmps.size=τ0.length/\a.defers=[]/\(∀t x u,nq P F call ops base τ0 H0 L t=some x->a.tmps[t]? =some u->bn w σ (aQ σ K) x u)/\
  eH w0 σ0 (aQ σ0 H0) w σ (aQ σ K)/\(∀c pl,σ c=some pl->σ0 c=some pl\/base<=c)/\(∀i,i<ops.size->L i=false->σ (base+i)=none)
def tl(P:Program)(F:TypeId->Option (List TypeId))(call:FuncId->List AV->ae->Option (AV×ae))(ops:Array Oper)(base:Nat)(τ0:List AV)(H0:ae)(L:Nat->Bool):List AV:=
 (List.range τ0.length).map λt=>(nq P F call ops base τ0 H0 L t).getD bK
theorem Dv(D:dx P F call ops base τ0 H0)(L:Nat->Bool)(t:Tmp):(t<τ0.length->∃x,nq P F call ops base τ0 H0 L t=some x)/\(τ0.length<=t->nq P F call ops base τ0 H0 L t=none):=by
 unfold nq;split
 .rename_i j E;have B:=D.len (j+1) (xB E);exact⟨λu=>⟨_,mt (by rw[B];exact u)⟩,λu=>LE (by rw[B];exact u)⟩
 .exact⟨λu=>⟨_,mt u⟩,λu=>LE u⟩
theorem IZ(j:dx P F call ops base τ0 H0)(L:Nat->Bool)(t:Tmp):(tl P F call ops base τ0 H0 L)[t]? =nq P F call ops base τ0 H0 L t:=by
 unfold tl;rw[SJ];rcases Fn t τ0.length with h|h
 .rw[T9 h];obtain⟨x,u⟩:=(Dv j L t).1 h;simp[u]
 .rw[LE (by simpa using h),(Dv j L t).2 h];rfl
theorem PF(j:dx P F call ops base τ0 H0){L:Nat->Bool}{a:Act}{w:World}{σ:bE}{T:Nat->Prop}(G:a.tmps.size=τ0.length)(h2:a.defers=[])(E:∀t x u,nq P F call ops base τ0 H0 L t=some x->a.tmps[t]? =some u->bn w σ T x u):
  cD w σ T (tl P F call ops base τ0 H0 L) a:=
 ⟨⟨by simp[tl,G],λt x u B D=>E t x u (by rw[<-IZ j];exact B) (by rw[<-SY];exact D)⟩,h2⟩
theorem Ls{l m:List AV}{t:Nat}(h:l[t]? =m[t]?):l.getD t bK=m.getD t bK:=by simp[List.getD,h]
theorem I0(u:kK P F call ops base τ0 H0)(G:dx P F call ops base τ0 H0)(B:lN ops){L:Nat->Bool}{i:Nat}(M:Next ops L i){o:Oper}(O:ops[i]? =some o):
  (∀x∈bP o.op,jr (eI P F call ops base τ0 H0 i).1 x=jr (tl P F call ops base τ0 H0 L) x)/\dI ops o (tl P F call ops base τ0 H0 L)=dI ops o (eI P F call ops base τ0 H0 i).1:=by
 have E:∀t∈hZ ops o,(tl P F call ops base τ0 H0 L)[t]? =(eI P F call ops base τ0 H0 i).1[t]? :=λt h=>by rw[IZ G,Lr u B M O h]
 refine⟨λx N=>?_,?_⟩
 .cases x with
  | tmp t=>exact(Ls (E t (by
    simp only[hZ,SC];exact .inl (.inr (List.mem_filterMap.2 ⟨.tmp t,N,rfl⟩))))).symm
  |const v=>rfl
  |global g=>rfl
  |func f=>rfl
 .unfold dI;cases S:o.guard with
  |none=>rfl
  |some q=>
   obtain⟨j,D⟩:=q;simp only[];cases Y:(ops[j]?).bind (·.dst)with
   |none=>rfl
   |some d=>simp only[];rw[E d (by simp only[hZ,SC,S,Y];right;simp)]
theorem xC(run:kK P F call ops base τ0 H0)(rf:dx P F call ops base τ0 H0)(Z:lN ops){L:Nat->Bool}{i:Nat}(N:Next ops L i){o:Oper}(ho:ops[i]? =some o){v:AV}{v':Value}{a:Act}{w w':World}{σ σ':bE}{T T':Nat->Prop}
  (hv:(eI P F call ops base τ0 H0 (i+1)).1=fT (eI P F call ops base τ0 H0 i).1 o.dst v) (hr:bn w' σ' T' v v') (h1:a.tmps.size=τ0.length) (h3:∀t x u,nq P F call ops base τ0 H0 L t=some x->a.tmps[t]? =some u->bn w σ T x u) (hE:∀x u,bn w σ T x u->bn w' σ' T' x u) :
  (a.put o.dst v').tmps.size=τ0.length/\∀t x u,nq P F call ops base τ0 H0 (iH L i) t=some x->(a.put o.dst v').tmps[t]? =some u->bn w' σ' T' x u:=by
 refine⟨by cases o.dst<;>simp[Act.put,h1],λt x u B D=>?_⟩;by_cases Y:wr ops t i=true
 .have E:o.dst=some t:=by simpa[wr,ho]using Y
  have hl:cz (λj=>iH L i j&&wr ops t j) ops.size=some i:=by
   refine tN N.lt N.not Y λj hj hne S hlt=>?_
   have M:ops[j]? =some ops[j]:=S1 hj;have hdj:(ops[j]).dst=some t:=by simpa[wr,M]using S
   rcases Z j i _ o hlt M ho with h4|⟨h4,_⟩
   .exact N.behind hj h4
   .exact absurd (by simp[hZ,hdj]) (h4 t E)
  unfold nq at B;rw[hl]at B;simp only[hv,E,fT,SS]at B;simp only[E,Act.put,Array.getElem?_setIfInBounds]at D;simp only[if_true]at B D;split at B
  .split at D
   .cases B;cases D;exact hr
   .cases D
  .cases B
 .have G:wr ops t i=false:=by simpa using Y
  have E:(o.dst==some t)=false:=by simpa[wr,ho]using G
  have hl:cz (λj=>iH L i j&&wr ops t j) ops.size=cz (λj=>L j&&wr ops t j) ops.size:=lM G;have O:nq P F call ops base τ0 H0 L t=some x:=by unfold nq at B ⊢;rw[hl]at B;exact B
  refine hE x u (h3 t x u O ?_);rw[<-D];cases hdd:o.dst with
  |none=>rfl
  |some d=>
   have:d≠t:=by rw[hdd]at E;simpa using E
   simp[Act.put,this]
end
end
section
section
variable {P:Program} {F:TypeId->Option (List TypeId)} {call:FuncId->List AV->ae->Option (AV×ae)} {ops:Array Oper} {base:Nat} {τ0:List AV} {H0:ae}
theorem GB(u:dx P F call ops base τ0 H0)(L:Nat->Bool):H0.next<=BV P F call ops base τ0 H0 L:=by
 unfold BV;split
 .rename_i j B;exact u.le (j+1) (xB B)
 .exact Fd _
theorem tO{L:Nat->Bool}{i c:Nat}(h:cT (fZ P F call ops base τ0 H0 i) c=false):hget P F call ops base τ0 H0 (iH L i) c=hget P F call ops base τ0 H0 L c:=by have u:cz (λj=>iH L i j&&cT (fZ P F call ops base τ0 H0 j) c) ops.size=cz (λj=>L j&&cT (fZ P F call ops base τ0 H0 j) c) ops.size:=lM (p:=λj=>cT (fZ P F call ops base τ0 H0 j) c) h;unfold hget;rw[u]
theorem Dw{L:Nat->Bool}{i c:Nat}(u:Next ops L i)(h:cT (fZ P F call ops base τ0 H0 i) c=true)(N:∀j,j<ops.size->j≠i->touched (fZ P F call ops base τ0 H0 j) c->i<j->((bS ops.toList []).getD j 0).testBit i=true):hget P F call ops base τ0 H0 (iH L i) c=(eI P F call ops base τ0 H0 (i+1)).2.get c:=by
 have G:cz (λj=>iH L i j&&cT (fZ P F call ops base τ0 H0 j) c) ops.size=some i:=tN (p:=λj=>cT (fZ P F call ops base τ0 H0 j) c) u.lt u.not h λj E B M D=>u.behind E (N j E B (qK.1 M) D)
 unfold hget;rw[G]
theorem I1(fit:Fit P F)(hs:ez P call)(hch:∀f args H v H',Bd H->call f args H=some (v,H')->vc H H')(G:kK P F call ops base τ0 H0)(Z:dx P F call ops base τ0 H0)(hst:lN ops)(hb:base+ops.size=H0.next)
  {w0:World} {σ0:bE} {L:Nat->Bool} {i:Nat} {a:Act} {w:World} (nx:Next ops L i) (h:Pv P F call ops base τ0 H0 w0 σ0 L a w) {Q:Exit->Act->World->Prop}:wpOp P ops Q i (Pv P F call ops base τ0 H0 w0 σ0 (iH L i)) a w:=by
 obtain⟨σ,K,hW,hK,hn,hsz,hdf,hrep,hE0,hnm,hfr⟩:=h;have hi:=nx.lt;obtain⟨o,ho⟩:∃o,ops[i]? =some o:=⟨_,S1 hi⟩;obtain⟨hu,hwt⟩:=I0 G Z hst nx ho;have htm:=PF Z hsz hdf hrep;have hbi:σ (base+i)=none:=hfr i hi nx.not;have hKb:K.get (base+i)=none:=by
  cases hg:K.get (base+i)with
  |none=>rfl
  |some x=>obtain⟨pl,_,_,h1,_⟩:=hW.live _ x hg;rw[hbi]at h1;cases h1
 have hSb:(eI P F call ops base τ0 H0 i).2.get (base+i)=none:=Z.fresh i i (Fd _) hi;have hlt:base+i<K.next:=by have:=GB Z L;rw[hn];omega
 have hfresh:∀{σ':bE},(∀c pl,σ' c=some pl->σ c=some pl\/c=base+i\/K.next<=c)->∀j,j<ops.size->iH L i j=false->σ' (base+j)=none:=λ{σ'} hσ j hj hLj=>by
  have hji:j≠i:=by rintro rfl;simp[iH]at hLj
  have hL:L j=false:=by simpa[iH,hji]using hLj
  cases hg:σ' (base+j)with
  |none=>rfl
  |some pl=>
   have hge:=GB Z L;rcases hσ _ pl hg with h1|h1|h1
   .rw[hfr j hj hL]at h1;cases h1
   .omega
   .omega
 have D:=G.step i hi;unfold bJ at D;rw[ho]at D;simp only[]at D;unfold wpOp;rw[ho];simp only[];split at D
 .rename_i O;rw[<-hwt]at O;rw[if_pos (iF htm O)];left;unfold Oper.wp;split at D
  .rename_i v H' hop;simp only[SF,Prod.mk.injEq]at D;obtain⟨e1,e2,e3⟩:=D;obtain⟨q1,q2,q3⟩:=Gz (P:=P) (F:=F) hu (base+i) (eI P F call ops base τ0 H0 i).2;have hop2:aV P F o.op (jr (tl P F call ops base τ0 H0 L)) (base+i) (eI P F call ops base τ0 H0 i).2=some (.val v H'):=by rw[<-q1];exact hop
   have hreads:∀c,c∈aK o.op (jr (tl P F call ops base τ0 H0 L))->∃x,(eI P F call ops base τ0 H0 i).2.get c=some x/\∀j,j<ops.size->j≠i->touched (fZ P F call ops base τ0 H0 j) c->(j<i->((bS ops.toList []).getD i 0).testBit j=true)/\(i<j->((bS ops.toList []).getD j 0).testBit i=true):=λc Y=>by obtain⟨x,hx⟩:=Dt hop2 Y;exact⟨x,hx,IY G Z hi e3.symm (by show c∈aK o.op (jr (eI P F call ops base τ0 H0 i).1);rw[q2];exact Y) hx⟩
   have hr:∀c∈aK o.op (jr (tl P F call ops base τ0 H0 L)),K.get c=(eI P F call ops base τ0 H0 i).2.get c:=λc Y=>by obtain⟨x,_,h1⟩:=hreads c Y;rw[hK];exact GA G Z nx h1
   obtain⟨K',l1,l2,l3⟩:=HB hop2 K hr (by rw[hKb,hSb]);obtain⟨v',w',σ',h1,h2,h3,h4,h5⟩:=AY fit hW hbi hlt (o:=o) (htm.eval hW.glob) l1;have E:∀c,cT (fZ P F call ops base τ0 H0 i) c=true↔(c∈aD o.op (jr (tl P F call ops base τ0 H0 L))\/c=base+i):=λc=>by rw[<-e3,<-q3];simp[cT]
   have hinv:Pv P F call ops base τ0 H0 w0 σ0 (iH L i) (a.put o.dst v') w':=by
    obtain⟨t1,t2⟩:=xC G Z hst nx ho e1.symm h2 hsz hrep (λx u hxu=>hxu.mono h4);refine⟨σ',K',h3,λc=>?_,?_,t1,by cases o.dst<;>exact hdf,t2,hE0.trans h4,λc pl Y=>?_,hfresh (λc pl Y=>?_)⟩
    .rw[l3];cases M:cT (fZ P F call ops base τ0 H0 i) c with
     |true=>
      have Y:=(E c).1 M;rw[if_pos Y,Dw nx M,<-e2]
      .rfl
      .intro j hj hne hjt hlt';rcases Y with Y|Y
       .obtain⟨x,_,B⟩:=hreads c (rU Y);exact(B j hj hne hjt).2 hlt'
       .obtain⟨y,hy,hyt⟩:=hjt;rcases G.free j i _ y hlt' hj e3.symm hy with B|B
        .exact B
        .exfalso;have fr:=eO B;rcases hyt with t|t|⟨t3,t4,_⟩
         .exact fr.mw c (by simp[Y]) t
         .have:=((Z.chg j hj).made y hy).1 c t;omega
         .have:=((Z.chg j hj).made y hy).2 t3;have:=Z.le j Ua;omega
     |false=>rw[if_neg (λY=>by rw[(E c).2 Y]at M;cases M),tO M,hK]
    .rw[l2,hn];have:gT (fZ P F call ops base τ0 H0 i)=false:=by rw[<-e3];rfl
     have hl:cz (λj=>iH L i j&&gT (fZ P F call ops base τ0 H0 j)) ops.size=cz (λj=>L j&&gT (fZ P F call ops base τ0 H0 j)) ops.size:=lM (p:=λj=>gT (fZ P F call ops base τ0 H0 j)) this;unfold BV;rw[hl]
    .rcases h5 c pl Y with B|B
     .exact hnm c pl B
     .exact .inr Ua
    .rcases h5 c pl Y with B|B
     .exact .inl B
     .exact .inr (.inl B)
   rcases h1 with h1|⟨h1,rfl⟩
   .rw[h1];exact hinv
   .rw[h1];exact hinv
  .rename_i f args hop;split at D
   .rename_i v H1 S;simp only[SF,Prod.mk.injEq]at D;obtain⟨e1,e2,e3⟩:=D;obtain⟨q1,q2,q3⟩:=Gz (P:=P) (F:=F) hu (base+i) (eI P F call ops base τ0 H0 i).2;have hop2:aV P F o.op (jr (tl P F call ops base τ0 H0 L)) (base+i) (eI P F call ops base τ0 H0 i).2=some (.call f args):=by rw[<-q1];exact hop
    have hopK:=xz hop2 K;obtain⟨fn,cd,hf,hbd⟩:=hs.body _ _ _ _ _ S;obtain⟨vs,g1,g2⟩:=Dl fit (o:=o) (b:=base+i) (htm.eval hW.glob) hopK hf hbd;have hHg:=gS base ((bS ops.toList []).getD i 0) i (eI P F call ops base τ0 H0 i).2;have hHn:=(fN base ((bS ops.toList []).getD i 0) i (eI P F call ops base τ0 H0 i).2).1;generalize hHc:dG base ((bS ops.toList []).getD i 0) i (eI P F call ops base τ0 H0 i).2=Hh at S e3 hHg hHn;have hbdc:Bd ({Hh with log:=[]}:ae):=λd hd=>by
     show Hh.get d=none;rw[hHg];split
     .rfl
     .exact Z.bd i Ua d (by rw[<-hHn];exact hd)
    have hcg:vc ({Hh with log:=[]}:ae) H1:=hch _ _ _ _ _ hbdc S;generalize hHc2:({Hh with log:=[]}:ae)=Hc at S hcg hbdc;have hHg:∀c,Hc.get c=if(∃j,j<i/\((bS ops.toList []).getD i 0).testBit j=false/\c=base+j)then none else(eI P F call ops base τ0 H0 i).2.get c:=λc=>by rw[<-hHc2];exact hHg c
    have hHn:Hc.next=(eI P F call ops base τ0 H0 i).2.next:=by rw[<-hHc2];exact hHn
    have hHh:∀c,Hh.get c=Hc.get c:=λc=>by rw[<-hHc2];rfl
    have E:∀c,cT (fZ P F call ops base τ0 H0 i) c=true↔((c∈H1.log/\(Hc.get c).isSome=true)\/((eI P F call ops base τ0 H0 i).2.next<=c/\c<H1.next)):=λc=>by rw[<-e3];simp[cT,hHh]
    have hKn:K.next=(eI P F call ops base τ0 H0 i).2.next:=by
     rw[hn,Fy G i Ua,BV,np (p:=λj=>gT (fZ P F call ops base τ0 H0 j)) hi nx.not];intro j hj hne N;cases hx:fZ P F call ops base τ0 H0 j with
     |none=>rw[hx]at N;cases N
     |some x=>
      rw[hx]at N;refine⟨λhl=>?_,λhl=>?_⟩
      .rcases G.free i j x _ hl hi hx e3.symm with B|B
       .exact nx.before B
       .have:=(eO B).cc N;cases this
      .rcases G.free j i _ x hl hj e3.symm hx with B|B
       .exact nx.behind hj B
       .have:=(eO B).cc rfl;have h7:x.isCall=true:=N;rw[h7]at this;cases this
    have hsub:∀c x,Hc.get c=some x->K.get c=some x:=λc x hx=>by
     rw[hHg]at hx;split at hx
     .cases hx
     .rename_i hnh;rw[hK,GA G Z nx ?_]
      .exact hx
      .intro j hj hne M;obtain⟨y,hy,hyt⟩:=M;refine⟨λhl=>?_,λhl=>?_⟩
       .cases hbit:((bS ops.toList []).getD i 0).testBit j with
        |true=>rfl
        |false=>
         exfalso;rcases G.free i j y _ hl hi hy e3.symm with B|B
         .rw[hbit]at B;cases B
         .have fr:=eO B;rcases hyt with t|t|⟨t3,_,_⟩
          .exact fr.wc rfl c t
          .exact hnh ⟨j,hl,hbit,((Z.chg j hj).made y hy).1 c t⟩
          .have:=fr.cc t3;cases this
       .rcases later G Z hl hj e3.symm hy ⟨y,hy,hyt⟩ hx with B|⟨fr,B|⟨_,B⟩⟩
        .exact B
        .exact absurd B (fr.cw rfl c)
        .exact B.elim
    have hnK:Hc.next=K.next:=by rw[hHn,hKn]
    have hWc:=hW.part hsub (by rw[hnK];exact Fd _);rw[g1];refine(hs.ok _ _ _ _ _ S w (σ.part K Hc) vs hWc ⟨g2.1,λq x u hx hu=>by rw[rT hsub];exact bn.sig (σ:=σ) (σ':=σ.part K Hc) rfl (g2.2 q x u hx hu)⟩).mono ?_;rintro e w' ⟨v',σ',rfl,k1,k2,k3,k4⟩;have hK1:=hcg.next;obtain⟨K',hK'n,hK'g⟩:∃K':ae,K'.next=H1.next/\∀c,K'.get c=if cT (fZ P F call ops base τ0 H0 i) c=true then H1.get c else K.get c:=by
     refine⟨{A4 H1 (H1.log.filter (λc=>(Hc.get c).isSome)++List.range' K.next (H1.next-K.next)) K with next:=H1.next},rfl,λc=>?_⟩;show(A4 H1 _ K).get c=_;rw[Du];have:c∈(H1.log.filter (λc=>(Hc.get c).isSome)++List.range' K.next (H1.next-K.next))↔cT (fZ P F call ops base τ0 H0 i) c=true:=by
      rw[E,SC,TT,List.mem_range'_1,hKn];constructor
      .rintro(B|B)
       .exact .inl B
       .exact .inr Ua
      .rintro(B|B)
       .exact .inl B
       .exact .inr Ua
     by_cases M:cT (fZ P F call ops base τ0 H0 i) c=true
     .rw[if_pos (this.2 M),if_pos M]
     .rw[if_neg (λB=>M (this.1 B)),if_neg M]
    have hbd1:Bd H1:=hcg.bd hbdc;have hform:∀c,K'.get c=if Hc.get c=none/\c<K.next then K.get c else H1.get c:=λc=>by
     rw[hK'g];by_cases M:cT (fZ P F call ops base τ0 H0 i) c=true
     .rw[if_pos M,if_neg];rintro⟨B,h7⟩;rcases(E c).1 M with⟨_,h8⟩|⟨h8,_⟩
      .rw[B]at h8;cases h8
      .omega
     .rw[if_neg M];split
      .rfl
      .rename_i hnn;cases hg:Hc.get c with
       |some x=>
        have hcl:c∉H1.log:=λB=>M ((E c).2 (.inl ⟨B,by rw[hg];rfl⟩))
        have hcn:c<Hc.next:=by
         rcases Fn c Hc.next with B|B
         .exact B
         .rw[hbdc c B]at hg;cases hg
        rw[hcg.keep c hcn hcl,hg];exact hsub c x hg
       |none=>
        have hcn:K.next<=c:=by
         rcases Fn c K.next with B|B
         .exact absurd ⟨hg,B⟩ hnn
         .exact B
        have hc1:H1.next<=c:=by
         rcases Fn c H1.next with B|B
         .exact absurd ((E c).2 (.inr ⟨by rw[<-hKn];exact hcn,B⟩)) M
         .exact B
        rw[hbd1 c hc1];cases hg2:K.get c with
        |none=>rfl
        |some x=>obtain⟨pl,_,_,B,_⟩:=hW.live c x hg2;have:=hW.named c pl B;omega
    obtain⟨z1,z2,z3⟩:=hW.whole hsub hnK k2 k3 hcg.dom hform (by rw[hK'n];exact Fd _);obtain⟨t1,t2⟩:=xC G Z hst nx ho (v:=v) (v':=v') (w':=w') (σ':=⟨σ'.map,σ.fr⟩) (T':=aQ ⟨σ'.map,σ.fr⟩ K') e1.symm (by rw[z3];exact bn.sig (σ:=σ') (σ':=⟨σ'.map,σ.fr⟩) rfl k1) hsz hrep (λx u hxu=>hxu.mono z2);refine(⟨⟨σ'.map,σ.fr⟩,K',z1,λc=>?_,?_,t1,by cases o.dst<;>exact hdf,t2,hE0.trans z2,λc pl Y=>?_,hfresh (λc pl Y=>?_)⟩:Pv P F call ops base τ0 H0 w0 σ0 (iH L i) (a.put o.dst v') w')
    .rw[hK'g];cases M:cT (fZ P F call ops base τ0 H0 i) c with
     |true=>
      have hnhid:¬ ∃j,j<i/\((bS ops.toList []).getD i 0).testBit j=false/\c=base+j:=by
       intro hh;rcases(E c).1 M with⟨_,h8⟩|⟨h8,_⟩
       .rw[hHg,if_pos hh]at h8;cases h8
       .obtain⟨j,hj,_,rfl⟩:=hh;have:=Z.le i Ua;omega
      rw[if_pos rfl,Dw nx M,<-e2]
      .show H1.get c=(iu _ _ _ _ _).get c;rw[kJ,if_neg hnhid]
      .intro j hj hne hjt hl;obtain⟨y,hy,hyt⟩:=hjt;rcases G.free j i _ y hl hj e3.symm hy with B|B
       .exact B
       .exfalso;have fr:=eO B;rcases hyt with t|t|⟨t3,_,_⟩
        .exact fr.cw rfl c t
        .have N:=((Z.chg j hj).made y hy).1 c t;rcases(E c).1 M with⟨_,h8⟩|⟨h8,_⟩
         .rw[hHg,if_neg hnhid,N,Z.fresh i j Ua hj]at h8;cases h8
         .have:=Z.le i Ua;omega
        .have h7:=fr.cc rfl;rw[t3]at h7;cases h7
     |false=>rw[if_neg Ud,tO M,hK]
    .rw[hK'n];have hcb:gT (fZ P F call ops base τ0 H0 i)=true:=by rw[<-e3];rfl
     have hl:cz (λj=>iH L i j&&gT (fZ P F call ops base τ0 H0 j)) ops.size=some i:=tN (p:=λj=>gT (fZ P F call ops base τ0 H0 j)) hi nx.not hcb (λj hj hne N hl=>by
      cases hx:fZ P F call ops base τ0 H0 j with
      |none=>rw[hx]at N;cases N
      |some x=>
       rw[hx]at N;rcases G.free j i _ x hl hj e3.symm hx with B|B
       .exact nx.behind hj B
       .have:=(eO B).cc rfl;have h7:x.isCall=true:=N;rw[h7]at this;cases this)
     unfold BV;rw[hl];simp only[];rw[<-e2];exact(gF _ _ _ _ _).1.symm
    .rcases k4 c pl Y with B|B
     .exact hnm c pl B
     .exact .inr (by have:=Z.le i Ua;omega)
    .rcases k4 c pl Y with B|B
     .exact .inl B
     .exact .inr (.inr Ua)
   .cases D
  .cases D
 .rename_i O;rw[<-hwt]at O;rw[if_neg (by rw[iF htm O];simp)];simp only[SF,Prod.mk.injEq]at D;obtain⟨e1,e2,e3⟩:=D;obtain⟨t1,t2⟩:=xC G Z hst nx ho e1.symm kH hsz hrep (λx u hxu=>hxu);have M:∀c,cT (fZ P F call ops base τ0 H0 i) c=false:=λc=>by rw[<-e3];rfl
  refine⟨σ,K,hW,λc=>by rw[tO (M c),hK],?_,t1,by cases o.dst<;>exact hdf,t2,hE0,hnm,hfresh (λc pl Y=>.inl Y)⟩;rw[hn];have:gT (fZ P F call ops base τ0 H0 i)=false:=by rw[<-e3];rfl
  have hl:cz (λj=>iH L i j&&gT (fZ P F call ops base τ0 H0 j)) ops.size=cz (λj=>L j&&gT (fZ P F call ops base τ0 H0 j)) ops.size:=lM (p:=λj=>gT (fZ P F call ops base τ0 H0 j)) this;unfold BV;rw[hl]
 .cases D
end
end
section
def rV(ops:Array Oper):Prop:=∀(i:Nat) (o:Oper),ops[i]? =some o->∀e∈o.after.toList,Region.binds .any e=true->e.on<i
def jD:Code->Prop
 |.region _ ops draw=>draw=true->lN ops/\rV ops
 |.seq a b=>jD a/\jD b
 |.cond _ a b=>jD a/\jD b
 |.block _ b=>jD b
 |.loop b=>jD b
 |_=>True
section
variable {P:Program} {F:TypeId->Option (List TypeId)} {call:FuncId->List AV->ae->Option (AV×ae)} {ops:Array Oper} {base:Nat} {τ0:List AV} {H0:ae}
theorem lO(Y:ez P call){B:List Nat}:∀(l:List Nat) (O D:List AV) (H K:ae) (S E:List pR),ey P F call ops base B l O H S=some (D,K,E)->H.next<=K.next
 |[],O,D,H,K,S,E,h=>by cases h;exact Fd _
 | i::l,O,D,H,K,S,E,h=>by
  have N:∀{u M H1 r},bJ P F call ops base i u O H=some (M,H1,r)->H.next<=H1.next:=λ{u M H1 r} j=>by
   unfold bJ at j;split at j
   .cases j
   .split at j
    .split at j
     .rename_i Z;cases j;have:=xv Z;exact Nat.le_of_eq this.symm
     .split at j
      .rename_i G;cases j;have:=Y.next _ _ _ _ _ G;show H.next<=(iu _ _ _ _ _).next
       rw[(gF _ _ _ _ _).1];have h2:=(fN base u i H).1;simp only[]at this;omega
      .cases j
     .cases j
    .cases j;exact Fd _
    .cases j
  unfold ey at h;split at h
  .rename_i j;exact SK (N j) (lO Y l _ _ _ _ _ _ h)
  .rename_i j;split at h
   .exact SK (N j) (lO Y l _ _ _ _ _ _ h)
   .cases h
  .cases h
def cnt(L:Nat->Bool):Nat->Nat
 |0=>0
 |k+1=>cnt L k+(if L k then 0 else 1)
theorem Dx{L:Nat->Bool}:∀{n:Nat},cnt L n=0->∀i,i<n->L i=true
 | n+1,h,i,hi=>by
  unfold cnt at h;rcases TQ (Nat.le_of_lt_succ hi)with rfl|j
  .cases u:L i with
   |true=>rfl
   |false=>rw[u]at h;simp at h
  .exact Dx Ua i j
theorem A5{L M:Nat->Bool}:∀{n:Nat},(∀i,i<n->L i=M i)->cnt L n=cnt M n
 |0,_=>rfl
 |n+1,h=>by rw[cnt,cnt,A5 λi j=>h i Ua,h n Ua]
theorem GC{L:Nat->Bool}{i:Nat}(B:L i=false):∀{n:Nat},i<n->cnt (iH L i) n+1=cnt L n
 | n+1,hi=>by
  unfold cnt;rcases TQ (Nat.le_of_lt_succ hi)with rfl|u
  .rw[A5 (M:=L) λj D=>by simp[iH,show¬j=i by omega]];simp[iH,B]
  .have:=GC B u;have e:iH L i n=L n:=by simp[iH,show¬n=i by omega]
   rw[e];omega
theorem A6:∀n,cnt (λ_=>false) n=n
 |0=>rfl
 |n+1=>by simp[cnt,A6 n]
theorem A7{L:Nat->Bool}:∀n,(∀i,i<n->L i=true)\/∃i,i<n/\L i=false/\∀j,j<i->L j=true
 |0=>.inl λi B=>by omega
 | n+1=>by
  rcases A7 (L:=L) n with h|⟨i,G,h2,E⟩
  .by_cases D:L n=true
   .left;intro i B;rcases TQ (Nat.le_of_lt_succ B)with rfl|u
    .exact D
    .exact h i u
   .exact .inr ⟨n,Ua,by simpa using D,h⟩
  .exact .inr ⟨i,Ua,h2,E⟩
theorem tP{l:Array Bool}{i:Nat}(j:i<l.size):l.getD i true=l.getD i false:=by simp[Array.getD,j]
theorem HE(fit:Fit P F)(hs:ez P call)(hch:∀f args H v H',Bd H->call f args H=some (v,H')->vc H H')(run:kK P F call ops base τ0 H0)(rf:dx P F call ops base τ0 H0)(hst:lN ops)(hed:rV ops)(hb:base+ops.size=H0.next)
  {w0:World} {σ0:bE} {Q:Exit->Act->World->Prop} (hQ:∀a w,Pv P F call ops base τ0 H0 w0 σ0 (λi=>decide (i<ops.size)) a w->Q .normal a w) :
  ∀(fuel:Nat) (u:Array Bool) (a:Act) (w:World),u.size=ops.size->BU ops (λi=>u.getD i false)->cnt (λi=>u.getD i false) ops.size<=fuel->
   Pv P F call ops base τ0 H0 w0 σ0 (λi=>u.getD i false) a w->wpAny P .any ops Q fuel u a w:=by
 intro fuel
 induction fuel with
 |zero=>
  intro u a w G Y hf hI;have D:=Dx (by omega:cnt (λi=>u.getD i false) ops.size=0);unfold wpAny;refine⟨?_,?_⟩
  .unfold Region.ready;rw[List.filter_eq_nil_iff];intro i B;rw[Tw]at B;have:=D i B;rw[tP Ua,this];simp
  .refine hQ a w ?_;have e:(λi=>u.getD i false)=λi=>decide (i<ops.size):=by
    funext i;by_cases B:i<ops.size
    .rw[D i B];simp[B]
    .simp[Array.getD,G,B]
   rw[<-e];exact hI
 |succ fuel ih=>
  intro u a w G Y hf hI;unfold wpAny;refine⟨λhr=>?_,λi B=>?_⟩
  .rcases A7 (L:=λi=>u.getD i false) ops.size with D|⟨i,h1,h2,h3⟩
   .refine hQ a w ?_;have e:(λi=>u.getD i false)=λi=>decide (i<ops.size):=by
     funext i;by_cases B:i<ops.size
     .rw[D i B];simp[B]
     .simp[Array.getD,G,B]
    rw[<-e];exact hI
   .exfalso;unfold Region.ready at hr;rw[List.filter_eq_nil_iff]at hr;have ho:ops[i]? =some ops[i]:=S1 h1;refine hr i (by rw[Tw];exact h1) ?_;rw[tP Ua,ho];rw[h2];simp only[Bool.not_false,Bool.true_and,S0,TC];rw[Array.all_eq_true_iff_forall_mem];intro e he;cases E:Region.binds .any e with
    |false=>rfl
    |true=>have:=h3 e.on (hed i _ ho e (by rw[Array.mem_toList_iff];exact he) E);rw[this];rfl
  .unfold Region.ready at B;rw[TT,Tw]at B;obtain⟨S,M⟩:=B;obtain⟨o,ho⟩:∃o,ops[i]? =some o:=⟨_,S1 S⟩;rw[SN,ho]at M;obtain⟨M,O⟩:=M;have N:u.getD i false=false:=by rw[<-tP Ua];simpa using M
   simp only[S0,TC]at O;rw[Array.all_eq_true_iff_forall_mem]at O;have nx:Next ops (λi=>u.getD i false) i:=⟨S,N,Y,λo' ho' e he E=>by
    rw[ho]at ho';cases ho';have:=O e (by rw[<-Array.mem_toList_iff];exact he);rw[E]at this;simpa using this⟩
   have eL:(λj=>(u.setIfInBounds i true).getD j false)=iH (λj=>u.getD j false) i:=by
    funext j;unfold iH;by_cases hj:j=i
    .subst hj;rw[if_pos rfl];simp[Array.getD,show j<u.size by omega]
    .rw[if_neg hj];by_cases hjl:j<u.size
     .simp[Array.getD,hjl,show¬i=j by omega]
     .simp[Array.getD,hjl]
   refine wpOp_mono (λa' w' hI'=>?_) (I1 fit hs hch run rf hst hb nx hI);refine ih _ a' w' (by simpa using G) ?_ ?_ (by rw[eL];exact hI')
   .rw[eL];intro j oj hoj Z e he E;unfold iH at Z ⊢;split
    .rfl
    .split at Z
     .rename_i _ hji;subst hji;exact nx.edges oj hoj e he E
     .exact Y j oj hoj Z e he E
   .rw[eL];have:=GC (L:=λj=>u.getD j false) N S;omega
theorem xD(fit:Fit P F)(hs:ez P call)(hch:∀f args H v H',Bd H->call f args H=some (v,H')->vc H H')(hst:lN ops)(hed:rV ops){O D:List AV}{H H':ae}(h:dJ P F call ops true O H=some (D,H')):
  H.next<=H'.next/\∀(id:Nat) (w:World) (σ:bE) (a:Act),bv w σ H->cD w σ (aQ σ H) O a->∀Q:Exit->Act->World->Prop,(∀a' w',pU w σ H D H' a' w'->Q .normal a' w')->(Code.region id ops true).wp P Q a w:=by
 simp only[dJ,if_true]at h;split at h
 .rename_i τq K rs hd;cases h;refine⟨SK (S7 _ _) (lO hs _ _ _ _ _ _ _ hd),λid w σ a hW Y Q hQ=>?_⟩;have hbd:Bd H:=λb hb=>by
   cases hg:H.get b with
   |none=>rfl
   |some x=>obtain⟨pl,_,_,h1,_⟩:=hW.live b x hg;have:=hW.named b pl h1;omega
  have hn:H.next+ops.size=({H with next:=H.next+ops.size}:ae).next:=rfl
  have M:∀b,({H with next:=H.next+ops.size}:ae).get b=H.get b:=λ_=>rfl
  have hW0:bv w σ {H with next:=H.next+ops.size}:=hW.congr M (S7 _ _);have Z:aQ σ {H with next:=H.next+ops.size}=aQ σ H:=aQ.congr M;generalize hH0:({H with next:=H.next+ops.size}:ae)=H0 at hd hn M hW0 Z;have hbd0:Bd H0:=λb hb=>by rw[M];exact hbd b Ua
  rw[List.range_eq_range']at hd;obtain⟨a1,a2,a3⟩:=IX (P:=P) (F:=F) (call:=call) (ops:=ops) (base:=H.next) (τ0:=O) (H0:=H0) ops.size 0 [] rs D K hd (λj x hj=>by omega);simp only[Tm]at a1 a2 a3;have E:kK P F call ops H.next O H0:=⟨λi hi=>a1 i (SL _) hi,λi j x r hji hi hx hr=>a2 i j x r (SL _) hi hji hx hr⟩;have rf:=HD hch E hbd0 hn (λj hj=>by rw[M];exact hbd _ (S7 _ _));have B:∀(p:Nat->Bool) n,cz (λj=>false&&p j) n=none:=λp n=>by rw[qJ (k:=0) (SL _) (λi _ _=>by simp)];rfl
  have N:∀(p:Nat->Bool) n,cz (λj=>decide (j<n)&&p j) n=cz p n:=λp n=>jC λi hi=>by simp[hi]
  refine wp_region_any fit.order (HE (w0:=w) (σ0:=σ) fit hs hch E rf hst hed hn ?_ ops.size _ a _ Ud ?_ ?_ ?_)
  .intro a' w' hI;obtain⟨S,K',k1,k2,k3,k4,k5,k6,k7,k8,_⟩:=hI;have eS:(eI P F call ops H.next O H0 ops.size)=(D,K):=a3.symm;have G:∀c,K'.get c=K.get c:=λc=>by have:=Fx E rf c ops.size (Fd _);rw[eS]at this;rw[k2,hget,N];exact this.symm
   have hnx:K'.next=K.next:=by have:=Fy E ops.size (Fd _);rw[eS]at this;rw[k3,BV,N];exact this.symm
   have htg:∀t,nq P F call ops H.next O H0 (λi=>decide (i<ops.size)) t=D[t]? :=λt=>by have:=Fw E t ops.size (Fd _);rw[eS]at this;rw[nq,N];exact this.symm
   have hlen:D.length=O.length:=by have:=rf.len ops.size (Fd _);rw[eS]at this;exact this
   have hoK:aQ S ({K with log:=rs.flatMap (·.writes)++K.log}:ae)=aQ S K':=aQ.congr λb=>(G b).symm
   refine hQ a' w' ⟨S,⟨⟨by simp[hlen,k4],λt x u hx hu=>?_⟩,k5⟩,k1.congr (λb=>(G b).symm) (by rw[hnx];exact Fd _),by rw[hoK,<-Z];exact k7,λc pl hc=>k8 c pl hc⟩;rw[hoK];exact k6 t x u (by rw[htg];exact hx) (by rw[<-SY];exact hu)
  .intro i o ho hL;simp[Array.getD]at hL
  .have:(λi=>(Array.replicate ops.size false).getD i false)=λ_=>false:=by funext i;simp[Array.getD]
   rw[this,A6];exact Fd _
  .have:(λi=>(Array.replicate ops.size false).getD i false)=λ_=>false:=by funext i;simp[Array.getD]
   rw[this];refine⟨σ,H0,hW0.same rfl rfl rfl rfl,λc=>by rw[hget,B],by rw[BV,B],by have:=Y.1.1;simpa using this.symm,Y.2,λt x u hx hu=>?_,eH.same σ _ rfl rfl rfl rfl,λc pl hc=>.inl hc,λi hi _=>?_⟩
   .rw[nq,B]at hx;have:=Y.1.2 t x u hx (by rw[SY];exact hu);rw[<-Z]at this;have e:eH w σ (aQ σ H0) {w with drawn:=w.drawn+1} σ (aQ σ H0):=eH.same σ _ rfl rfl rfl rfl;exact this.mono e
   .cases hg:σ (H.next+i)with
    |none=>rfl
    |some pl=>have:=hW.named _ pl hg;omega
 .cases h
def j7(P:Program)(n:Nat)(c:Code)(τ:List AV)(H:ae)(e:Ex)(τ':List AV)(H':ae):Prop:=
 H.next<=H'.next/\∀(w:World) (σ:bE) (a:Act),bv w σ H->cD w σ (aQ σ H) τ a->∀Q:Exit->Act->World->Prop,(∀a' w',pU w σ H τ' H' a' w'->Q (Dn e) a' w')->Code.rounds P c Q n a w
end
end
section
open Go.RowKit
def GD(ops:Array Oper):Bool:=
 let M:=bS ops.toList []
 let N:=ops.toList.map λo=>(o.dst,hZ ops o)
 (List.range ops.size).all λi=>(List.range i).all λj=>
  (M.getD i 0).testBit j ||
  (match N[i]?,N[j]? with
   |some (di,ni),some (dj,nj)=>(match dj with|some t=>!ni.contains t|none=>true)&&(match di with|some t=>!nj.contains t|none=>true)
   |_,_=>true)
def BW(ops:Array Oper):Bool:=(List.range ops.size).all λi=>match ops[i]? with
 |some o=>o.after.toList.all λe=>!Region.binds .any e||decide (e.on<i)
 |none=>true
def iQ:Code->Bool
 |.region _ ops draw=>!draw||(GD ops&&BW ops)
 |.seq a b=>iQ a&&iQ b
 |.cond _ a b=>iQ a&&iQ b
 |.block _ b=>iQ b
 |.loop b=>iQ b
 |_=>true
def Dy{ops:Array Oper}(h:GD ops=true):lN ops:=by
 intro i j N M G B E;have S:i<ops.size:=(TK.1 B).1;unfold GD at h;simp only[SM,Tw]at h;have u:=h i S j G;have Z:(ops.toList.map λo=>(o.dst,hZ ops o))[i]? =some (N.dst,hZ ops N):=by rw[SJ,SY,B];rfl
 have Y:(ops.toList.map λo=>(o.dst,hZ ops o))[j]? =some (M.dst,hZ ops M):=by rw[SJ,SY,E];rfl
 rw[Z,Y]at u;simp only[T6,SN]at u;rcases u with u|⟨u,O⟩
 .exact .inl u
 .right;refine⟨λt D=>?_,λt D=>?_⟩
  .rw[D]at u;simpa using u
  .rw[D]at O;simpa using O
def A8{ops:Array Oper}(h:BW ops=true):rV ops:=by intro i o u e D E;have B:i<ops.size:=(TK.1 u).1;unfold BW at h;simp only[SM,Tw]at h;have j:=h i B;rw[u]at j;simp only[SM]at j;have:=j e D;rw[E]at this;simpa using this
def gG:∀(c:Code),iQ c=true->jD c
 | .region _ ops draw,h=>λj=>by subst j;simp only[iQ,Bool.not_true,Bool.false_or,SN]at h;exact⟨Dy h.1,A8 h.2⟩
 |.seq a b,h=>by simp only[iQ,SN]at h;exact⟨gG a h.1,gG b h.2⟩
 |.cond _ a b,h=>by simp only[iQ,SN]at h;exact⟨gG a h.1,gG b h.2⟩
 |.block _ b,h=>gG b h
 |.loop b,h=>gG b h
 |.skip,_=>trivial
 |.rangeFunc ..,_=>trivial
 |.exit _,_=>trivial
 |.scope _,_=>trivial
 |.label _,_=>trivial
 |.goto _,_=>trivial
 |.ret,_=>trivial
 |.refuse _,_=>trivial
def Dz (fn : Func) : Bool := (fn.name != "runtime.NumGoroutine") && (match fn.body with | some c => iQ c | none => true)
def MS {P : Program} (h : P.funcs.toList.all Dz = true) : (∀ (g : Nat) (fn : Func), P.funcs[g]? = some fn → fn.name ≠ "runtime.NumGoroutine") ∧ ∀ (g : Nat) (fn : Func) (c : Code), P.funcs[g]? = some fn → fn.body = some c → jD c := by
 rw[SM]at h;have key:∀(g:Nat) (fn:Func),P.funcs[g]? =some fn->Dz fn=true:=λg fn hg=>h fn (by rw[Array.mem_toList_iff];exact Array.mem_of_getElem? hg)
 refine⟨λg fn hg=>?_,λg fn c hg hc=>?_⟩
 .have:=key g fn hg;simp only[Dz,SN]at this;simpa using this.1
 .have:=key g fn hg;simp only[Dz,SN,hc]at this;exact gG c this.2
end
section
open Go.RowKit
inductive bA:AV->Prop where
 |int (k:IntKind) (n:Int):bA (.int k n)
 |bool (b:Bool):bA (.bool b)
 |str (s:List UInt8):bA (.str s)
 |nilp:bA .nilp
 |nils:bA .nils
 |emp:bA .emp
 |nilf:bA .nilf
 |junk:bA .junk
 |lst (rows:List (List AV)) (h:∀(i:Nat) (r:List AV) (j:Nat) (a:AV),rows[i]? =some r->r[j]? =some a->bA a):bA (.lst rows)
 |agg (cs:List AV) (h:∀(i:Nat) (a:AV),cs[i]? =some a->bA a):bA (.agg cs)
 |tup (cs:List AV) (h:∀(i:Nat) (a:AV),cs[i]? =some a->bA a):bA (.tup cs)
 |fn (f:FuncId) (cs:List AV) (h:∀(i:Nat) (a:AV),cs[i]? =some a->bA a):bA (.fn f cs)
section
variable {P:Program} {F:TypeId->Option (List TypeId)} {w w':World} {σ σ':bE} {T T':Nat->Prop}
theorem qF.shrink{rows:List (List AV)}{b o sz:Nat}(h:qF w T rows b o sz)(u:∀c,T' c->T c):qF w T' rows b o sz:=⟨λj=>h.out (u b j),h.even,h.cell,h.pos,h.ne⟩
theorem bA.rep{a:AV}(hp:bA a):∀{v:Value},bn w σ T a v->(∀c,T' c->T c)->bn w σ' T' a v:=by
 induction hp with
 |int k n=>intro v h _;cases h;exact .int k n
 |bool b=>intro v h _;cases h;exact .bool b
 |str s=>intro v h _;cases h;exact .str _
 |nilp=>intro v h _;cases h;exact .nilp
 |nils=>intro v h _;cases h;exact .nils
 |emp=>intro v h _;cases h;exact .emp _
 |nilf=>intro v h _;cases h;exact .nilf
 |junk=>intro v h _;exact .junk v
 |lst Z h G=>
  intro v M D;cases M with
  |lst0 a S hm=>exact .lst0 a S hm
  |lst _ b o sz S N hn hm O=>exact .lst Z b o sz S (N.shrink D) hn hm λi r j a u B E h3=>G i r j a B E (O i r j a u B E h3) D
 |agg cs h G=>
  intro v M D;cases M with
  |agg _ Y N O=>exact .agg cs Y N λi a v B E=>G i a B (O i a v B E) D
 |tup cs h G=>
  intro v M D;cases M with
  |tup _ Y N O=>exact .tup cs Y N λi a v B E=>G i a B (O i a v B E) D
 |fn f cs h G=>
  intro v M D;cases M with
  |fn _ _ Y N O=>exact .fn f cs Y N λi a v B E=>G i a B (O i a v B E) D
theorem c8(b:Nat):ae.empty.get b=none:=Tr.get_leaf b
def GE(P:Program)(f:FuncId)(args:List AV)(v:AV):Prop:=
 ∀(w:World) (σ:bE) (vs:List Value),bv w σ ae.empty->eG w σ (aQ σ ae.empty) args vs->Calls P f vs.toArray w λe w'=>
  ∃v' σ' H',e=.returned v'/\bn w' σ' (aQ σ' H') v v'/\eH w σ (aQ σ ae.empty) w' σ' (aQ σ' H')
theorem PI{f:FuncId}{args:List AV}{v:AV}(hv:bA v)(ha:∀(i:Nat) (a:AV),args[i]? =some a->bA a)(h:GE P f args v)(H:ae):mZ P f args H v H:=by
 intro w σ vs N O;have M:aQ ⟨λ_=>none,aQ σ H⟩ ae.empty=aQ σ H:=by
  funext c;apply propext;constructor
  .rintro(D|⟨b,x,E,D,_,_⟩)
   .exact D
   .rw[c8]at D;cases D
  .exact .inl
 have Y:∀c,aQ σ H c->c<w.heap.size:=λc j=>by
  rcases j with j|⟨b,x,E,D,S,rfl⟩
  .exact(N.apart c j).1
  .exact N.lt b E S
 have Z:bv w ⟨λ_=>none,aQ σ H⟩ ae.empty:=⟨λb E B=>(by cases B),λb E B=>(by cases B),λb x B=>(by rw[c8]at B;cases B),
  λc j=>⟨Y c j,λ⟨b,x,E,D,_,_⟩=>(by rw[c8]at D;cases D)⟩,λb b' x x' E pl' B=>(by rw[c8]at B;cases B),by rw[M];exact N.glob⟩
 refine(h w _ vs Z ⟨O.1,λi a u D S=>(ha i a D).rep (O.2 i a u D S) (λc j=>by rw[M]at j;exact j)⟩).mono ?_;rintro e w' ⟨v',σ',H1,rfl,k1,G⟩;have hE:eH w σ (aQ σ H) w' σ (aQ σ H):=
  ⟨G.os,G.tape,G.output,G.size,λc j hT=>G.keep c j (by rw[M];exact hT),G.shape,λ_ _ h=>h,rfl,λc j=>G.frame c (.inl j),λc j=>.inl j⟩
 refine⟨v',σ,rfl,hv.rep k1 (λc j=>.inl (by rw[G.eqfr];exact j)),⟨N.named,λb E B=>SW (N.lt b E B) G.size,λb x B=>?_,λc j=>⟨SW (N.apart c j).1 G.size,(N.apart c j).2⟩,N.inj,N.glob.mono hE⟩,hE,λc E j=>.inl j⟩;obtain⟨E,cs,e,D,S⟩:=N.live b x B;exact⟨E,cs,e,D,S.mono hE (G.frame _ (.inr ⟨b,x,E,B,D,rfl⟩))⟩
def BX(P:Program)(c:Code)(Q:Ex->List AV->ae->Prop)(τ:List AV)(H:ae):Prop:=
 ∀(w:World) (σ:bE) (a:Act),bv w σ H->cD w σ (aQ σ H) τ a->∀Q':Exit->Act->World->Prop,
  (∀e τ' H' a' w',Q e τ' H'->H.next<=H'.next->pU w σ H τ' H' a' w'->Q' (Dn e) a' w')->c.wp P Q' a w
variable {c c1 c2:Code} {Q Q2:Ex->List AV->ae->Prop} {τ:List AV} {H:ae}
theorem BX.of_ok{e:Ex}{j:List AV}{H':ae}(h:cO P c τ H e j H')(G:Q e j H'):BX P c Q τ H:=
 λw σ a E u N D=>h.2 w σ a E u N λM w' B=>D e j H' M w' G h.1 B
def Ex.then(next:List AV->ae->Prop)(Q:Ex->List AV->ae->Prop):Ex->List AV->ae->Prop
 |.normal,τ,H=>next τ H
 |e,τ,H=>Q e τ H
theorem BX.cond{x:Operand}{t:Bool}(G:jr τ x=.bool t)(h:BX P (if t then c1 else c2) Q τ H):BX P (.cond x c1 c2) Q τ H:=by intro w σ a E j M D;have B:=j.eval E.glob x;rw[G]at B;refine wp_cond (t:=t) ?_ (h w σ a E j M D);generalize a.eval x=u at B;cases B;rfl
theorem BX.exit{j:Nat}(h:Q (.exit j) τ H):BX P (.exit j) Q τ H:=λw σ a D u E B=>wp_exit (B (.exit j) τ H _ _ h (Fd _) (.refl D u))
theorem BX.ret(h:Q .ret τ H):BX P .ret Q τ H:=λw σ a B j D u=>wp_ret (u .ret τ H _ _ h (Fd _) (.refl B j))
def Ex.inBlock(id:Nat)(Q:Ex->List AV->ae->Prop):Ex->List AV->ae->Prop
 |.exit id',τ,H=>if id'=id then Q .normal τ H else Q (.exit id') τ H
 |e,τ,H=>Q e τ H
theorem BX.block{N:Nat}(h:BX P c (Ex.inBlock N Q) τ H):BX P (.block N c) Q τ H:=by
 intro w σ a S G Q' u;refine wp_block (h w σ a S G _ λe O H1 Z Y B D j=>?_);cases e with
 |normal=>exact u _ _ _ _ _ B D j
 |ret=>exact u _ _ _ _ _ B D j
 |exit E=>
  simp only[Ex.inBlock]at B;simp only[Dn,Exit.inBlock];split
  .rename_i M;rw[if_pos M]at B;exact u .normal _ _ _ _ B D j
  .rename_i M;rw[if_neg M]at B;exact u (.exit E) _ _ _ _ B D j
theorem vf{u:Exit->Act->World->Prop}:∀{n m:Nat} {a:Act} {w:World},n<=m->Code.rounds P c u n a w->Code.rounds P c u m a w
 |0,m,a,w,_,h=>h.elim
 | n+1,m,a,w,hm,h=>by
  obtain⟨k,rfl⟩:∃k,m=k+1:=⟨m-1,Ua⟩;rw[rounds_succ]at h ⊢;refine wp_mono h λe B w' j=>?_
  cases e with
  |normal=>exact vf Ua j
  |_=>exact j
theorem BX.loop(I:Nat->List AV->ae->Prop)(hs:∀n τ H,I n τ H->BX P c (Ex.then (λu H'=>∃m,m<n/\I m u H') Q) τ H)(n:Nat)(h0:I n τ H):BX P (.loop c) Q τ H:=by
 have Y:∀n τ H,I n τ H->∀(w:World) (σ:bE) (a:Act),bv w σ H->cD w σ (aQ σ H) τ a->∀E:Exit->Act->World->Prop,
   (∀e u H' a' w',Q e u H'->H.next<=H'.next->pU w σ H u H' a' w'->E (Dn e) a' w')->Code.rounds P c E (n+1) a w:=by
  intro n
  induction n using Nat.strongRecOn with
  |_ n ih=>
   intro τ H hI w σ a hW B E j;rw[rounds_succ];refine hs n τ H hI w σ a hW B _ λe O H1 a1 w1 Z M D=>?_
   cases e with
   |normal=>obtain⟨m,hm,hI1⟩:=Z;obtain⟨S,t1,r1,e1,m1⟩:=D;exact vf Ua (ih m hm O H1 hI1 w1 S a1 r1 t1 E λe2 N H2 a2 w2 q2 n2 G=>j e2 N H2 a2 w2 q2 (SK M n2) (G.trans e1 m1 M))
   |exit id=>exact j _ _ _ _ _ Z M D
   |ret=>exact j _ _ _ _ _ Z M D
 intro w σ a hW B E j;exact wp_loop_rounds (n+1) (Y n τ H h0 w σ a hW B E j)
end
def FA:FuncId->List AV->ae->Option (AV×ae):=λ_ _ _=>none
theorem rW(P:Program):ez P FA:=⟨λ_ _ _ _ _ h=>(by cases h),λ_ _ _ _ _ h=>(by cases h),λ_ _ _ _ _ h=>(by cases h)⟩
theorem BX.reg{P:Program}{F:TypeId->Option (List TypeId)}{call:FuncId->List AV->ae->Option (AV×ae)}(fit:Fit P F)(B:ez P call){ops:Array Oper}{u:Nat}{Q:Ex->List AV->ae->Prop}{τ:List AV}{H:ae}{j:List AV}{H':ae}(h:dJ P F call ops false τ H=some (j,H'))(D:Q .normal j H'):BX P (.region u ops false) Q τ H:=
 .of_ok (fY fit B h) D
theorem BX.ops{P:Program}{F:TypeId->Option (List TypeId)}{call:FuncId->List AV->ae->Option (AV×ae)}(fit:Fit P F)(B:ez P call){ops:Array Oper}{u:Nat}{Q:Ex->List AV->ae->Prop}{τ:List AV}{H:ae}{j:List AV}{H':ae}(h:lH P F call ops H.next (List.range ops.size) τ {H with next:=H.next+ops.size}=some (j,H'))(D:Q .normal j H'):BX P (.region u ops false) Q τ H:=
 .of_ok (fY fit B (by simp only[dJ,SO,if_false];exact h)) D
end
def gH(P:Program)(f:FuncId)(args:List AV)(v:AV):Prop:=(∀H,mZ P f args H v H)/\∃fn c,P.funcs[f]? =some fn/\fn.body=some c
def gH.of_v{P:Program}{f:FuncId}{args:List AV}{v:AV}{j:Func}{c:Code}(B:P.funcs[f]? =some j)(D:j.body=some c)(u:bA v)(E:∀(i:Nat) (a:AV),args[i]? =some a->bA a)(h:GE P f args v):gH P f args v:=
 ⟨λH=>PI u E h H,j,c,B,D⟩
def rX(f:AV->Option AV)(rows:List (List AV)):Option (List (List AV)):=cf (rows.map λr=>cf (r.map f))
def frz(K:ae):Nat->AV->Option AV
 |0,_=>none
 | d+1,a=>match a with
  | .sl b i n=>if n=0 then some (.lst [])else match K.get b with
   |some x=>if 0<x.size/\i+n<=x.rows.length then(rX (frz K d) ((x.rows.drop i).take n)).map .lst else none
   |none=>none
  |.nils=>some (.lst [])
  |.lst rows=>(rX (frz K d) rows).map .lst
  |.agg cs=>(cf (cs.map (frz K d))).map .agg
  |.tup cs=>(cf (cs.map (frz K d))).map .tup
  |.ptr ..=>none
  |.pptr ..=>none
  |.fn ..=>none
  |.mp ..=>none
  |.it ..=>none
  |a=>some a
def nr{f:AV->Option AV}{l m:List AV}(h:cf (l.map f)=some m):l.length=m.length/\∀(i:Nat) (y:AV),m[i]? =some y->∃x,l[i]? =some x/\f x=some y:=by
 obtain⟨D,B⟩:=iD _ _ h;refine⟨by simpa using D,λi y u=>?_⟩;have:=B i y u;rw[SJ]at this;cases j:l[i]? with
 |none=>rw[j]at this;cases this
 |some x=>rw[j]at this;exact⟨x,rfl,by simpa using this⟩
def vg{f:AV->Option AV}{l m:List (List AV)}(h:rX f l=some m):l.length=m.length/\∀(i:Nat) (u:List AV),m[i]? =some u->∃r,l[i]? =some r/\r.length=u.length/\∀(j:Nat) (y:AV),u[j]? =some y->∃x,r[j]? =some x/\f x=some y:=by
 obtain⟨N,M⟩:=iD _ _ h;refine⟨by simpa using N,λi u B=>?_⟩;have:=M i u B;rw[SJ]at this;cases D:l[i]? with
 |none=>rw[D]at this;cases this
 |some r=>rw[D]at this;simp only[S0,SF]at this;obtain⟨G,E⟩:=nr this;exact⟨r,rfl,G,E⟩
def rY{w:World}{σ:bE}{K:ae}(hW:bv w σ K):∀(d:Nat) (a a':AV) (v:Value),frz K d a=some a'->bn w σ (aQ σ K) a v->bn w σ (aQ σ ae.empty) a' v
 |0,a,a',v,h,_=>by cases h
 | d+1,a,a',v,h,hr=>by
  have hout:∀c,¬aQ σ K c->¬aQ σ ae.empty c:=λc Y ho=>by
   rcases ho with ho|⟨b,x,pl,h1,_,_⟩
   .exact Y (.inl ho)
   .rw[c8]at h1;cases h1
  cases a with
  |sl b i n=>
   simp only[frz]at h;obtain⟨pl,ad,M,rfl,hs,hn,hm,ha⟩:=hr.sl_inv;split at h
   .rename_i h0;cases h;rw[h0];exact .lst0 _ _ hm
   .rename_i h0;split at h
    .rename_i x hx;split at h
     .rename_i Y;cases D:rX (frz K d) ((x.rows.drop i).take n)with
      |none=>rw[D]at h;cases h
      |some m=>
       rw[D]at h;cases h;obtain⟨rfl,cs,ty,hcs,hroom⟩:=ha Ua;obtain⟨pl',cs',e',g1,Z⟩:=hW.live b x hx;rw[hs]at g1;cases g1;replace Z:=Z.1 (hr.sl_ok hs);obtain⟨f1,S⟩:=vg D;have G:m.length=n:=by rw[<-f1];simp;omega
       have get:∀(q:Nat) (r:List AV),((x.rows.drop i).take n)[q]? =some r->q<n/\x.rows[i+q]? =some r:=λq r hq=>by have hq':=aA hq;rw[<-f1]at G;rw[G]at hq';rw[S5 hq',Ti]at hq;exact⟨hq',hq⟩
       have hnot:¬aQ σ ae.empty pl.block:=λho=>by
        rcases ho with ho|⟨b',x',pl'',h1,_,_⟩
        .exact(hW.apart _ ho).2 ⟨b,x,pl,hx,hs,rfl⟩
        .rw[c8]at h1;cases h1
       have:=bn.lst (w:=w) (σ:=σ) (T:=aQ σ ae.empty) m pl.block (pl.base+i*pl.size) pl.size M
        ⟨hnot,λq r' B=>by
         obtain⟨r,E,N,_⟩:=S q r' B;rw[<-N,Z.even _ r (get q r E).2,Z.size],λq j hq hj=>by
         obtain⟨r,E,N,_⟩:=S q m[q] (mt hq);have hrow:=Z.row (get q r E).2;have hj':j<r.length:=by rw[Z.even _ r (get q r E).2,<-Z.size];exact hj
         obtain⟨u,O,_⟩:=hrow j _ (mt hj');rw[Tg,<-Tq]at O;exact⟨u,O⟩,by rw[Z.size];exact Y.1,Ua⟩ Ua hm
        (λq r' j y u B hy O=>by
         obtain⟨r,E,N,k3⟩:=S q r' B;obtain⟨z,k4,k5⟩:=k3 j y hy;obtain⟨u',hu',hz⟩:=Z.row (get q r E).2 j z k4;rw[Tg,<-Tq]at hu';rw[O]at hu';cases hu';exact rY hW d z y u k5 hz)
       rw[G]at this;exact this
     .cases h
    .cases h
  |nils=>simp only[frz]at h;cases h;cases hr;exact .lst0 _ _ (by unfold maxLen;omega)
  |lst rows=>
   simp only[frz]at h;cases D:rX (frz K d) rows with
   |none=>rw[D]at h;cases h
   |some m=>
    rw[D]at h;cases h;obtain⟨f1,S⟩:=vg D;cases hr with
    |lst0 a M hm=>
     have:m=[]:=by cases m with
      |nil=>rfl
      |cons x m=>simp at f1
     subst this;exact .lst0 a M hm
    |lst _ b o sz M hl hn hm Y=>
     have:=bn.lst (w:=w) (σ:=σ) (T:=aQ σ ae.empty) m b o sz M
      ⟨hout b hl.out,λq r' B=>by
       obtain⟨r,E,N,_⟩:=S q r' B;rw[<-N,hl.even q r E],λq j hq hj=>hl.cell q j Ua hj,hl.pos,by rw[<-f1];exact hl.ne⟩ Ua hm
      (λq r' j y u B hy O=>by
       obtain⟨r,E,N,k3⟩:=S q r' B;obtain⟨z,k4,k5⟩:=k3 j y hy;exact rY hW d z y u k5 (Y q r j z u E k4 O))
     rw[<-f1]at this;exact this
  |agg cs=>
   simp only[frz]at h;cases D:cf (cs.map (frz K d))with
   |none=>rw[D]at h;cases h
   |some m=>
    rw[D]at h;cases h;obtain⟨f1,S⟩:=nr D;cases hr with
    |agg _ vs hl Y=>
     refine .agg m vs Ua λq y u hy O=>?_
     obtain⟨x,E,N⟩:=S q y hy;exact rY hW d x y u N (Y q x u E O)
  |tup cs=>
   simp only[frz]at h;cases D:cf (cs.map (frz K d))with
   |none=>rw[D]at h;cases h
   |some m=>
    rw[D]at h;cases h;obtain⟨f1,S⟩:=nr D;cases hr with
    |tup _ vs hl Y=>
     refine .tup m vs Ua λq y u hy O=>?_
     obtain⟨x,E,N⟩:=S q y hy;exact rY hW d x y u N (Y q x u E O)
  |int k n=>simp only[frz]at h;cases h;cases hr;exact .int k n
  |bool b=>simp only[frz]at h;cases h;cases hr;exact .bool b
  |str s=>simp only[frz]at h;cases h;cases hr;exact .str _
  |nilp=>simp only[frz]at h;cases h;cases hr;exact .nilp
  |emp=>simp only[frz]at h;cases h;cases hr;exact .emp _
  |nilf=>simp only[frz]at h;cases h;cases hr;exact .nilf
  |junk=>simp only[frz]at h;cases h;exact .junk v
  |ptr b i off=>simp[frz]at h
  |pptr rows i off=>simp[frz]at h
  |fn f cs=>simp[frz]at h
  |mp b=>simp[frz]at h
  |it b=>simp[frz]at h
end Go.Proofs.YtbofdbhnbodbiaaGreatDoor.Am
