/- part -/
import Derived.Test.YtfcfhjadaknphaaGreatDoorQxb
import Derived.Laws.OwnMore
import Derived.Laws.MakeOwn
import Derived.OwnWalk
set_option linter.all false
set_option maxRecDepth 100000
set_option maxHeartbeats 0
namespace Go.Proofs.YtfcfhjadaknphaaGreatDoor.Am
section
def cq:Op->List Operand
 |.move x|.assign x|.box _ x|.load _ x|.nilCheck x|.unOp _ _ x|.convert _ _ x|.fieldAddr _ x _|.field _ x _|.extract x _=>[x]
 |.pick c a b=>[c,a,b]
 |.build _ ps|.buildSlice _ _ ps=>ps.toList.map (·.2)
 |.store _ a v|.binOp _ _ a v _|.makeSlice _ a v|.indexAddr _ a v|.index _ a v=>[a,v]
 |.makeFunc _ _ c=>c.toList
 |.lookup _ m k _=>[m,k]
 |.mapUpdate _ m k x=>[m,k,x]
 |.range _ x|.next x _=>[x]
 |.slice _ x l h m=>x::(l.toList++h.toList++m.toList)
 |.call c=>(match c.callee with|.value f=>[f]|_=>[])++c.args.toList
 |_=>[]
section
variable {P:Program} {F:TypeId->Option (List TypeId)}
theorem JS{ρ j:Operand->AV}{l:List Operand}(h:∀x∈l,ρ x=j x):l.map ρ=l.map j:=List.map_congr_left h
theorem Dv{ρ j:Operand->AV}{ps:List (Nat×Operand)}(h:∀x∈ps.map (·.2),ρ x=j x):(ps.map λp=>(p.1,ρ p.2))=ps.map λp=>(p.1,j p.2):=
 List.map_congr_left λp hp=>by rw[h p.2 (Xi.2 ⟨p,hp,rfl⟩)]
theorem px{ρ j:Operand->AV}:∀{l:List Operand},(∀x∈l,ρ x=j x)->(l.flatMap λx=>am (ρ x))=l.flatMap λx=>am (j x)
 |[],_=>rfl
 |a::l,h=>by simp only[List.flatMap_cons];rw[h a YF,px λx u=>h x (by simp[u])]
theorem JT{o:Op}{ρ j:Operand->AV}(h:∀x∈cq o,ρ x=j x)(b:Nat)(H:af):bA P F o ρ b H=bA P F o j b H/\aT o ρ=aT o j/\aJ o ρ=aJ o j:=by
 cases o with
 |build t ps=>refine⟨?_,rfl,rfl⟩;simp only[bA];rw[Dv h]
 |buildSlice t n ps=>refine⟨?_,rfl,rfl⟩;simp only[bA];rw[Dv h]
 |makeFunc fn first c=>refine⟨?_,rfl,rfl⟩;cases fn<;>simp only[bA];rw[JS (l:=c.toList) h]
 |slice t x l G m=>
  have B:=h x (by simp[cq]);have S:l.map ρ=l.map j:=by cases l with
   |none=>rfl
   |some y=>simp[h y (by simp[cq])]
  have Z:G.map ρ=G.map j:=by cases G with
   |none=>rfl
   |some y=>simp[h y (by simp[cq])]
  have D:m.map ρ=m.map j:=by cases m with
   |none=>rfl
   |some y=>simp[h y (by simp[cq])]
  exact⟨by simp only[bA];rw[B,S,Z,D],by simp only[aT];rw[B],rfl⟩
 |call c=>
  have M:c.args.toList.map ρ=c.args.toList.map j:=JS λx B=>h x (by simp only[cq,WM];exact .inr B)
  have D:∀x∈c.args.toList,ρ x=j x:=λx B=>h x (by simp only[cq,WM];exact .inr B)
  have O:aT (.call c) ρ=aT (.call c) j:=by
   simp only[aT];split
   .exact px D
   .exact px D
   .rfl
  have Y:aJ (.call c) ρ=aJ (.call c) j:=by
   simp only[aJ];split
   .exact px λx B=>D x (List.mem_of_mem_take B)
   .exact px D
   .rfl
  refine⟨?_,O,Y⟩;simp only[bA];split
  .rw[M]
  .rename_i f hf;rw[h f (by simp only[cq,hf];simp),M]
  .rfl
 |store t a v=>refine⟨by simp only[bA];rw[h a (by simp[cq]),h v (by simp[cq])],by simp only[aT];rw[h a (by simp[cq])],by simp only[aJ];rw[h a (by simp[cq])]⟩
 |load t a=>refine⟨by simp only[bA];rw[h a (by simp[cq])],by simp only[aT];rw[h a (by simp[cq])],rfl⟩
 |indexAddr t a v=>refine⟨by simp only[bA];rw[h a (by simp[cq]),h v (by simp[cq])],by simp only[aT];rw[h a (by simp[cq])],rfl⟩
 |pick c x y=>refine⟨by simp only[bA];rw[h c (by simp[cq]),h x (by simp[cq]),h y (by simp[cq])],rfl,rfl⟩
 |binOp op t x y u=>refine⟨by simp only[bA];rw[h x (by simp[cq]),h y (by simp[cq])],rfl,rfl⟩
 |makeSlice t x y=>refine⟨by simp only[bA];rw[h x (by simp[cq]),h y (by simp[cq])],rfl,rfl⟩
 |index t x y=>refine⟨by simp only[bA];rw[h x (by simp[cq]),h y (by simp[cq])],rfl,rfl⟩
 |move x=>refine⟨by simp only[bA];rw[h x (by simp[cq])],rfl,rfl⟩
 |assign x=>refine⟨by simp only[bA];rw[h x (by simp[cq])],rfl,rfl⟩
 |box t x=>refine⟨by simp only[bA];rw[h x (by simp[cq])],rfl,rfl⟩
 |nilCheck x=>refine⟨by simp only[bA];rw[h x (by simp[cq])],rfl,rfl⟩
 |unOp op t x=>refine⟨by simp only[bA];rw[h x (by simp[cq])],rfl,rfl⟩
 |convert s d x=>refine⟨by simp only[bA];rw[h x (by simp[cq])],rfl,rfl⟩
 |fieldAddr s x f=>refine⟨by simp only[bA];rw[h x (by simp[cq])],rfl,rfl⟩
 |field s x f=>refine⟨by simp only[bA];rw[h x (by simp[cq])],rfl,rfl⟩
 |extract x i=>refine⟨by simp only[bA];rw[h x (by simp[cq])],rfl,rfl⟩
 |makeMap t r=>cases r<;>exact⟨rfl,rfl,rfl⟩
 |lookup t m k ok=>exact⟨by simp only[bA];rw[h m (by simp[cq]),h k (by simp[cq])],by simp only[aT];rw[h m (by simp[cq])],rfl⟩
 |mapUpdate t m k x=>exact⟨by simp only[bA];rw[h m (by simp[cq]),h k (by simp[cq]),h x (by simp[cq])],by simp only[aT];rw[h m (by simp[cq])],by simp only[aJ];rw[h m (by simp[cq])]⟩
 |range t x=>exact⟨by simp only[bA];rw[h x (by simp[cq])],rfl,rfl⟩
 |next E s=>cases s<;>exact⟨by simp only[bA]<;>rw[h E (by simp[cq])],by simp only[aT];rw[h E (by simp[cq])],by simp only[aJ];rw[h E (by simp[cq])]⟩
 |_=>exact⟨rfl,rfl,rfl⟩
def uo(P:Program)(F:TypeId->Option (List TypeId))(o:Op)(ρ:Operand->AV)(b:Nat)(v:AV)(H' K:af):Prop:=
 ∃K',bA P F o ρ b K=some (.val v K')/\K'.next=K.next/\∀c,K'.get c=if c∈aJ o ρ\/c=b then H'.get c else K.get c
theorem uo.same{o:Op}{ρ:Operand->AV}{b:Nat}{v:AV}{H K:af}(B:K.get b=H.get b)(u:aJ o ρ=[])(h:bA P F o ρ b K=some (.val v K)):uo P F o ρ b v H K:=by
 refine⟨K,h,rfl,λc=>?_⟩;rw[u];split
 .rename_i j;rcases j with j|j
  .simp at j
  .rw[j];exact B
 .rfl
theorem uo.new{o:Op}{ρ:Operand->AV}{b:Nat}{v:AV}{H K:af}{x:Blk}(u:aJ o ρ=[])(h:bA P F o ρ b K=some (.val v (K.new b x))):uo P F o ρ b v (H.new b x) K:=by
 refine⟨_,h,rfl,λc=>?_⟩;rw[u,af.get_new,af.get_new];by_cases j:b=c
 .rw[if_pos j,if_pos j,if_pos (.inr j.symm)]
 .rw[if_neg j,if_neg];rintro(h1|h1)
  .simp at h1
  .exact j h1.symm
theorem uo.put{o:Op}{ρ:Operand->AV}{b q:Nat}{v:AV}{H K:af}{x:Blk}(D:K.get b=H.get b)(B:aJ o ρ=[q])(h:bA P F o ρ b K=some (.val v (K.put q (some x)))):uo P F o ρ b v (H.put q (some x)) K:=by
 refine⟨_,h,rfl,λd=>?_⟩;rw[B,af.get_put,af.get_put];by_cases j:q=d
 .rw[if_pos j,if_pos j,if_pos (.inl (by simp[j]))]
 .rw[if_neg j,if_neg j];split
  .rename_i u;rcases u with u|u
   .simp at u;exact absurd u.symm j
   .rw[u];exact D
  .rfl
theorem uo.sameW{o:Op}{ρ:Operand->AV}{b q:Nat}{v:AV}{H K:af}(D:K.get b=H.get b)(u:aJ o ρ=[q])(B:K.get q=H.get q)(h:bA P F o ρ b K=some (.val v K)):uo P F o ρ b v H K:=by
 refine⟨K,h,rfl,λc=>?_⟩;rw[u];split
 .rename_i j;rcases j with j|j
  .simp at j;rw[j];exact B
  .rw[j];exact D
 .rfl
theorem uq{H K:af}{n:Nat}{x:AV}(j:∀c∈am x,K.get c=H.get c):gV K n x=gV H n x:=by cases x<;>simp only[gV];rw[j _ (by simp[am])]
theorem Gc{H K:af}{x:AV}(j:∀c∈gE x,K.get c=H.get c):nB K x=nB H x:=by cases x<;>simp only[nB];rw[j _ (by simp[gE])]
theorem KV{o:Op}{ρ:Operand->AV}{b:Nat}{v:AV}{H H':af}(h:bA P F o ρ b H=some (.val v H'))(K:af)(hr:∀c∈aT o ρ,K.get c=H.get c)(S:K.get b=H.get b):uo P F o ρ b v H' K:=by
 cases o with
 |load t a=>
  simp only[bA]at h;obtain⟨O,rfl⟩:=gJ h;refine .same S rfl ?_;have:oz P K t (ρ a)=oz P H' t (ρ a):=by simp only[aT]at hr;generalize ρ a=x at hr;cases x<;>simp only[oz];rw[hr _ (by simp[am])]
  simp only[bA,this,O,Xl]
 |indexAddr t x ix=>
  simp only[bA]at h;obtain⟨O,rfl⟩:=gJ h;refine .same S rfl ?_;have:fg P (nB K (ρ x)) t (ρ x) (ρ ix)=some v:=by rw[Gc hr];exact O
  simp only[bA,this,Xl]
 |slice t x lo hi mx=>
  simp only[bA]at h;split at h
  .cases h
  .rename_i hcnd;obtain⟨O,rfl⟩:=gJ h;refine .same S rfl ?_;have:lT P (nB K (ρ x)) t (ρ x) (lo.map ρ) (hi.map ρ) (mx.map ρ)=some v:=by rw[Gc hr];exact O
   simp only[bA,this,Xl];rw[if_neg hcnd]
 |store t a x=>
  simp only[bA]at h;cases Y:io P H t (ρ a) (ρ x)with
  |none=>rw[Y]at h;cases h
  |some H1=>
   rw[Y]at h;cases h;simp only[aT]at hr;have hst2:=Y;unfold io at Y;split at Y
   .rename_i c i off cs n ha hcs hn;rw[ha]at hr;have hkc:=hr c (by simp[am]);split at Y
    .rename_i y hy;split at Y
     .rename_i r hrw;split at Y
      .rename_i B;cases Y;refine⟨K.put c (some {y with rows:=y.rows.set i (bL r off cs)}),?_,rfl,λd=>?_⟩
       .simp only[bA,io,ha,hcs,hn,hkc,hy,hrw];rw[if_pos B];rfl
       .have hw:aJ (.store t a x) ρ=[c]:=by simp[aJ,ha,am]
        rw[hw,af.get_put,af.get_put];by_cases hd:c=d
        .rw[if_pos hd,if_pos hd,if_pos (.inl (by simp[hd]))]
        .rw[if_neg hd,if_neg hd];split
         .rename_i Z;rcases Z with Z|Z
          .simp at Z;exact absurd Z.symm hd
          .rw[Z];exact S
         .rfl
      .cases Y
     .cases Y
    .cases Y
   .cases Y
 |call c=>
  simp only[bA]at h;split at h
  .rename_i bi E;cases j:bJ P H b bi c.argTypes (c.args.toList.map ρ)with
   |none=>rw[j]at h;cases h
   |some r=>
    obtain⟨v0,H1⟩:=r;rw[j]at h;cases h;have fin:∀{K':af} {u:AV},bJ P K b bi c.argTypes (c.args.toList.map ρ)=some (u,K')->bA P F (.call c) ρ b K=some (.val u K'):=λhk=>by simp only[bA,E,hk,Xl]
    have wnil:bi≠.append/\bi≠.clear->aJ (.call c) ρ=[]:=λhne=>by simp only[aJ,E];cases bi<;>first|rfl|exact absurd rfl hne.1|exact absurd rfl hne.2
    have hbi0:=j;unfold bJ at j;split at j
    .rename_i s G;split at j
     .rename_i hty;cases j;exact .same S (wnil YF) (fin (by rw[G];simp only[bJ,hty]))
     .cases j
    .rename_i x hne G;have e:H1=H:=by
      split at j
      .rw[Ym]at j;obtain⟨n,_,hn⟩:=j;cases hn;rfl
      .cases j;rfl
      .cases j
     subst e;refine .same S (wnil YF) (fin ?_);rw[G];unfold bJ;split
     .rename_i s e1 e2;cases e2;exact absurd rfl (hne s)
     .rename_i x' hne' e1 e2;cases e2;split at j
      .rw[Ym]at j;obtain⟨n,hl,hn⟩:=j;cases hn;simp only[hl,Xl]
      .cases j;rfl
      .cases j
     .rename_i e1 e2;cases e2
     .rename_i e1 e2;cases e2
     .rename_i e1 e2;cases e2
     .rename_i e1 e2;cases e1
     .rename_i e1 e2 e3 e4 e5 e6;simp_all
    .rename_i s x G;obtain⟨a0,a1,D,h0,O⟩:=qG G;split at j
     .rename_i t tx htt;split at j
      .rename_i e' hu';have hrs:∀c'∈am s,K.get c'=H.get c':=λc' hc'=>hr c' (by simp[aT,E,D,h0,hc'])
       have hrx:∀c'∈am x,K.get c'=H.get c':=λc' hc'=>hr c' (by simp[aT,E,D,O,hc'])
       have red:∀{K':af} {u:AV},dO P K b t s x=some (u,K')->bJ P K b .append c.argTypes (c.args.toList.map ρ)=some (u,K'):=λhk=>by rw[G];simp only[bJ,htt,hu',hk]
       unfold dO at j;split at j
       .rename_i e hu;split at j
        .rename_i n by_ z hn hby hz;split at j
         .rename_i l m hl hm;have hl':gV K n s=some l:=by rw[uq hrs];exact hl
          have hm':gV K n x=some m:=by rw[uq hrx];exact hm
          split at j
          .rename_i B;split at j
           .split at j
            .rename_i hm0;cases j;refine .same S (by simp[aJ,E,D,h0,am]) (fin (red ?_));simp only[dO,hu,hn,hby,hz,hl',hm'];rw[if_pos B,if_pos hm0]
            .rename_i hm0;cases j;refine .new (by simp[aJ,E,D,h0,am]) (fin (red ?_));simp only[dO,hu,hn,hby,hz,hl',hm'];rw[if_pos B,if_neg hm0]
           .split at j
            .rename_i hm0;cases j;refine .same S (by simp[aJ,E,D,h0,am]) (fin (red ?_));simp only[dO,hu,hn,hby,hz,hl',hm'];rw[if_pos B,if_pos hm0]
            .rename_i hm0;cases j;refine .new (by simp[aJ,E,D,h0,am]) (fin (red ?_));simp only[dO,hu,hn,hby,hz,hl',hm'];rw[if_pos B,if_neg hm0]
           .rename_i b' i k;cases j;have hw:aJ (.call c) ρ=[b']:=by simp[aJ,E,D,h0,am]
            refine⟨(K.put b' none).new b ⟨n,l++m⟩,fin (red ?_),rfl,λd=>?_⟩
            .simp only[dO,hu,hn,hby,hz,hl',hm'];rw[if_pos B]
            .rw[hw,af.get_new,af.get_new,af.get_put,af.get_put];by_cases hd:b=d
             .rw[if_pos hd,if_pos hd,if_pos (.inr hd.symm)]
             .rw[if_neg hd,if_neg hd];by_cases hd':b'=d
              .rw[if_pos hd',if_pos hd',if_pos (.inl (by simp[hd']))]
              .rw[if_neg hd',if_neg hd',if_neg];rintro(O|O)
               .simp at O;exact hd' O.symm
               .exact hd O.symm
           .cases j
          .cases j
         .cases j
        .cases j
       .cases j
      .cases j
     .cases j
    .rename_i k a k' c' G;split at j
     .rename_i hk;cases j;exact .same S (wnil YF) (fin (by rw[G];simp only[bJ];rw[if_pos hk]))
     .cases j
    .rename_i k a k' c' G;split at j
     .rename_i hk;cases j;exact .same S (wnil YF) (fin (by rw[G];simp only[bJ];rw[if_pos hk]))
     .cases j
    .rename_i x G;split at j
     .rename_i t htt;cases M:gD P H t x with
      |none=>rw[M]at j;cases j
      |some K1=>
       rw[M]at j;cases j;obtain⟨a0,D,h0⟩:=qF G;have red:∀{K':af},gD P K t x=some K'->bJ P K b .clear c.argTypes (c.args.toList.map ρ)=some (.tup [],K'):=λhk=>by rw[G];simp only[bJ,htt,hk,Xl]
       unfold gD at M;split at M
       .rename_i e hu;split at M
        .rename_i n z hn hz;split at M
         .cases M;exact .same S (by simp[aJ,E,D,h0,am]) (fin (red (by simp only[gD,hu,hn,hz])))
         .rename_i d i k;split at M
          .rename_i y hy;split at M
           .rename_i B;cases M;have hkd:K.get d=some y:=by rw[hr d (by simp[aT,E,D,h0,am])];exact hy
            have hw:aJ (.call c) ρ=[d]:=by simp[aJ,E,D,h0,am]
            refine⟨K.put d (some {y with rows:=y.rows.take i++List.replicate k z++y.rows.drop (i+k)}),fin (red ?_),rfl,λq=>?_⟩
            .simp only[gD,hu,hn,hz,hkd];rw[if_pos B]
            .rw[hw,af.get_put,af.get_put];by_cases hd:d=q
             .rw[if_pos hd,if_pos hd,if_pos (.inl (by simp[hd]))]
             .rw[if_neg hd,if_neg hd];split
              .rename_i Z;rcases Z with Z|Z
               .simp at Z;exact absurd Z.symm hd
               .rw[Z];exact S
              .rfl
           .cases M
          .cases M
         .cases M
        .cases M
       .cases M
     .cases j
    .cases j
  .split at h<;>cases h
  .cases h
 |alloc t=>
  simp only[bA]at h;split at h
  .rename_i cs hcs;cases h;exact .new rfl (by simp only[bA,hcs])
  .cases h
 |box t x=>
  simp only[bA]at h;split at h
  .rename_i cs hcs;split at h
   .rename_i ho;cases h;exact .new rfl (by simp only[bA,hcs];rw[if_pos ho])
   .cases h
  .cases h
 |buildSlice t len parts=>
  simp only[bA]at h;split at h
  .rename_i e hu;split at h
   .rename_i n z hn hz;split at h
    .rename_i Z;cases hf:fw n (List.replicate len z) (parts.toList.map λp=>(p.1,ρ p.2))with
     |none=>rw[hf]at h;cases h
     |some rows=>rw[hf]at h;cases h;exact .new rfl (by simp only[bA,hu,hn,hz];rw[if_pos Z,hf];rfl)
    .cases h
   .cases h
  .cases h
 |makeSlice t l c=>
  simp only[bA]at h;split at h
  .rename_i e hu;split at h
   .rename_i n by_ z l' c' hn hby hz hl Z;split at h
    .rename_i B;cases h;exact .new rfl (by simp only[bA,hu,hn,hby,hz,hl,Z];rw[if_pos B])
    .cases h
   .cases h
  .cases h
 |makeFunc fn first cap=>
  cases fn<;>simp only[bA]at h<;>(try (cases h;done));split at h
  .rename_i hf;cases h;exact .same S rfl (by simp only[bA];rw[if_pos hf])
  .cases h
 |pick c x y=>
  simp only[bA]at h;split at h
  .rename_i t Z;cases h;exact .same S rfl (by simp only[bA,Z])
  .cases h
 |nilCheck x=>simp only[bA]at h;split at h<;>(try (cases h;done))<;>(rename_i G;cases h;exact .same S rfl (by simp only[bA,G]))
 |extract x i=>
  simp only[bA]at h;split at h
  .rename_i vs hx;obtain⟨O,rfl⟩:=gJ h;exact .same S rfl (by simp only[bA,hx,O];rfl)
  .cases h
 |makeMap t r=>
  cases r with
  |none=>simp only[bA]at h;cases h;exact .new rfl rfl
  |some r=>simp[bA]at h
 |lookup t m k ok=>simp only[bA]at h;obtain⟨O,rfl⟩:=gJ h;obtain⟨c,x,hm,hx,hK⟩:=zS O;refine .same S rfl ?_;simp only[bA];rw[hK K (by rw[hr c (by simp[aT,hm,am]),hx])];rfl
 |mapUpdate t m k x=>
  simp only[bA]at h;cases hs:gk P H t (ρ m) (ρ k) (ρ x)with
  |none=>rw[hs]at h;cases h
  |some H2=>rw[hs]at h;cases h;obtain⟨c,y,y',hm,hy,rfl,hK⟩:=nG hs;refine .put S (by simp[aJ,hm,am]) ?_;simp only[bA];rw[hK K (by rw[hr c (by simp[aT,hm,am]),hy])];rfl
 |range t x=>
  simp only[bA]at h;split at h
  .rename_i s hu hx;cases h;exact .new rfl (by simp only[bA,hu,hx])
  .cases h
 |next it s=>
  cases s with
  |false=>simp[bA]at h
  |true=>
   simp only[bA]at h;cases hs:jI H (ρ it)with
   |none=>rw[hs]at h;cases h
   |some r=>
    obtain⟨v0,H2⟩:=r;rw[hs]at h;cases h;obtain⟨c,y,hm,hy,⟨rfl,hK⟩|⟨y',rfl,hK⟩⟩:=uk hs
    .have Z:=hr c (by simp[aT,hm,am]);refine .sameW (q:=c) S (by simp[aJ,hm,am]) Z ?_;simp only[bA];rw[hK K (by rw[Z,hy])];rfl
    .have Z:=hr c (by simp[aT,hm,am]);refine .put S (by simp[aJ,hm,am]) ?_;simp only[bA];rw[hK K (by rw[Z,hy])];rfl
 |move x=>simp only[bA]at h;cases h;exact .same S rfl (by simp only[bA])
 |assign x=>simp only[bA]at h;cases h;exact .same S rfl (by simp only[bA])
 |build t ps=>simp only[bA]at h;obtain⟨O,rfl⟩:=gJ h;exact .same S rfl (by simp only[bA,O];rfl)
 |binOp op t x y u=>simp only[bA]at h;obtain⟨O,rfl⟩:=gJ h;exact .same S rfl (by simp only[bA,O];rfl)
 |unOp op t x=>simp only[bA]at h;obtain⟨O,rfl⟩:=gJ h;exact .same S rfl (by simp only[bA,O];rfl)
 |convert s d x=>simp only[bA]at h;obtain⟨O,rfl⟩:=gJ h;exact .same S rfl (by simp only[bA,O];rfl)
 |fieldAddr s x f=>simp only[bA]at h;obtain⟨O,rfl⟩:=gJ h;exact .same S rfl (by simp only[bA,O];rfl)
 |field s x f=>simp only[bA]at h;obtain⟨O,rfl⟩:=gJ h;exact .same S rfl (by simp only[bA,O];rfl)
 |index t x y=>simp only[bA]at h;obtain⟨O,rfl⟩:=gJ h;exact .same S rfl (by simp only[bA,O];rfl)
 |_=>simp[bA]at h
theorem zX{o:Op}{ρ:Operand->AV}{b:Nat}{g:FuncId}{args:List AV}{H:af}(h:bA P F o ρ b H=some (.call g args))(K:af):bA P F o ρ b K=some (.call g args):=by
 cases o with
 |call c=>
  simp only[bA]at h ⊢;split at h
  .rename_i D _;cases j:bJ P H b D c.argTypes (c.args.toList.map ρ)with
   |none=>rw[j]at h;cases h
   |some r=>rw[j]at h;cases h
  .rename_i f G;exact h
  .cases h
 |makeFunc u first B=>cases u<;>simp only[bA]at h<;>(try split at h)<;>simp at h
 |makeMap t r=>cases r<;>simp[bA]at h
 |next E s=>cases s<;>simp[bA]at h
 |_=>
  exfalso;simp only[bA]at h
  repeat' (first|(cases h;done)|(simp at h;done)|split at h)
end
end
def Gd(f:Edge->Nat)(p:Edge->Bool)(k:Nat):∀(l:List Edge) (s:Nat),(l.foldl (λs e=>if p e then s ||| f e else s) s).testBit k=true->s.testBit k=true\/∃e∈l,p e=true/\(f e).testBit k=true
 |[],s,h=>.inl h
 | e::l,s,h=>by
  rw[XL]at h;rcases Gd f p k l _ h with j|⟨u,j,h2⟩
  .split at j
   .rename_i hp;rw[Nat.testBit_or,Bool.or_eq_true]at j;rcases j with j|j
    .exact .inl j
    .exact .inr ⟨e,YF,hp,j⟩
   .exact .inl j
  .exact .inr ⟨u,by simp[j],h2⟩
def ta(acc:List Nat)(o:Oper):Nat:=o.after.toList.foldl (λs e=>if Region.binds .any e then s ||| 2^e.on ||| acc.getD e.on 0 else s) 0
def Iy{j:List Nat}{o:Oper}{k:Nat}(h:(ta j o).testBit k=true):∃e∈o.after.toList,Region.binds .any e=true/\(k=e.on\/(j.getD e.on 0).testBit k=true):=by
 have E:ta j o=o.after.toList.foldl (λs e=>if Region.binds .any e then s ||| (2^e.on ||| j.getD e.on 0)else s) 0:=by
  unfold ta;congr 1;funext s e;split
  .rw[Nat.or_assoc]
  .rfl
 rw[E]at h;rcases Gd (λe=>2^e.on ||| j.getD e.on 0) (Region.binds .any) k _ _ h with B|⟨e,B,G,u⟩
 .simp at B
 .refine⟨e,B,G,?_⟩;rw[Nat.testBit_or,Bool.or_eq_true]at u;rcases u with u|u
  .rw[Nat.testBit_two_pow]at u;exact .inl (by have D:=u;simp at D;exact D.symm)
  .exact .inr u
def zY:∀(l:List Oper) (u:List Nat),u.length+l.length=(cz l u).length/\(∀i,i<u.length->(cz l u).getD i 0=u.getD i 0)/\
  ∀(i:Nat) (o:Oper),l[i]? =some o->∃B,(cz l u).getD (u.length+i) 0=ta B o/\(∀j,B.getD j 0=(cz l u).getD j 0\/B.getD j 0=0)/\(∀j,u.length+i<=j->B.getD j 0=0)
 |[],u=>by simp[cz]
 | o::l,u=>by
  obtain⟨Y,h2,M⟩:=zY l (u++[ta u o]);have O:cz (o::l) u=cz l (u++[ta u o]):=rfl;rw[O];simp only[LT,Yp]at Y h2 M;have D:∀i,i<u.length->(cz l (u++[ta u o])).getD i 0=u.getD i 0:=λi S=>by rw[h2 i YC];simp[List.getD,WW S]
  refine⟨YH,D,λi q G=>?_⟩
  match i with
  |0=>
   simp only[List.getElem?_cons_zero,W3]at G;subst G;refine⟨u,?_,λj=>?_,λj E=>?_⟩
   .rw[XQ,h2 u.length YC];simp[List.getD]
   .rcases Fn j u.length with E|E
    .exact .inl (D j E).symm
    .exact .inr (by simp[List.getD,ST E])
   .simp[List.getD,ST (show u.length<=j by omega)]
  |i+1=>simp only[X5]at G;obtain⟨B,g1,g2,Z⟩:=M i q G;exact⟨B,by rw[<-g1];congr 1;omega,g2,λj E=>Z j YC⟩
def KW{ops:Array Oper}{i:Nat}{o:Oper}(O:ops[i]? =some o){k:Nat}(h:((cz ops.toList []).getD i 0).testBit k=true):
  ∃e∈o.after.toList,Region.binds .any e=true/\(k=e.on\/(e.on<i/\((cz ops.toList []).getD e.on 0).testBit k=true)):=by
 obtain⟨_,_,S⟩:=zY ops.toList [];obtain⟨M,G,Y,E⟩:=S i o (by rw[Xh];exact O);simp only[WT,Xn]at G E;rw[G]at h;obtain⟨e,e1,Z,j⟩:=Iy h;refine⟨e,e1,Z,?_⟩;rcases j with j|j
 .exact .inl j
 .right;rcases Fn e.on i with u|B
  .refine⟨u,?_⟩;rcases Y e.on with D|D
   .rw[D]at j;exact j
   .rw[D]at j;simp at j
  .rw[E e.on B]at j;simp at j
def El(ops:Array Oper)(L:Nat->Bool):Prop:=∀(i:Nat) (o:Oper),ops[i]? =some o->L i=true->∀e∈o.after.toList,Region.binds .any e=true->L e.on=true
def El.ahead{ops:Array Oper}{L:Nat->Bool}(S:El ops L):∀(i:Nat) (o:Oper),ops[i]? =some o->(∀e∈o.after.toList,Region.binds .any e=true->L e.on=true)->∀k,((cz ops.toList []).getD i 0).testBit k=true->L k=true:=by
 intro i
 induction i using Nat.strongRecOn with
 |_ i G=>
  intro o E O k M;obtain⟨e,e1,e2,e3⟩:=KW E M;have B:=O e e1 e2;rcases e3 with rfl|⟨D,h4⟩
  .exact B
  .have u:e.on<ops.size:=by have:i<ops.size:=(X7.1 E).1;omega
   have j:ops[e.on]? =some ops[e.on]:=Xj u;exact G e.on D _ j (λe' Z Y=>S e.on _ j B e' Z Y) k h4
def cW(p:Nat->Bool):Nat->Option Nat
 |0=>none
 |k+1=>if p k then some k else cW p k
def lf{p q:Nat->Bool}:∀{k:Nat},(∀i,i<k->p i=q i)->cW p k=cW q k
 |0,_=>rfl
 | k+1,h=>by unfold cW;rw[h k YC,lf λi j=>h i YC]
def td{p:Nat->Bool}{k m:Nat}(j:k<=m)(h:∀i,k<=i->i<m->p i=false):cW p m=cW p k:=by
 induction m with
 |zero=>rw[show k=0 by omega]
 |succ m u=>
  rcases X3 j with rfl|B
  .rfl
  .rw[cW,h m YC YC,if_neg YF];exact u YC λi D E=>h i D YC
def py{p L:Nat->Bool}{n i:Nat}(M:i<n)(B:L i=false)(h:∀j,j<n->j≠i->p j=true->(j<i->L j=true)/\(i<j->L j=false)):
  cW (λj=>L j&&p j) n=cW p i:=by
 rw[td (k:=i) YC]
 .refine lf λj D=>?_
  cases hp:p j with
  |false=>simp
  |true=>simp[(h j YC YC hp).1 D]
 .intro j G E;rcases X3 G with rfl|u
  .simp[B]
  .cases hp:p j with
   |false=>simp
   |true=>simp[(h j E YC hp).2 u]
def vZ{p L:Nat->Bool}{n i:Nat}(E:i<n)(B:L i=false)(u:p i=true)(h:∀j,j<n->j≠i->p j=true->(i<j->L j=false)):
  cW (λj=>(if j=i then true else L j)&&p j) n=some i:=by
 rw[td (k:=i+1) YC]
 .simp[cW,u]
 .intro j G D;cases hp:p j with
  |false=>simp
  |true=>simp[h j D YC hp YC,show¬j=i by omega]
def nI{p L:Nat->Bool}{n i:Nat}(u:p i=false):cW (λj=>(if j=i then true else L j)&&p j) n=cW (λj=>L j&&p j) n:=by
 refine lf λj _=>?_
 by_cases B:j=i
 .subst B;simp[u]
 .simp[B]
section
section
variable (P:Program) (F:TypeId->Option (List TypeId)) (call:FuncId->List AV->af->Option (AV×af)) (ops:Array Oper) (base:Nat) (τ0:List AV) (H0:af)
def fS:Nat->List AV×af
 |0=>(τ0,H0)
 | i+1=>match bZ P F call ops base i ((cz ops.toList []).getD i 0) (fS i).1 (fS i).2 with
  |some (τ,H,_)=>(τ,H)
  |none=>fS i
def iu(i:Nat):Option rX:=
 match bZ P F call ops base i ((cz ops.toList []).getD i 0) (fS P F call ops base τ0 H0 i).1 (fS P F call ops base τ0 H0 i).2 with
 |some (_,_,r)=>r
 |none=>none
structure mu:Prop where
 step:∀i,i<ops.size->bZ P F call ops base i ((cz ops.toList []).getD i 0) (fS P F call ops base τ0 H0 i).1 (fS P F call ops base τ0 H0 i).2 =
  some ((fS P F call ops base τ0 H0 (i+1)).1,(fS P F call ops base τ0 H0 (i+1)).2,iu P F call ops base τ0 H0 i)
 free:∀i j x r,j<i->i<ops.size->iu P F call ops base τ0 H0 j=some x->iu P F call ops base τ0 H0 i=some r->((cz ops.toList []).getD i 0).testBit j=true\/mg x r=false
end
section
variable {P:Program} {F:TypeId->Option (List TypeId)} {call:FuncId->List AV->af->Option (AV×af)} {ops:Array Oper} {base:Nat} {τ0:List AV} {H0:af}
theorem Ge{i j:Nat}{B u:List AV}{H H':af}{x:rX}(h:bZ P F call ops base i j B H=some (u,H',some x)):x.op=i:=by
 unfold bZ at h
 repeat' (first|(cases h;rfl)|(cases h;done)|split at h)
theorem Mt:∀(m k:Nat) (S E:List rX) (u:List AV) (K:af),
  fK P F call ops base (cz ops.toList []) (List.range' k m) (fS P F call ops base τ0 H0 k).1 (fS P F call ops base τ0 H0 k).2 S=some (u,K,E)->(∀j x,j<k->iu P F call ops base τ0 H0 j=some x->x∈S/\x.op=j)->
  (∀i,k<=i->i<k+m->bZ P F call ops base i ((cz ops.toList []).getD i 0) (fS P F call ops base τ0 H0 i).1 (fS P F call ops base τ0 H0 i).2 =
   some ((fS P F call ops base τ0 H0 (i+1)).1,(fS P F call ops base τ0 H0 (i+1)).2,iu P F call ops base τ0 H0 i))/\
  (∀i j x r,k<=i->i<k+m->j<i->iu P F call ops base τ0 H0 j=some x->iu P F call ops base τ0 H0 i=some r->((cz ops.toList []).getD i 0).testBit j=true\/mg x r=false)/\
  (u,K)=fS P F call ops base τ0 H0 (k+m)
 | 0,k,S,E,u,K,h,_=>by simp only[List.range'_zero,fK,W3,Prod.mk.injEq]at h;obtain⟨rfl,rfl,rfl⟩:=h;exact⟨λi h1 h2=>by omega,λi j x r h1 h2=>by omega,rfl⟩
 | m+1,k,S,E,u,K,h,hrs=>by
  rw[List.range'_succ]at h;unfold fK at h;cases Z:bZ P F call ops base k ((cz ops.toList []).getD k 0) (fS P F call ops base τ0 H0 k).1 (fS P F call ops base τ0 H0 k).2 with
  |none=>rw[Z]at h;cases h
  |some q=>
   obtain⟨τ1,H1,r⟩:=q;rw[Z]at h;have e1:fS P F call ops base τ0 H0 (k+1)=(τ1,H1):=by rw[fS,Z]
   have e2:iu P F call ops base τ0 H0 k=r:=by rw[iu,Z]
   have M:∀D,fK P F call ops base (cz ops.toList []) (List.range' (k+1) m) τ1 H1 D=some (u,K,E)->(∀x,r=some x->x∈D)->(∀x∈S,x∈D)->
     (∀j x,j<k->iu P F call ops base τ0 H0 j=some x->∀y,r=some y->((cz ops.toList []).getD k 0).testBit j=true\/mg x y=false)->_:=λD h2 hr2 hsub Y=>by
    obtain⟨a1,a2,a3⟩:=Mt m (k+1) D E u K (by rw[e1];exact h2) (λj x hj B=>by
     rcases X3 (Nat.le_of_lt_succ hj)with rfl|G
     .rw[e2]at B;refine⟨hr2 x B,?_⟩;rw[B]at Z;exact Ge Z
     .obtain⟨b1,b2⟩:=hrs j x G B;exact⟨hsub x b1,b2⟩)
    refine(⟨λi h1 h2=>?_,λi j x y h1 h2 hji B hy=>?_,by rw[a3];congr 1;omega⟩:(∀i,k<=i->i<k+(m+1)->bZ P F call ops base i ((cz ops.toList []).getD i 0) (fS P F call ops base τ0 H0 i).1 (fS P F call ops base τ0 H0 i).2 =
     some ((fS P F call ops base τ0 H0 (i+1)).1,(fS P F call ops base τ0 H0 (i+1)).2,iu P F call ops base τ0 H0 i))/\
     (∀i j x r,k<=i->i<k+(m+1)->j<i->iu P F call ops base τ0 H0 j=some x->iu P F call ops base τ0 H0 i=some r->((cz ops.toList []).getD i 0).testBit j=true\/mg x r=false)/\
     (u,K)=fS P F call ops base τ0 H0 (k+(m+1)))
    .rcases X3 h1 with rfl|G
     .rw[Z,e1,e2]
     .exact a1 i G YC
    .rcases X3 h1 with rfl|G
     .rw[e2]at hy;exact Y j x hji B y hy
     .exact a2 i j x y G YC hji B hy
   cases r with
   |none=>exact M S h YF (λx B=>B) YF
   |some y=>
    simp only[]at h;split at h
    .rename_i O;refine M (y::S) h YF (λx B=>by simp[B]) (λj x hj B y' hy'=>?_)
     cases hy';rw[W2]at O;obtain⟨b1,b2⟩:=hrs j x hj B;have:=O x b1;rw[b2]at this;simpa using this
    .cases h
end
end
section
theorem bN.sig{w:World}{σ σ':bR}{T:Nat->Prop}(hm:σ'.map=σ.map){a:AV}{v:Value}(h:bN w σ T a v):bN w σ' T a v:=by
 have e:∀{b D},σ.map b=some D->σ'.map b=some D:=λhb=>by rw[hm];exact hb
 induction h with
 |int k n=>exact .int k n
 |bool b=>exact .bool b
 |str s=>exact .str s
 |nilp=>exact .nilp
 |ptr b i M D h hp=>exact .ptr b i M D (e h) hp
 |mp b D h h1 Z=>exact .mp b D (e h) h1 Z
 |it b D h h1 Z=>exact .it b D (e h) h1 Z
 |pptr j i M b o sz G h E=>exact .pptr j i M b o sz G E
 |nils=>exact .nils
 |emp a=>exact .emp a
 |sl b i n D a B h hp Y u ha=>exact .sl b i n D a B (e h) hp Y u ha
 |lst0 a B u=>exact .lst0 a B u
 |lst j b o sz B G Y u h E=>exact .lst j b o sz B G Y u E
 |agg S O G h E=>exact .agg S O G E
 |tup S O G h E=>exact .tup S O G E
 |fn f S O G h E=>exact .fn f S O G E
 |nilf=>exact .nilf
 |junk v=>exact .junk v
theorem vU.sig{w:World}{σ σ':bR}{T:Nat->Prop}(D:σ'.map=σ.map){x:Blk}{B:cR}{cs:Array Value}{e:TypeId}(h:vU w σ T x B cs e):vU w σ' T x B cs e:=
 ⟨h.size,h.block,h.even,h.room,λi r j a u M G E=>(h.rep i r j a u M G E).sig D⟩
theorem ld.sig{w:World}{σ σ':bR}{T:Nat->Prop}(u:σ'.map=σ.map){x:Blk}{j:cR}{cs:Array Value}{e:TypeId}(h:ld w σ T x j cs e):ld w σ' T x j cs e:=⟨λhp=>(h.1 hp).sig u,h.2⟩
def bR.part(σ:bR)(K Hc:af):bR:=⟨σ.map,λc=>bB σ K c/\¬Ci σ Hc c⟩
section
variable {w w':World} {σ σ':bR} {K Hc H1 K':af}
theorem Ci.sub(j:∀c x,Hc.get c=some x->K.get c=some x){d:Nat}(h:Ci σ Hc d):Ci σ K d:=by obtain⟨b,x,u,E,D,B⟩:=h;exact⟨b,x,u,j b x E,D,B⟩
theorem ur(j:∀c x,Hc.get c=some x->K.get c=some x):bB (σ.part K Hc) Hc=bB σ K:=by
 funext d;apply propext;constructor
 .rintro(h|h)
  .exact h.1
  .exact .inr (Ci.sub j h)
 .intro h;by_cases u:Ci σ Hc d
  .exact .inr u
  .exact .inl ⟨h,u⟩
theorem bQ.part(B:bQ w σ K)(j:∀c x,Hc.get c=some x->K.get c=some x)(Y:K.next<=Hc.next):bQ w (σ.part K Hc) Hc:=by
 refine⟨λb u M=>Xf (B.named b u M) Y,B.lt,λb x M=>?_,λc O=>⟨?_,O.2⟩,λb b' x S u G E D h3 h4 Z=>B.inj b b' x S u G (j _ _ E) (j _ _ D) h3 h4 Z,by rw[ur j];exact B.glob⟩
 .obtain⟨u,cs,e,E,D⟩:=B.live b x (j b x M);rw[ur j];exact⟨u,cs,e,E,ld.sig (σ:=σ) (σ':=σ.part K Hc) rfl D⟩
 .rcases O.1 with h|⟨b,x,u,E,D,rfl⟩
  .exact(B.apart c h).1
  .exact B.lt b u D
theorem bQ.whole(hW:bQ w σ K)(hsub:∀c x,Hc.get c=some x->K.get c=some x)(hn:Hc.next=K.next)(M:bQ w' σ' H1)(hE:fR w (σ.part K Hc) (bB (σ.part K Hc) Hc) w' σ' (bB σ' H1))
  (hdom:∀c,c<Hc.next->Hc.get c=none->H1.get c=none) (hK':∀c,K'.get c=if Hc.get c=none/\c<K.next then K.get c else H1.get c) (hn':H1.next<=K'.next) :
  bQ w' ⟨σ'.map,σ.fr⟩ K'/\fR w σ (bB σ K) w' ⟨σ'.map,σ.fr⟩ (bB ⟨σ'.map,σ.fr⟩ K')/\bB ⟨σ'.map,σ.fr⟩ K'=bB σ' H1:=by
 have hfr:∀c,σ'.fr c↔(bB σ K c/\¬Ci σ Hc c):=λc=>by rw[hE.eqfr];exact Iff.rfl
 have u:∀b j,σ.map b=some j->σ'.map b=some j:=λb j h=>hE.sig b j h
 have D:∀b x,Hc.get b=none->K.get b=some x->∃j,σ.map b=some j/\σ'.fr j.block:=λb x h0 hx=>by obtain⟨j,cs,e,O,Y⟩:=hW.live b x hx;refine⟨j,O,(hfr _).2 ⟨.inr ⟨b,x,j,hx,O,rfl⟩,?_⟩⟩;rintro⟨b2,x2,pl2,B,g2,Z⟩;have:=hW.inj b2 b x2 x pl2 j (hsub _ _ B) hx g2 O Z;subst this;rw[h0]at B;cases B
 have E:∀b x,K'.get b=some x->(Hc.get b=none/\b<K.next/\K.get b=some x)\/H1.get b=some x:=λb x hx=>by
  rw[hK']at hx;split at hx
  .rename_i S;exact .inl ⟨S.1,S.2,hx⟩
  .exact .inr hx
 have frK:∀c,σ.fr c->σ'.fr c:=λc S=>(hfr c).2 ⟨.inl S,λht=>(hW.apart c S).2 (Ci.sub hsub ht)⟩
 have G:bB ⟨σ'.map,σ.fr⟩ K'=bB σ' H1:=by
  funext d;apply propext;constructor
  .rintro(h|⟨b,x,j,O,Y,rfl⟩)
   .exact .inl (frK d h)
   .rcases E b x O with⟨B,g2,Z⟩|B
    .obtain⟨pl0,e1,e2⟩:=D b x B Z;have h2':σ'.map b=some j:=Y;rw[u b pl0 e1]at h2';cases h2';exact .inl e2
    .exact .inr ⟨b,x,j,B,Y,rfl⟩
  .rintro(h|⟨b,x,j,O,Y,rfl⟩)
   .obtain⟨h3,h4⟩:=(hfr d).1 h;rcases h3 with h3|⟨b,x,j,B,g2,Z⟩
    .exact .inl h3
    .have h0:Hc.get b=none:=by
      cases hg:Hc.get b with
      |none=>rfl
      |some y=>exact absurd ⟨b,y,j,hg,g2,Z⟩ h4
     exact .inr ⟨b,x,j,by rw[hK',if_pos ⟨h0,hW.named b j g2⟩];exact B,u b j g2,Z⟩
   .refine .inr ⟨b,x,j,?_,Y,rfl⟩;rw[hK',if_neg]
    .exact O
    .rintro⟨h3,h4⟩;rw[hdom b YC h3]at O;cases O
 have hE2:fR w σ (bB σ K) w' ⟨σ'.map,σ.fr⟩ (bB ⟨σ'.map,σ.fr⟩ K'):=by rw[G];have ho:=ur (σ:=σ) hsub;exact⟨hE.os,hE.tape,hE.output,hE.size,λc S hT=>hE.keep c S (by rw[ho];exact hT),hE.shape,u,rfl,λc S=>hE.frame c ((hfr c).1 (frK c S)),λc S=>by have:=hE.own c S;rwa [ho]at this⟩
 refine⟨⟨λb j hb=>Xf (M.named b j hb) hn',M.lt,λb x hx=>?_,λc S=>⟨?_,?_⟩,?_,by rw[G];exact M.glob⟩,hE2,G⟩
 .rcases E b x hx with⟨B,g2,Z⟩|B
  .obtain⟨j,cs,e,O,Y⟩:=hW.live b x Z;obtain⟨pl0,e1,e2⟩:=D b x B Z;have h1':σ.map b=some j:=O;rw[e1]at h1';cases h1';refine⟨j,cs,e,u b j e1,?_⟩;exact Y.mono hE2 (hE.frame _ ((hfr _).1 e2))
  .obtain⟨j,cs,e,O,Y⟩:=M.live b x B;rw[G];exact⟨j,cs,e,O,ld.sig (σ:=σ') (σ':=⟨σ'.map,σ.fr⟩) rfl Y⟩
 .have:=(hW.apart c S).1;have:=hE.size;omega
 .rintro⟨b,x,j,O,Y,h3⟩;rcases E b x O with⟨B,g2,Z⟩|B
  .obtain⟨pl0,e1,e2⟩:=D b x B Z;have h2':σ'.map b=some j:=Y;rw[u b pl0 e1]at h2';cases h2';exact(hW.apart c S).2 ⟨b,x,j,Z,e1,h3⟩
  .exact(M.apart c (frK c S)).2 ⟨b,x,j,B,Y,h3⟩
 .intro b b' x x' j pl' O Y h3 h4 h5;have h3':σ'.map b=some j:=h3;have h4':σ'.map b'=some pl':=h4;rcases E b x O with⟨B,g2,Z⟩|B
  .obtain⟨pl0,e1,e2⟩:=D b x B Z;rw[u b pl0 e1]at h3';cases h3';rcases E b' x' Y with⟨k1,k2,k3⟩|k1
   .obtain⟨pl1,f1,f2⟩:=D b' x' k1 k3;rw[u b' pl1 f1]at h4';cases h4';exact hW.inj b b' x x' j pl' Z k3 e1 f1 h5
   .exact absurd ⟨b',x',pl',k1,h4,h5.symm⟩ (M.apart _ e2).2
  .rcases E b' x' Y with⟨k1,k2,k3⟩|k1
   .obtain⟨pl1,f1,f2⟩:=D b' x' k1 k3;rw[u b' pl1 f1]at h4';cases h4';exact absurd ⟨b,x,j,B,h3,h5⟩ (M.apart _ f2).2
   .exact M.inj b b' x x' j pl' B k1 h3 h4 h5
end
end
section
def jz(ops:Array Oper)(o:Oper):List Tmp:=
 o.dst.toList++(cq o.op).filterMap (fun|.tmp t=>some t|_=>none)++(match o.guard with|none=>[]|some (j,_)=>((ops[j]?).bind (·.dst)).toList)
def nJ(ops:Array Oper):Prop:=∀(i j:Nat) (oi oj:Oper),j<i->ops[i]? =some oi->ops[j]? =some oj->
 ((cz ops.toList []).getD i 0).testBit j=true\/((∀t,oj.dst=some t->t∉jz ops oi)/\(∀t,oi.dst=some t->t∉jz ops oj))
def wr(ops:Array Oper)(t:Tmp)(i:Nat):Bool:=match ops[i]? with|some o=>o.dst==some t|none=>false
def dG(r:Option rX)(c:Nat):Bool:=match r with
 |none=>false
 |some x=>x.writes.contains c||x.made.contains c||(x.isCall&&decide (x.lo<=c)&&decide (c<x.hi))
theorem tf{r:Option rX}{c:Nat}:dG r c=true↔touched r c:=by
 cases r with
 |none=>simp[dG,touched]
 |some x=>simp[dG,touched,or_assoc,and_assoc]
def jc(r:Option rX):Bool:=match r with|none=>false|some x=>x.isCall
section
variable {P:Program} {F:TypeId->Option (List TypeId)} {call:FuncId->List AV->af->Option (AV×af)} {ops:Array Oper} {base:Nat} {τ0:List AV} {H0:af}
theorem Gf{i u:Nat}{B j:List AV}{H H':af}{r:Option rX}(h:bZ P F call ops base i u B H=some (j,H',r)):∃o v,ops[i]? =some o/\j=ik B o.dst v:=by
 unfold bZ at h;split at h
 .cases h
 .rename_i o D;refine⟨o,?_⟩
  repeat' (first|(cases h;exact⟨_,D,rfl⟩)|(cases h;done)|split at h)
structure eB(P:Program)(F:TypeId->Option (List TypeId))(call:FuncId->List AV->af->Option (AV×af))(ops:Array Oper)(base:Nat)(τ0:List AV)(H0:af):Prop where
 bd:∀i,i<=ops.size->Bd (fS P F call ops base τ0 H0 i).2
 le:∀i,i<=ops.size->H0.next<=(fS P F call ops base τ0 H0 i).2.next
 fresh:∀i j,i<=j->j<ops.size->(fS P F call ops base τ0 H0 i).2.get (base+j)=none
 len:∀i,i<=ops.size->(fS P F call ops base τ0 H0 i).1.length=τ0.length
 chg:∀i,i<ops.size->QR base i (fS P F call ops base τ0 H0 i).2 (fS P F call ops base τ0 H0 (i+1)).2 (iu P F call ops base τ0 H0 i)
theorem KX(G:∀f args H v H',Bd H->call f args H=some (v,H')->zr H H')(D:mu P F call ops base τ0 H0)(O:Bd H0)(hn:base+ops.size=H0.next)(M:∀j,j<ops.size->H0.get (base+j)=none):eB P F call ops base τ0 H0:=by
 have u:∀i,i<=ops.size->Bd (fS P F call ops base τ0 H0 i).2/\H0.next<=(fS P F call ops base τ0 H0 i).2.next/\(∀j,i<=j->j<ops.size->(fS P F call ops base τ0 H0 i).2.get (base+j)=none)/\(fS P F call ops base τ0 H0 i).1.length=τ0.length:=by
  intro i
  induction i with
  |zero=>intro _;exact⟨O,Fd _,λj _ hj=>M j hj,rfl⟩
  |succ i ih=>intro B;obtain⟨Z,a2,a3,a4⟩:=ih YC;have E:=D.step i YC;have d:=jT G Z YC E;obtain⟨o,v,_,hv⟩:=Gf E;refine⟨d.bd Z,W5 a2 d.next,λj Y S=>d.dom _ YC YC (a3 j YC S),?_⟩;rw[hv,<-a4];cases o.dst<;>simp[ik]
 exact⟨λi B=>(u i B).1,λi B=>(u i B).2.1,λi j Y S=>(u i YC).2.2.1 j Y S,λi B=>(u i B).2.2.2,λi B=>jT G (u i YC).1 (by have:=(u i YC).2.1;omega) (D.step i B)⟩
def pz(P:Program)(F:TypeId->Option (List TypeId))(call:FuncId->List AV->af->Option (AV×af))(ops:Array Oper)(base:Nat)(τ0:List AV)(H0:af)(L:Nat->Bool)(t:Tmp):Option AV:=
 match cW (λj=>L j&&wr ops t j) ops.size with
 |some j=>(fS P F call ops base τ0 H0 (j+1)).1[t]?
 |none=>τ0[t]?
def hget(P:Program)(F:TypeId->Option (List TypeId))(call:FuncId->List AV->af->Option (AV×af))(ops:Array Oper)(base:Nat)(τ0:List AV)(H0:af)(L:Nat->Bool)(c:Nat):Option Blk:=
 match cW (λj=>L j&&dG (iu P F call ops base τ0 H0 j) c) ops.size with
 |some j=>(fS P F call ops base τ0 H0 (j+1)).2.get c
 |none=>H0.get c
def Em(P:Program)(F:TypeId->Option (List TypeId))(call:FuncId->List AV->af->Option (AV×af))(ops:Array Oper)(base:Nat)(τ0:List AV)(H0:af)(L:Nat->Bool):Nat:=
 match cW (λj=>L j&&jc (iu P F call ops base τ0 H0 j)) ops.size with
 |some j=>(fS P F call ops base τ0 H0 (j+1)).2.next
 |none=>H0.next
theorem Pn{j:List AV}{d:Option Tmp}{v:AV}{t:Tmp}(h:(d==some t)=false):(ik j d v)[t]? =j[t]? :=by
 cases d with
 |none=>rfl
 |some d=>
  have:d≠t:=by simpa using h
  simp only[ik,Xc];rw[if_neg this]
theorem Iz(u:mu P F call ops base τ0 H0)(t:Tmp):∀k,k<=ops.size->(fS P F call ops base τ0 H0 k).1[t]? =match cW (wr ops t) k with|some j=>(fS P F call ops base τ0 H0 (j+1)).1[t]?|none=>τ0[t]?
 |0,_=>rfl
 | k+1,hk=>by
  unfold cW;cases B:wr ops t k with
  |true=>simp
  |false=>simp only[W7,if_false];rw[<-Iz u t k YC];obtain⟨o,v,E,D⟩:=Gf (u.step k YC);rw[D];simp only[wr,E]at B;exact Pn B
theorem IA(u:mu P F call ops base τ0 H0)(B:eB P F call ops base τ0 H0)(c:Nat):∀k,k<=ops.size->(fS P F call ops base τ0 H0 k).2.get c=match cW (λj=>dG (iu P F call ops base τ0 H0 j) c) k with|some j=>(fS P F call ops base τ0 H0 (j+1)).2.get c|none=>H0.get c
 |0,_=>rfl
 | k+1,hk=>by
  unfold cW;cases D:dG (iu P F call ops base τ0 H0 k) c with
  |true=>simp
  |false=>simp only[W7,if_false];rw[<-IA u B c k YC];exact(B.chg k YC).keep (B.bd k YC) c (λht=>by rw[tf.2 ht]at D;cases D)
theorem Cr{i j:Nat}{D u:List AV}{H H':af}{r:Option rX}(h:bZ P F call ops base i j D H=some (u,H',r))(E:jc r=false):H'.next=H.next:=by
 unfold bZ at h;split at h
 .cases h
 .split at h
  .split at h
   .rename_i B;cases h;have:=zT B;exact this
   .split at h
    .cases h;simp[jc]at E
    .cases h
   .cases h
  .cases h;rfl
  .cases h
theorem IB(u:mu P F call ops base τ0 H0):∀k,k<=ops.size->(fS P F call ops base τ0 H0 k).2.next=match cW (λj=>jc (iu P F call ops base τ0 H0 j)) k with|some j=>(fS P F call ops base τ0 H0 (j+1)).2.next|none=>H0.next
 |0,_=>rfl
 | k+1,hk=>by
  unfold cW;cases B:jc (iu P F call ops base τ0 H0 k)with
  |true=>simp
  |false=>simp only[W7,if_false];rw[<-IB u k YC];exact Cr (u.step k YC) B
structure Next(ops:Array Oper)(L:Nat->Bool)(i:Nat):Prop where
 lt:i<ops.size
 not:L i=false
 closed:El ops L
 edges:∀(o:Oper),ops[i]? =some o->∀e∈o.after.toList,Region.binds .any e=true->L e.on=true
theorem Next.before{L:Nat->Bool}{i:Nat}(h:Next ops L i){j:Nat}(u:((cz ops.toList []).getD i 0).testBit j=true):L j=true:=
 h.closed.ahead i _ (Xj h.lt) (h.edges _ (Xj h.lt)) j u
theorem Next.behind{L:Nat->Bool}{i:Nat}(h:Next ops L i){j:Nat}(u:j<ops.size)(B:((cz ops.toList []).getD j 0).testBit i=true):L j=false:=by
 cases D:L j with
 |false=>rfl
 |true=>have:=h.closed.ahead j _ (Xj u) (h.closed j _ (Xj u) D) i B;rw[h.not]at this;cases this
theorem Po(O:mu P F call ops base τ0 H0)(G:nJ ops){L:Nat->Bool}{i:Nat}(E:Next ops L i){o:Oper}(Y:ops[i]? =some o){t:Tmp}(ht:t∈jz ops o):
  pz P F call ops base τ0 H0 L t=(fS P F call ops base τ0 H0 i).1[t]? :=by
 have M:∀j,j<ops.size->j≠i->wr ops t j=true->(j<i->L j=true)/\(i<j->L j=false):=λj Z hne S=>by
  have u:ops[j]? =some ops[j]:=Xj Z;simp only[wr,u]at S;have hd:(ops[j]).dst=some t:=by simpa using S
  refine⟨λB=>?_,λB=>?_⟩
  .rcases G i j o _ B Y u with D|⟨D,_⟩
   .exact E.before D
   .exact absurd ht (D t hd)
  .rcases G j i _ o B u Y with D|⟨_,D⟩
   .exact E.behind Z D
   .exact absurd ht (D t hd)
 rw[Iz O t i (by have:=E.lt;omega),pz,py E.lt E.not M]
end
end
section
theorem mv{l m:List Nat}(h:apart l m=true){x:Nat}(j:x∈l):x∉m:=by unfold apart at h;rw[W2]at h;have:=h x j;simpa using this
structure Ua(x y:rX):Prop where
 wr:∀c∈x.writes,c∉y.reads
 ww:∀c∈x.writes,c∉y.writes
 rw:∀c∈x.reads,c∉y.writes
 mr:∀c∈x.made,c∉y.reads
 mw:∀c∈x.made,c∉y.writes
 cc:x.isCall=true->y.isCall=false
 cw:x.isCall=true->∀c,c∉y.writes
 cr:x.isCall=true->∀c∈y.reads,¬(x.lo<=c/\c<x.hi)
 wc:y.isCall=true->∀c,c∉x.writes
theorem fW{x y:rX}(h:mg x y=false):Ua x y:=by
 unfold mg at h;simp only[Yu,Bool.not_eq_false',WZ,Bool.and_eq_false_iff]at h;obtain⟨⟨⟨⟨⟨⟨O,M⟩,h3⟩,h4⟩,h5⟩,j⟩,B⟩:=h;refine⟨λc u=>mv O u,λc u=>mv M u,λc u=>mv h3 u,λc u=>mv h4 u,λc u=>mv h5 u,λD=>?_,λD c u=>?_,λD c u G=>?_,λE c u=>?_⟩
 .rcases j with j|⟨⟨j,_⟩,_⟩
  .rw[D]at j;cases j
  .exact j
 .rcases j with j|⟨⟨_,j⟩,_⟩
  .rw[D]at j;cases j
  .simp at j;rw[j]at u;simp at u
 .rcases j with j|⟨_,j⟩
  .rw[D]at j;cases j
  .rw[List.any_eq_false]at j;exact j c u (by simpa using G)
 .rcases B with B|B
  .rw[E]at B;cases B
  .simp at B;rw[B]at u;simp at u
section
variable {P:Program} {F:TypeId->Option (List TypeId)} {call:FuncId->List AV->af->Option (AV×af)} {ops:Array Oper} {base:Nat} {τ0:List AV} {H0:af}
theorem Dw(u:eB P F call ops base τ0 H0){i:Nat}:∀{j:Nat},i<=j->j<=ops.size->(fS P F call ops base τ0 H0 i).2.next<=(fS P F call ops base τ0 H0 j).2.next
 |0,h1,_=>by rw[show i=0 by omega];exact Fd _
 | j+1,h1,h2=>by
  rcases X3 h1 with rfl|B
  .exact Fd _
  .exact W5 (Dw u (show i<=j by omega) YC) (u.chg j YC).next
theorem later(G:mu P F call ops base τ0 H0)(u:eB P F call ops base τ0 H0){i j c:Nat}{r y:rX}{b:Blk}(M:i<j)(E:j<ops.size)(Z:iu P F call ops base τ0 H0 i=some r)(B:iu P F call ops base τ0 H0 j=some y)(ht:touched (iu P F call ops base τ0 H0 j) c)
  (D:(fS P F call ops base τ0 H0 i).2.get c=some b):((cz ops.toList []).getD j 0).testBit i=true\/(Ua r y/\(c∈y.writes\/(y.isCall=true/\False))):=by
 rcases G.free j i r y M E Z B with O|O
 .exact .inl O
 .right;refine⟨fW O,?_⟩;obtain⟨x,S,ht⟩:=ht;rw[B]at S;cases S;rcases ht with ht|ht|⟨Y,t2,_⟩
  .exact .inl ht
  .have:=((u.chg j E).made y B).1 c ht;subst this;rw[u.fresh i j YC E]at D;cases D
  .have h2:=((u.chg j E).made y B).2 Y;have h3:=Dw u (show i<=j by omega) YC;rw[u.bd i YC c YC]at D;cases D
theorem JU(E:mu P F call ops base τ0 H0)(O:eB P F call ops base τ0 H0){L:Nat->Bool}{i:Nat}(B:Next ops L i){c:Nat}
  (D:∀j,j<ops.size->j≠i->touched (iu P F call ops base τ0 H0 j) c->(j<i->((cz ops.toList []).getD i 0).testBit j=true)/\(i<j->((cz ops.toList []).getD j 0).testBit i=true)) :
  hget P F call ops base τ0 H0 L c=(fS P F call ops base τ0 H0 i).2.get c:=by
 rw[IA E O c i (by have:=B.lt;omega),hget,py (p:=λj=>dG (iu P F call ops base τ0 H0 j) c) B.lt B.not];intro j M G S;obtain⟨Z,Y⟩:=D j M G (tf.1 S);exact⟨λu=>B.before (Z u),λu=>B.behind M (Y u)⟩
theorem Mu(D:mu P F call ops base τ0 H0)(rf:eB P F call ops base τ0 H0){i c:Nat}{r:rX}{b:Blk}(hi:i<ops.size)(Y:iu P F call ops base τ0 H0 i=some r)(G:c∈r.reads)(hl:(fS P F call ops base τ0 H0 i).2.get c=some b):
  ∀j,j<ops.size->j≠i->touched (iu P F call ops base τ0 H0 j) c->(j<i->((cz ops.toList []).getD i 0).testBit j=true)/\(i<j->((cz ops.toList []).getD j 0).testBit i=true):=by
 intro j hj hne ht;obtain⟨x,M,E⟩:=ht;refine⟨λu=>?_,λu=>?_⟩
 .rcases D.free i j x r u hi M Y with B|B
  .exact B
  .exfalso;have S:=fW B;rcases E with t|t|⟨t1,t2,Z⟩
   .exact S.wr c t G
   .exact S.mr c t G
   .exact S.cr t1 c G ⟨t2,Z⟩
 .rcases later D rf u hj Y M ⟨x,M,E⟩ hl with B|⟨B,O|⟨_,O⟩⟩
  .exact B
  .exact absurd O (B.rw c G)
  .exact O.elim
theorem Gg{o:Op}{ρ:Operand->AV}{b c:Nat}{v:AV}{H H':af}(h:bA P F o ρ b H=some (.val v H'))(u:c∈aT o ρ):∃x,H.get c=some x:=by
 cases o with
 |load t a=>
  simp only[bA]at h;obtain⟨B,_⟩:=gJ h;simp only[aT]at u;generalize ρ a=y at B u;cases y<;>simp[am]at u<;>simp[oz]at B;subst u;cases Z:H.get _ with
  |none=>rw[Z]at B;simp at B
  |some x=>exact⟨x,rfl⟩
 |store t a x=>
  simp only[bA]at h;cases G:io P H t (ρ a) (ρ x)with
  |none=>rw[G]at h;cases h
  |some K=>
   simp only[aT]at u;unfold io at G;split at G
   .rename_i d i off cs n ha hcs hn;rw[ha]at u;simp[am]at u;subst u;split at G
    .rename_i y M;exact⟨y,M⟩
    .cases G
   .cases G
 |indexAddr t x ix=>
  simp only[bA]at h;obtain⟨B,_⟩:=gJ h;simp only[aT]at u;generalize ρ x=y at B u;cases y<;>simp[gE]at u;subst u;cases Z:H.get c with
  |some x=>exact⟨x,rfl⟩
  |none=>
   exfalso;simp only[fg,nB,Z,Option.map_none,Option.isSome_none,W7,false_and,and_false,if_false]at B;split at B
   .split at B
    .cases B
    .split at B<;>simp_all
   .cases B
 |slice t x lo hi mx=>
  simp only[bA]at h;split at h
  .cases h
  .obtain⟨B,_⟩:=gJ h;simp only[aT]at u;generalize ρ x=y at B u;cases y<;>simp[gE]at u;subst u;cases Z:H.get c with
   |some x=>exact⟨x,rfl⟩
   |none=>
    exfalso;simp only[lT,nB,Z,Option.map_none,Option.isSome_none,W7,false_and,if_false]at B;split at B
    .split at B
     .split at B<;>cases B
     .cases B
    .cases B
    .cases B
 |call k=>
  simp only[aT]at u;split at u
  .rename_i hk;simp only[bA,hk]at h;cases j:bJ P H b .append k.argTypes (k.args.toList.map ρ)with
   |none=>rw[j]at h;cases h
   |some q=>
    unfold bJ at j;split at j
    .rename_i e _;cases e
    .rename_i _ e _;cases e
    .rename_i s x e S;obtain⟨a0,a1,E,h0,B⟩:=qG S;rw[E]at u;simp only[List.flatMap_cons,List.flatMap_nil,Xr,h0,B,WM]at u;split at j
     .split at j
      .unfold dO at j;split at j
       .split at j
        .split at j
         .rename_i l m hl O;have aux:∀{y:AV} {q n},gV H n y=some q->c∈am y->∃x,H.get c=some x:=λ{y} {q} {n} M hcy=>by
           cases y<;>simp[am]at hcy<;>simp[gV]at M;subst hcy;split at M
           .rename_i x hx;exact⟨x,hx⟩
           .cases M
          rcases u with u|u
          .exact aux hl u
          .exact aux O u
         .cases j
        .cases j
       .cases j
      .cases j
     .cases j
    .rename_i e _;cases e
    .rename_i e _;cases e
    .rename_i e _;cases e
    .cases j
  .rename_i hk;simp only[bA,hk]at h;cases j:bJ P H b .clear k.argTypes (k.args.toList.map ρ)with
   |none=>rw[j]at h;cases h
   |some q=>
    unfold bJ at j;split at j
    .rename_i e _;cases e
    .rename_i _ e _;cases e
    .rename_i e _;cases e
    .rename_i e _;cases e
    .rename_i e _;cases e
    .rename_i x e S;obtain⟨a0,E,h0⟩:=qF S;rw[E]at u;simp only[List.flatMap_cons,List.flatMap_nil,Xr,h0]at u;split at j
     .rw[Ym]at j;obtain⟨K1,D,_⟩:=j;unfold gD at D;split at D
      .split at D
       .split at D
        .simp[am]at u
        .simp[am]at u;subst u;split at D
         .rename_i y M;exact⟨y,M⟩
         .cases D
        .cases D
       .cases D
      .cases D
     .cases j
    .cases j
  .simp at u
 |lookup t m k ok=>simp only[bA]at h;obtain⟨B,rfl⟩:=gJ h;obtain⟨q,x,O,hx,_⟩:=zS B;simp only[aT,O,am,WP]at u;exact⟨x,by rw[u];exact hx⟩
 |mapUpdate t m k x=>
  simp only[bA]at h;cases Y:gk P H t (ρ m) (ρ k) (ρ x)with
  |none=>rw[Y]at h;cases h
  |some H2=>obtain⟨q,y,y',O,M,_⟩:=nG Y;simp only[aT,O,am,WP]at u;exact⟨y,by rw[u];exact M⟩
 |next it s=>
  cases s with
  |false=>simp[bA]at h
  |true=>
   simp only[bA]at h;cases Y:jI H (ρ it)with
   |none=>rw[Y]at h;cases h
   |some r=>obtain⟨q,y,O,M,_⟩:=uk Y;simp only[aT,O,am,WP]at u;exact⟨y,by rw[u];exact M⟩
 |_=>simp[aT]at u
theorem ut{o:Op}{ρ:Operand->AV}{c:Nat}(j:c∈aJ o ρ):c∈aT o ρ:=by
 cases o with
 |store t a x=>exact j
 |call k=>
  simp only[aJ]at j;simp only[aT];split at j
  .rename_i E;rw[List.mem_flatMap]at j ⊢;obtain⟨x,B,u⟩:=j;exact⟨x,List.mem_of_mem_take B,u⟩
  .exact j
  .simp at j
 |mapUpdate t m k x=>exact j
 |next D s=>exact j
 |_=>simp[aJ]at j
end
end
section
def jU(L:Nat->Bool)(i:Nat):Nat->Bool:=λj=>if j=i then true else L j
theorem zZ{p:Nat->Bool}:∀{k j:Nat},cW p k=some j->j<k
 |0,j,h=>by cases h
 | k+1,j,h=>by
  unfold cW at h;split at h
  .cases h;omega
  .have:=zZ h;omega
def Dx(H:af):List Nat->af->af
 |[],K=>K
 |c::l,K=>Dx H l {K with tr:=K.tr.set c (H.get c)}
theorem Gh(H:af):∀(l:List Nat) (K:af) (c:Nat),(Dx H l K).get c=if c∈l then H.get c else K.get c
 |[],K,c=>by simp[Dx]
 | d::l,K,c=>by
  rw[Dx,Gh H l];by_cases j:c∈l
  .rw[if_pos j,if_pos (by simp[j])]
  .rw[if_neg j];show(K.tr.set d (H.get d)).get c=_;rw[Tr.get_set];by_cases h2:d=c
   .subst h2;rw[if_pos rfl,if_pos YF]
   .rw[if_neg h2,if_neg (by simp[j];exact λe=>h2 e.symm)];rfl
section
variable {P:Program} {F:TypeId->Option (List TypeId)} {call:FuncId->List AV->af->Option (AV×af)} {ops:Array Oper} {base:Nat} {τ0:List AV} {H0:af}
def T0(P:Program)(F:TypeId->Option (List TypeId))(call:FuncId->List AV->af->Option (AV×af))(ops:Array Oper)(base:Nat)(τ0:List AV)(H0:af)(w0:World)(σ0:bR)(L:Nat->Bool)(a:Act)(w:World):Prop:=
 ∃σ K,bQ w σ K/\(∀c,K.get c=hget P F call ops base τ0 H0 L c)/\K.next=Em P F call ops base τ0 H0 L/\a.tmps.size=τ0.length/\a.defers=[]/\(∀t x u,pz P F call ops base τ0 H0 L t=some x->a.tmps[t]? =some u->bN w σ (bB σ K) x u)/\
  fR w0 σ0 (bB σ0 H0) w σ (bB σ K)/\(∀c pl,σ c=some pl->σ0 c=some pl\/base<=c)/\(∀i,i<ops.size->L i=false->σ (base+i)=none)
def tl(P:Program)(F:TypeId->Option (List TypeId))(call:FuncId->List AV->af->Option (AV×af))(ops:Array Oper)(base:Nat)(τ0:List AV)(H0:af)(L:Nat->Bool):List AV:=
 (List.range τ0.length).map λt=>(pz P F call ops base τ0 H0 L t).getD ca
theorem Gi(D:eB P F call ops base τ0 H0)(L:Nat->Bool)(t:Tmp):(t<τ0.length->∃x,pz P F call ops base τ0 H0 L t=some x)/\(τ0.length<=t->pz P F call ops base τ0 H0 L t=none):=by
 unfold pz;split
 .rename_i j E;have B:=D.len (j+1) (zZ E);exact⟨λu=>⟨_,mt (by rw[B];exact u)⟩,λu=>ST (by rw[B];exact u)⟩
 .exact⟨λu=>⟨_,mt u⟩,λu=>ST u⟩
theorem Mv(j:eB P F call ops base τ0 H0)(L:Nat->Bool)(t:Tmp):(tl P F call ops base τ0 H0 L)[t]? =pz P F call ops base τ0 H0 L t:=by
 unfold tl;rw[W6];rcases Fn t τ0.length with h|h
 .rw[Yz h];obtain⟨x,u⟩:=(Gi j L t).1 h;simp[u]
 .rw[ST (by simpa using h),(Gi j L t).2 h];rfl
theorem Ub(j:eB P F call ops base τ0 H0){L:Nat->Bool}{a:Act}{w:World}{σ:bR}{T:Nat->Prop}(G:a.tmps.size=τ0.length)(h2:a.defers=[])(E:∀t x u,pz P F call ops base τ0 H0 L t=some x->a.tmps[t]? =some u->bN w σ T x u):
  c6 w σ T (tl P F call ops base τ0 H0 L) a:=
 ⟨⟨by simp[tl,G],λt x u B D=>E t x u (by rw[<-Mv j];exact B) (by rw[<-Array.getElem?_toList];exact D)⟩,h2⟩
theorem Pp{l m:List AV}{t:Nat}(h:l[t]? =m[t]?):l.getD t ca=m.getD t ca:=by simp[List.getD,h]
theorem Mw(u:mu P F call ops base τ0 H0)(G:eB P F call ops base τ0 H0)(B:nJ ops){L:Nat->Bool}{i:Nat}(M:Next ops L i){o:Oper}(S:ops[i]? =some o):
  (∀x∈cq o.op,kV (fS P F call ops base τ0 H0 i).1 x=kV (tl P F call ops base τ0 H0 L) x)/\eK ops o (tl P F call ops base τ0 H0 L)=eK ops o (fS P F call ops base τ0 H0 i).1:=by
 have E:∀t∈jz ops o,(tl P F call ops base τ0 H0 L)[t]? =(fS P F call ops base τ0 H0 i).1[t]? :=λt h=>by rw[Mv G,Po u B M S h]
 refine⟨λx O=>?_,?_⟩
 .cases x with
  | tmp t=>exact(Pp (E t (by
    simp only[jz,WM];exact .inl (.inr (List.mem_filterMap.2 ⟨.tmp t,O,rfl⟩))))).symm
  |const v=>rfl
  |global g=>rfl
  |func f=>rfl
 .unfold eK;cases Y:o.guard with
  |none=>rfl
  |some q=>
   obtain⟨j,D⟩:=q;simp only[];cases Z:(ops[j]?).bind (·.dst)with
   |none=>rfl
   |some d=>simp only[];rw[E d (by simp only[jz,WM,Y,Z];right;simp)]
theorem z6(run:mu P F call ops base τ0 H0)(rf:eB P F call ops base τ0 H0)(hst:nJ ops){L:Nat->Bool}{i:Nat}(O:Next ops L i){o:Oper}(ho:ops[i]? =some o){v:AV}{v':Value}{a:Act}{w w':World}{σ σ':bR}{T T':Nat->Prop}
  (hv:(fS P F call ops base τ0 H0 (i+1)).1=ik (fS P F call ops base τ0 H0 i).1 o.dst v) (hr:bN w' σ' T' v v') (h1:a.tmps.size=τ0.length) (h3:∀t x u,pz P F call ops base τ0 H0 L t=some x->a.tmps[t]? =some u->bN w σ T x u) (hE:∀x u,bN w σ T x u->bN w' σ' T' x u) :
  (a.put o.dst v').tmps.size=τ0.length/\∀t x u,pz P F call ops base τ0 H0 (jU L i) t=some x->(a.put o.dst v').tmps[t]? =some u->bN w' σ' T' x u:=by
 refine⟨by cases o.dst<;>simp[Act.put,h1],λt x u B D=>?_⟩;by_cases Z:wr ops t i=true
 .have E:o.dst=some t:=by simpa[wr,ho]using Z
  have hl:cW (λj=>jU L i j&&wr ops t j) ops.size=some i:=by
   refine vZ O.lt O.not Z λj hj hne Y hlt=>?_
   have M:ops[j]? =some ops[j]:=Xj hj;have hdj:(ops[j]).dst=some t:=by simpa[wr,M]using Y
   rcases hst j i _ o hlt M ho with h4|⟨h4,_⟩
   .exact O.behind hj h4
   .exact absurd (by simp[jz,hdj]) (h4 t E)
  unfold pz at B;rw[hl]at B;simp only[hv,E,ik,Xc]at B;simp only[E,Act.put,Array.getElem?_setIfInBounds]at D;simp only[if_true]at B D;split at B
  .split at D
   .cases B;cases D;exact hr
   .cases D
  .cases B
 .have G:wr ops t i=false:=by simpa using Z
  have E:(o.dst==some t)=false:=by simpa[wr,ho]using G
  have hl:cW (λj=>jU L i j&&wr ops t j) ops.size=cW (λj=>L j&&wr ops t j) ops.size:=nI G;have S:pz P F call ops base τ0 H0 L t=some x:=by unfold pz at B ⊢;rw[hl]at B;exact B
  refine hE x u (h3 t x u S ?_);rw[<-D];cases hdd:o.dst with
  |none=>rfl
  |some d=>
   have:d≠t:=by rw[hdd]at E;simpa using E
   simp[Act.put,this]
end
end
section
section
variable {P:Program} {F:TypeId->Option (List TypeId)} {call:FuncId->List AV->af->Option (AV×af)} {ops:Array Oper} {base:Nat} {τ0:List AV} {H0:af}
theorem JV(u:eB P F call ops base τ0 H0)(L:Nat->Bool):H0.next<=Em P F call ops base τ0 H0 L:=by
 unfold Em;split
 .rename_i j B;exact u.le (j+1) (zZ B)
 .exact Fd _
theorem wa{L:Nat->Bool}{i c:Nat}(h:dG (iu P F call ops base τ0 H0 i) c=false):hget P F call ops base τ0 H0 (jU L i) c=hget P F call ops base τ0 H0 L c:=by have u:cW (λj=>jU L i j&&dG (iu P F call ops base τ0 H0 j) c) ops.size=cW (λj=>L j&&dG (iu P F call ops base τ0 H0 j) c) ops.size:=nI (p:=λj=>dG (iu P F call ops base τ0 H0 j) c) h;unfold hget;rw[u]
theorem Gj{L:Nat->Bool}{i c:Nat}(u:Next ops L i)(h:dG (iu P F call ops base τ0 H0 i) c=true)(O:∀j,j<ops.size->j≠i->touched (iu P F call ops base τ0 H0 j) c->i<j->((cz ops.toList []).getD j 0).testBit i=true):hget P F call ops base τ0 H0 (jU L i) c=(fS P F call ops base τ0 H0 (i+1)).2.get c:=by
 have G:cW (λj=>jU L i j&&dG (iu P F call ops base τ0 H0 j) c) ops.size=some i:=vZ (p:=λj=>dG (iu P F call ops base τ0 H0 j) c) u.lt u.not h λj E B M D=>u.behind E (O j E B (tf.1 M) D)
 unfold hget;rw[G]
theorem Mx(fit:Fit P F)(hs:gz P call)(hch:∀f args H v H',Bd H->call f args H=some (v,H')->zr H H')(G:mu P F call ops base τ0 H0)(rf:eB P F call ops base τ0 H0)(hst:nJ ops)(hb:base+ops.size=H0.next)
  {w0:World} {σ0:bR} {L:Nat->Bool} {i:Nat} {a:Act} {w:World} (nx:Next ops L i) (h:T0 P F call ops base τ0 H0 w0 σ0 L a w) {Q:Exit->Act->World->Prop}:wpOp P ops Q i (T0 P F call ops base τ0 H0 w0 σ0 (jU L i)) a w:=by
 obtain⟨σ,K,hW,hK,hn,hsz,hdf,hrep,hE0,hnm,hfr⟩:=h;have hi:=nx.lt;obtain⟨o,ho⟩:∃o,ops[i]? =some o:=⟨_,Xj hi⟩;obtain⟨hu,hwt⟩:=Mw G rf hst nx ho;have htm:=Ub rf hsz hdf hrep;have hbi:σ (base+i)=none:=hfr i hi nx.not;have hKb:K.get (base+i)=none:=by
  cases hg:K.get (base+i)with
  |none=>rfl
  |some x=>obtain⟨pl,_,_,h1,_⟩:=hW.live _ x hg;rw[hbi]at h1;cases h1
 have hSb:(fS P F call ops base τ0 H0 i).2.get (base+i)=none:=rf.fresh i i (Fd _) hi;have hlt:base+i<K.next:=by have:=JV rf L;rw[hn];omega
 have hfresh:∀{σ':bR},(∀c pl,σ' c=some pl->σ c=some pl\/c=base+i\/K.next<=c)->∀j,j<ops.size->jU L i j=false->σ' (base+j)=none:=λ{σ'} hσ j hj hLj=>by
  have hji:j≠i:=by rintro rfl;simp[jU]at hLj
  have hL:L j=false:=by simpa[jU,hji]using hLj
  cases hg:σ' (base+j)with
  |none=>rfl
  |some pl=>
   have hge:=JV rf L;rcases hσ _ pl hg with h1|h1|h1
   .rw[hfr j hj hL]at h1;cases h1
   .omega
   .omega
 have D:=G.step i hi;unfold bZ at D;rw[ho]at D;simp only[]at D;unfold wpOp;rw[ho];simp only[];split at D
 .rename_i S;rw[<-hwt]at S;rw[if_pos (jS htm S)];left;unfold Oper.wp;split at D
  .rename_i v H' hop;simp only[W3,Prod.mk.injEq]at D;obtain⟨e1,e2,e3⟩:=D;obtain⟨q1,q2,q3⟩:=JT (P:=P) (F:=F) hu (base+i) (fS P F call ops base τ0 H0 i).2;have hop2:bA P F o.op (kV (tl P F call ops base τ0 H0 L)) (base+i) (fS P F call ops base τ0 H0 i).2=some (.val v H'):=by rw[<-q1];exact hop
   have hreads:∀c,c∈aT o.op (kV (tl P F call ops base τ0 H0 L))->∃x,(fS P F call ops base τ0 H0 i).2.get c=some x/\∀j,j<ops.size->j≠i->touched (iu P F call ops base τ0 H0 j) c->(j<i->((cz ops.toList []).getD i 0).testBit j=true)/\(i<j->((cz ops.toList []).getD j 0).testBit i=true):=λc Z=>by obtain⟨x,hx⟩:=Gg hop2 Z;exact⟨x,hx,Mu G rf hi e3.symm (by show c∈aT o.op (kV (fS P F call ops base τ0 H0 i).1);rw[q2];exact Z) hx⟩
   have hr:∀c∈aT o.op (kV (tl P F call ops base τ0 H0 L)),K.get c=(fS P F call ops base τ0 H0 i).2.get c:=λc Z=>by obtain⟨x,_,h1⟩:=hreads c Z;rw[hK];exact JU G rf nx h1
   obtain⟨K',l1,l2,l3⟩:=KV hop2 K hr (by rw[hKb,hSb]);obtain⟨v',w',σ',h1,h2,h3,h4,h5⟩:=Dt fit hW hbi hlt (o:=o) (htm.eval hW.glob) l1;have E:∀c,dG (iu P F call ops base τ0 H0 i) c=true↔(c∈aJ o.op (kV (tl P F call ops base τ0 H0 L))\/c=base+i):=λc=>by rw[<-e3,<-q3];simp[dG]
   have hinv:T0 P F call ops base τ0 H0 w0 σ0 (jU L i) (a.put o.dst v') w':=by
    obtain⟨t1,t2⟩:=z6 G rf hst nx ho e1.symm h2 hsz hrep (λx u hxu=>hxu.mono h4);refine⟨σ',K',h3,λc=>?_,?_,t1,by cases o.dst<;>exact hdf,t2,hE0.trans h4,λc pl Z=>?_,hfresh (λc pl Z=>?_)⟩
    .rw[l3];cases M:dG (iu P F call ops base τ0 H0 i) c with
     |true=>
      have Z:=(E c).1 M;rw[if_pos Z,Gj nx M,<-e2]
      .rfl
      .intro j hj hne hjt hlt';rcases Z with Z|Z
       .obtain⟨x,_,B⟩:=hreads c (ut Z);exact(B j hj hne hjt).2 hlt'
       .obtain⟨y,hy,hyt⟩:=hjt;rcases G.free j i _ y hlt' hj e3.symm hy with B|B
        .exact B
        .exfalso;have fr:=fW B;rcases hyt with t|t|⟨t3,t4,_⟩
         .exact fr.mw c (by simp[Z]) t
         .have:=((rf.chg j hj).made y hy).1 c t;omega
         .have:=((rf.chg j hj).made y hy).2 t3;have:=rf.le j YC;omega
     |false=>rw[if_neg (λZ=>by rw[(E c).2 Z]at M;cases M),wa M,hK]
    .rw[l2,hn];have:jc (iu P F call ops base τ0 H0 i)=false:=by rw[<-e3];rfl
     have hl:cW (λj=>jU L i j&&jc (iu P F call ops base τ0 H0 j)) ops.size=cW (λj=>L j&&jc (iu P F call ops base τ0 H0 j)) ops.size:=nI (p:=λj=>jc (iu P F call ops base τ0 H0 j)) this;unfold Em;rw[hl]
    .rcases h5 c pl Z with B|B
     .exact hnm c pl B
     .exact .inr YC
    .rcases h5 c pl Z with B|B
     .exact .inl B
     .exact .inr (.inl B)
   rcases h1 with h1|⟨h1,rfl⟩
   .rw[h1];exact hinv
   .rw[h1];exact hinv
  .rename_i f args hop;split at D
   .rename_i v H1 Y;simp only[W3,Prod.mk.injEq]at D;obtain⟨e1,e2,e3⟩:=D;obtain⟨q1,q2,q3⟩:=JT (P:=P) (F:=F) hu (base+i) (fS P F call ops base τ0 H0 i).2;have hop2:bA P F o.op (kV (tl P F call ops base τ0 H0 L)) (base+i) (fS P F call ops base τ0 H0 i).2=some (.call f args):=by rw[<-q1];exact hop
    have hopK:=zX hop2 K;obtain⟨fn,cd,hf,hbd⟩:=hs.body _ _ _ _ _ Y;obtain⟨vs,g1,g2⟩:=F8 fit (o:=o) (b:=base+i) (htm.eval hW.glob) hopK hf hbd;have hHg:=i9 base ((cz ops.toList []).getD i 0) i (fS P F call ops base τ0 H0 i).2;have hHn:=(hY base ((cz ops.toList []).getD i 0) i (fS P F call ops base τ0 H0 i).2).1;generalize hHc:eI base ((cz ops.toList []).getD i 0) i (fS P F call ops base τ0 H0 i).2=Hh at Y e3 hHg hHn;have hbdc:Bd ({Hh with log:=[]}:af):=λd hd=>by
     show Hh.get d=none;rw[hHg];split
     .rfl
     .exact rf.bd i YC d (by rw[<-hHn];exact hd)
    have hcg:zr ({Hh with log:=[]}:af) H1:=hch _ _ _ _ _ hbdc Y;generalize hHc2:({Hh with log:=[]}:af)=Hc at Y hcg hbdc;have hHg:∀c,Hc.get c=if(∃j,j<i/\((cz ops.toList []).getD i 0).testBit j=false/\c=base+j)then none else(fS P F call ops base τ0 H0 i).2.get c:=λc=>by rw[<-hHc2];exact hHg c
    have hHn:Hc.next=(fS P F call ops base τ0 H0 i).2.next:=by rw[<-hHc2];exact hHn
    have hHh:∀c,Hh.get c=Hc.get c:=λc=>by rw[<-hHc2];rfl
    have E:∀c,dG (iu P F call ops base τ0 H0 i) c=true↔((c∈H1.log/\(Hc.get c).isSome=true)\/((fS P F call ops base τ0 H0 i).2.next<=c/\c<H1.next)):=λc=>by rw[<-e3];simp[dG,hHh]
    have hKn:K.next=(fS P F call ops base τ0 H0 i).2.next:=by
     rw[hn,IB G i YC,Em,py (p:=λj=>jc (iu P F call ops base τ0 H0 j)) hi nx.not];intro j hj hne O;cases hx:iu P F call ops base τ0 H0 j with
     |none=>rw[hx]at O;cases O
     |some x=>
      rw[hx]at O;refine⟨λhl=>?_,λhl=>?_⟩
      .rcases G.free i j x _ hl hi hx e3.symm with B|B
       .exact nx.before B
       .have:=(fW B).cc O;cases this
      .rcases G.free j i _ x hl hj e3.symm hx with B|B
       .exact nx.behind hj B
       .have:=(fW B).cc rfl;have h7:x.isCall=true:=O;rw[h7]at this;cases this
    have hsub:∀c x,Hc.get c=some x->K.get c=some x:=λc x hx=>by
     rw[hHg]at hx;split at hx
     .cases hx
     .rename_i hnh;rw[hK,JU G rf nx ?_]
      .exact hx
      .intro j hj hne M;obtain⟨y,hy,hyt⟩:=M;refine⟨λhl=>?_,λhl=>?_⟩
       .cases hbit:((cz ops.toList []).getD i 0).testBit j with
        |true=>rfl
        |false=>
         exfalso;rcases G.free i j y _ hl hi hy e3.symm with B|B
         .rw[hbit]at B;cases B
         .have fr:=fW B;rcases hyt with t|t|⟨t3,_,_⟩
          .exact fr.wc rfl c t
          .exact hnh ⟨j,hl,hbit,((rf.chg j hj).made y hy).1 c t⟩
          .have:=fr.cc t3;cases this
       .rcases later G rf hl hj e3.symm hy ⟨y,hy,hyt⟩ hx with B|⟨fr,B|⟨_,B⟩⟩
        .exact B
        .exact absurd B (fr.cw rfl c)
        .exact B.elim
    have hnK:Hc.next=K.next:=by rw[hHn,hKn]
    have hWc:=hW.part hsub (by rw[hnK];exact Fd _);rw[g1];refine(hs.ok _ _ _ _ _ Y w (σ.part K Hc) vs hWc ⟨g2.1,λq x u hx hu=>by rw[ur hsub];exact bN.sig (σ:=σ) (σ':=σ.part K Hc) rfl (g2.2 q x u hx hu)⟩).mono ?_;rintro e w' ⟨v',σ',rfl,k1,k2,k3,k4⟩;have hK1:=hcg.next;obtain⟨K',hK'n,hK'g⟩:∃K':af,K'.next=H1.next/\∀c,K'.get c=if dG (iu P F call ops base τ0 H0 i) c=true then H1.get c else K.get c:=by
     refine⟨{Dx H1 (H1.log.filter (λc=>(Hc.get c).isSome)++List.range' K.next (H1.next-K.next)) K with next:=H1.next},rfl,λc=>?_⟩;show(Dx H1 _ K).get c=_;rw[Gh];have:c∈(H1.log.filter (λc=>(Hc.get c).isSome)++List.range' K.next (H1.next-K.next))↔dG (iu P F call ops base τ0 H0 i) c=true:=by
      rw[E,WM,Ye,List.mem_range'_1,hKn];constructor
      .rintro(B|B)
       .exact .inl B
       .exact .inr YC
      .rintro(B|B)
       .exact .inl B
       .exact .inr YC
     by_cases M:dG (iu P F call ops base τ0 H0 i) c=true
     .rw[if_pos (this.2 M),if_pos M]
     .rw[if_neg (λB=>M (this.1 B)),if_neg M]
    have hbd1:Bd H1:=hcg.bd hbdc;have hform:∀c,K'.get c=if Hc.get c=none/\c<K.next then K.get c else H1.get c:=λc=>by
     rw[hK'g];by_cases M:dG (iu P F call ops base τ0 H0 i) c=true
     .rw[if_pos M,if_neg];rintro⟨B,h7⟩;rcases(E c).1 M with⟨_,h8⟩|⟨h8,_⟩
      .rw[B]at h8;cases h8
      .omega
     .rw[if_neg M];split
      .rfl
      .rename_i hnn;cases hg:Hc.get c with
       |some x=>
        have hcl:c∉H1.log:=λB=>M ((E c).2 (.inl ⟨B,by rw[hg];rfl⟩))
        have hcn:c<Hc.next:=by
         rcases Fn c Hc.next with B|B
         .exact B
         .rw[hbdc c B]at hg;cases hg
        rw[hcg.keep c hcn hcl,hg];exact hsub c x hg
       |none=>
        have hcn:K.next<=c:=by
         rcases Fn c K.next with B|B
         .exact absurd ⟨hg,B⟩ hnn
         .exact B
        have hc1:H1.next<=c:=by
         rcases Fn c H1.next with B|B
         .exact absurd ((E c).2 (.inr ⟨by rw[<-hKn];exact hcn,B⟩)) M
         .exact B
        rw[hbd1 c hc1];cases hg2:K.get c with
        |none=>rfl
        |some x=>obtain⟨pl,_,_,B,_⟩:=hW.live c x hg2;have:=hW.named c pl B;omega
    obtain⟨z1,z2,z3⟩:=hW.whole hsub hnK k2 k3 hcg.dom hform (by rw[hK'n];exact Fd _);obtain⟨t1,t2⟩:=z6 G rf hst nx ho (v:=v) (v':=v') (w':=w') (σ':=⟨σ'.map,σ.fr⟩) (T':=bB ⟨σ'.map,σ.fr⟩ K') e1.symm (by rw[z3];exact bN.sig (σ:=σ') (σ':=⟨σ'.map,σ.fr⟩) rfl k1) hsz hrep (λx u hxu=>hxu.mono z2);refine(⟨⟨σ'.map,σ.fr⟩,K',z1,λc=>?_,?_,t1,by cases o.dst<;>exact hdf,t2,hE0.trans z2,λc pl Z=>?_,hfresh (λc pl Z=>?_)⟩:T0 P F call ops base τ0 H0 w0 σ0 (jU L i) (a.put o.dst v') w')
    .rw[hK'g];cases M:dG (iu P F call ops base τ0 H0 i) c with
     |true=>
      have hnhid:¬ ∃j,j<i/\((cz ops.toList []).getD i 0).testBit j=false/\c=base+j:=by
       intro hh;rcases(E c).1 M with⟨_,h8⟩|⟨h8,_⟩
       .rw[hHg,if_pos hh]at h8;cases h8
       .obtain⟨j,hj,_,rfl⟩:=hh;have:=rf.le i YC;omega
      rw[if_pos rfl,Gj nx M,<-e2]
      .show H1.get c=(jJ _ _ _ _ _).get c;rw[mq,if_neg hnhid]
      .intro j hj hne hjt hl;obtain⟨y,hy,hyt⟩:=hjt;rcases G.free j i _ y hl hj e3.symm hy with B|B
       .exact B
       .exfalso;have fr:=fW B;rcases hyt with t|t|⟨t3,_,_⟩
        .exact fr.cw rfl c t
        .have O:=((rf.chg j hj).made y hy).1 c t;rcases(E c).1 M with⟨_,h8⟩|⟨h8,_⟩
         .rw[hHg,if_neg hnhid,O,rf.fresh i j YC hj]at h8;cases h8
         .have:=rf.le i YC;omega
        .have h7:=fr.cc rfl;rw[t3]at h7;cases h7
     |false=>rw[if_neg YF,wa M,hK]
    .rw[hK'n];have hcb:jc (iu P F call ops base τ0 H0 i)=true:=by rw[<-e3];rfl
     have hl:cW (λj=>jU L i j&&jc (iu P F call ops base τ0 H0 j)) ops.size=some i:=vZ (p:=λj=>jc (iu P F call ops base τ0 H0 j)) hi nx.not hcb (λj hj hne O hl=>by
      cases hx:iu P F call ops base τ0 H0 j with
      |none=>rw[hx]at O;cases O
      |some x=>
       rw[hx]at O;rcases G.free j i _ x hl hj e3.symm hx with B|B
       .exact nx.behind hj B
       .have:=(fW B).cc rfl;have h7:x.isCall=true:=O;rw[h7]at this;cases this)
     unfold Em;rw[hl];simp only[];rw[<-e2];exact(iR _ _ _ _ _).1.symm
    .rcases k4 c pl Z with B|B
     .exact hnm c pl B
     .exact .inr (by have:=rf.le i YC;omega)
    .rcases k4 c pl Z with B|B
     .exact .inl B
     .exact .inr (.inr YC)
   .cases D
  .cases D
 .rename_i S;rw[<-hwt]at S;rw[if_neg (by rw[jS htm S];simp)];simp only[W3,Prod.mk.injEq]at D;obtain⟨e1,e2,e3⟩:=D;obtain⟨t1,t2⟩:=z6 G rf hst nx ho e1.symm mn hsz hrep (λx u hxu=>hxu);have M:∀c,dG (iu P F call ops base τ0 H0 i) c=false:=λc=>by rw[<-e3];rfl
  refine⟨σ,K,hW,λc=>by rw[wa (M c),hK],?_,t1,by cases o.dst<;>exact hdf,t2,hE0,hnm,hfresh (λc pl Z=>.inl Z)⟩;rw[hn];have:jc (iu P F call ops base τ0 H0 i)=false:=by rw[<-e3];rfl
  have hl:cW (λj=>jU L i j&&jc (iu P F call ops base τ0 H0 j)) ops.size=cW (λj=>L j&&jc (iu P F call ops base τ0 H0 j)) ops.size:=nI (p:=λj=>jc (iu P F call ops base τ0 H0 j)) this;unfold Em;rw[hl]
 .cases D
end
end
section
def uu(ops:Array Oper):Prop:=∀(i:Nat) (o:Oper),ops[i]? =some o->∀e∈o.after.toList,Region.binds .any e=true->e.on<i
def lg:Code->Prop
 |.region _ ops draw=>draw=true->nJ ops/\uu ops
 |.seq a b=>lg a/\lg b
 |.cond _ a b=>lg a/\lg b
 |.block _ b=>lg b
 |.loop b=>lg b
 |_=>True
section
variable {P:Program} {F:TypeId->Option (List TypeId)} {call:FuncId->List AV->af->Option (AV×af)} {ops:Array Oper} {base:Nat} {τ0:List AV} {H0:af}
theorem nK(Z:gz P call){B:List Nat}:∀(l:List Nat) (S D:List AV) (H K:af) (Y E:List rX),fK P F call ops base B l S H Y=some (D,K,E)->H.next<=K.next
 |[],S,D,H,K,Y,E,h=>by cases h;exact Fd _
 | i::l,S,D,H,K,Y,E,h=>by
  have O:∀{u M H1 r},bZ P F call ops base i u S H=some (M,H1,r)->H.next<=H1.next:=λ{u M H1 r} j=>by
   unfold bZ at j;split at j
   .cases j
   .split at j
    .split at j
     .rename_i hop;cases j;have:=zT hop;exact Nat.le_of_eq this.symm
     .split at j
      .rename_i G;cases j;have:=Z.next _ _ _ _ _ G;show H.next<=(jJ _ _ _ _ _).next
       rw[(iR _ _ _ _ _).1];have h2:=(hY base u i H).1;simp only[]at this;omega
      .cases j
     .cases j
    .cases j;exact Fd _
    .cases j
  unfold fK at h;split at h
  .rename_i j;exact W5 (O j) (nK Z l _ _ _ _ _ _ h)
  .rename_i j;split at h
   .exact W5 (O j) (nK Z l _ _ _ _ _ _ h)
   .cases h
  .cases h
def cnt(L:Nat->Bool):Nat->Nat
 |0=>0
 |k+1=>cnt L k+(if L k then 0 else 1)
theorem Gk{L:Nat->Bool}:∀{n:Nat},cnt L n=0->∀i,i<n->L i=true
 | n+1,h,i,hi=>by
  unfold cnt at h;rcases X3 (Nat.le_of_lt_succ hi)with rfl|j
  .cases u:L i with
   |true=>rfl
   |false=>rw[u]at h;simp at h
  .exact Gk YC i j
theorem Dy{L M:Nat->Bool}:∀{n:Nat},(∀i,i<n->L i=M i)->cnt L n=cnt M n
 |0,_=>rfl
 |n+1,h=>by rw[cnt,cnt,Dy λi j=>h i YC,h n YC]
theorem JW{L:Nat->Bool}{i:Nat}(B:L i=false):∀{n:Nat},i<n->cnt (jU L i) n+1=cnt L n
 | n+1,hi=>by
  unfold cnt;rcases X3 (Nat.le_of_lt_succ hi)with rfl|u
  .rw[Dy (M:=L) λj D=>by simp[jU,show¬j=i by omega]];simp[jU,B]
  .have:=JW B u;have e:jU L i n=L n:=by simp[jU,show¬n=i by omega]
   rw[e];omega
theorem Dz:∀n,cnt (λ_=>false) n=n
 |0=>rfl
 |n+1=>by simp[cnt,Dz n]
theorem DA{L:Nat->Bool}:∀n,(∀i,i<n->L i=true)\/∃i,i<n/\L i=false/\∀j,j<i->L j=true
 |0=>.inl λi B=>by omega
 | n+1=>by
  rcases DA (L:=L) n with h|⟨i,G,h2,E⟩
  .by_cases D:L n=true
   .left;intro i B;rcases X3 (Nat.le_of_lt_succ B)with rfl|u
    .exact D
    .exact h i u
   .exact .inr ⟨n,YC,by simpa using D,h⟩
  .exact .inr ⟨i,YC,h2,E⟩
theorem we{l:Array Bool}{i:Nat}(j:i<l.size):l.getD i true=l.getD i false:=by simp[Array.getD,j]
theorem KY(fit:Fit P F)(hs:gz P call)(hch:∀f args H v H',Bd H->call f args H=some (v,H')->zr H H')(run:mu P F call ops base τ0 H0)(rf:eB P F call ops base τ0 H0)(hst:nJ ops)(hed:uu ops)(hb:base+ops.size=H0.next)
  {w0:World} {σ0:bR} {Q:Exit->Act->World->Prop} (hQ:∀a w,T0 P F call ops base τ0 H0 w0 σ0 (λi=>decide (i<ops.size)) a w->Q .normal a w) :
  ∀(fuel:Nat) (u:Array Bool) (a:Act) (w:World),u.size=ops.size->El ops (λi=>u.getD i false)->cnt (λi=>u.getD i false) ops.size<=fuel->
   T0 P F call ops base τ0 H0 w0 σ0 (λi=>u.getD i false) a w->wpAny P .any ops Q fuel u a w:=by
 intro fuel
 induction fuel with
 |zero=>
  intro u a w G Z hf hI;have D:=Gk (by omega:cnt (λi=>u.getD i false) ops.size=0);unfold wpAny;refine⟨?_,?_⟩
  .unfold Region.ready;rw[List.filter_eq_nil_iff];intro i B;rw[XR]at B;have:=D i B;rw[we YC,this];simp
  .refine hQ a w ?_;have e:(λi=>u.getD i false)=λi=>decide (i<ops.size):=by
    funext i;by_cases B:i<ops.size
    .rw[D i B];simp[B]
    .simp[Array.getD,G,B]
   rw[<-e];exact hI
 |succ fuel ih=>
  intro u a w G Z hf hI;unfold wpAny;refine⟨λhr=>?_,λi B=>?_⟩
  .rcases DA (L:=λi=>u.getD i false) ops.size with D|⟨i,h1,h2,h3⟩
   .refine hQ a w ?_;have e:(λi=>u.getD i false)=λi=>decide (i<ops.size):=by
     funext i;by_cases B:i<ops.size
     .rw[D i B];simp[B]
     .simp[Array.getD,G,B]
    rw[<-e];exact hI
   .exfalso;unfold Region.ready at hr;rw[List.filter_eq_nil_iff]at hr;have ho:ops[i]? =some ops[i]:=Xj h1;refine hr i (by rw[XR];exact h1) ?_;rw[we YC,ho];rw[h2];simp only[Bool.not_false,X8,Xl,XU];rw[Yo];intro e he;cases E:Region.binds .any e with
    |false=>rfl
    |true=>have:=h3 e.on (hed i _ ho e (by rw[Array.mem_toList_iff];exact he) E);rw[this];rfl
  .unfold Region.ready at B;rw[Ye,XR]at B;obtain⟨Y,M⟩:=B;obtain⟨o,ho⟩:∃o,ops[i]? =some o:=⟨_,Xj Y⟩;rw[WZ,ho]at M;obtain⟨M,S⟩:=M;have O:u.getD i false=false:=by rw[<-we YC];simpa using M
   simp only[Xl,XU]at S;rw[Yo]at S;have nx:Next ops (λi=>u.getD i false) i:=⟨Y,O,Z,λo' ho' e he E=>by
    rw[ho]at ho';cases ho';have:=S e (by rw[<-Array.mem_toList_iff];exact he);rw[E]at this;simpa using this⟩
   have eL:(λj=>(u.setIfInBounds i true).getD j false)=jU (λj=>u.getD j false) i:=by
    funext j;unfold jU;by_cases hj:j=i
    .subst hj;rw[if_pos rfl];simp[Array.getD,show j<u.size by omega]
    .rw[if_neg hj];by_cases hjl:j<u.size
     .simp[Array.getD,hjl,show¬i=j by omega]
     .simp[Array.getD,hjl]
   refine wpOp_mono (λa' w' hI'=>?_) (Mx fit hs hch run rf hst hb nx hI);refine ih _ a' w' (by simpa using G) ?_ ?_ (by rw[eL];exact hI')
   .rw[eL];intro j oj hoj hLj e he E;unfold jU at hLj ⊢;split
    .rfl
    .split at hLj
     .rename_i _ hji;subst hji;exact nx.edges oj hoj e he E
     .exact Z j oj hoj hLj e he E
   .rw[eL];have:=JW (L:=λj=>u.getD j false) O Y;omega
theorem z7(fit:Fit P F)(hs:gz P call)(hch:∀f args H v H',Bd H->call f args H=some (v,H')->zr H H')(hst:nJ ops)(hed:uu ops){S D:List AV}{H H':af}(h:eM P F call ops true S H=some (D,H')):
  H.next<=H'.next/\∀(id:Nat) (w:World) (σ:bR) (a:Act),bQ w σ H->c6 w σ (bB σ H) S a->∀Q:Exit->Act->World->Prop,(∀a' w',r7 w σ H D H' a' w'->Q .normal a' w')->(Code.region id ops true).wp P Q a w:=by
 simp only[eM,if_true]at h;split at h
 .rename_i τq K rs hd;cases h;refine⟨W5 (Xu _ _) (nK hs _ _ _ _ _ _ _ hd),λid w σ a hW Z Q hQ=>?_⟩;have hbd:Bd H:=λb hb=>by
   cases hg:H.get b with
   |none=>rfl
   |some x=>obtain⟨pl,_,_,h1,_⟩:=hW.live b x hg;have:=hW.named b pl h1;omega
  have hn:H.next+ops.size=({H with next:=H.next+ops.size}:af).next:=rfl
  have M:∀b,({H with next:=H.next+ops.size}:af).get b=H.get b:=λ_=>rfl
  have hW0:bQ w σ {H with next:=H.next+ops.size}:=hW.congr M (Xu _ _);have ho0:bB σ {H with next:=H.next+ops.size}=bB σ H:=bB.congr M;generalize hH0:({H with next:=H.next+ops.size}:af)=H0 at hd hn M hW0 ho0;have hbd0:Bd H0:=λb hb=>by rw[M];exact hbd b YC
  rw[List.range_eq_range']at hd;obtain⟨a1,a2,a3⟩:=Mt (P:=P) (F:=F) (call:=call) (ops:=ops) (base:=H.next) (τ0:=S) (H0:=H0) ops.size 0 [] rs D K hd (λj x hj=>by omega);simp only[Xn]at a1 a2 a3;have E:mu P F call ops H.next S H0:=⟨λi hi=>a1 i (Xq _) hi,λi j x r hji hi hx hr=>a2 i j x r (Xq _) hi hji hx hr⟩;have rf:=KX hch E hbd0 hn (λj hj=>by rw[M];exact hbd _ (Xu _ _));have B:∀(p:Nat->Bool) n,cW (λj=>false&&p j) n=none:=λp n=>by rw[td (k:=0) (Xq _) (λi _ _=>by simp)];rfl
  have O:∀(p:Nat->Bool) n,cW (λj=>decide (j<n)&&p j) n=cW p n:=λp n=>lf λi hi=>by simp[hi]
  refine wp_region_any fit.order (KY (w0:=w) (σ0:=σ) fit hs hch E rf hst hed hn ?_ ops.size _ a _ YF ?_ ?_ ?_)
  .intro a' w' hI;obtain⟨Y,K',k1,k2,k3,k4,k5,k6,k7,k8,_⟩:=hI;have eS:(fS P F call ops H.next S H0 ops.size)=(D,K):=a3.symm;have G:∀c,K'.get c=K.get c:=λc=>by have:=IA E rf c ops.size (Fd _);rw[eS]at this;rw[k2,hget,O];exact this.symm
   have hnx:K'.next=K.next:=by have:=IB E ops.size (Fd _);rw[eS]at this;rw[k3,Em,O];exact this.symm
   have htg:∀t,pz P F call ops H.next S H0 (λi=>decide (i<ops.size)) t=D[t]? :=λt=>by have:=Iz E t ops.size (Fd _);rw[eS]at this;rw[pz,O];exact this.symm
   have hlen:D.length=S.length:=by have:=rf.len ops.size (Fd _);rw[eS]at this;exact this
   have hoK:bB Y ({K with log:=rs.flatMap (·.writes)++K.log}:af)=bB Y K':=bB.congr λb=>(G b).symm
   refine hQ a' w' ⟨Y,⟨⟨by simp[hlen,k4],λt x u hx hu=>?_⟩,k5⟩,k1.congr (λb=>(G b).symm) (by rw[hnx];exact Fd _),by rw[hoK,<-ho0];exact k7,λc pl hc=>k8 c pl hc⟩;rw[hoK];exact k6 t x u (by rw[htg];exact hx) (by rw[<-Array.getElem?_toList];exact hu)
  .intro i o ho hL;simp[Array.getD]at hL
  .have:(λi=>(Array.replicate ops.size false).getD i false)=λ_=>false:=by funext i;simp[Array.getD]
   rw[this,Dz];exact Fd _
  .have:(λi=>(Array.replicate ops.size false).getD i false)=λ_=>false:=by funext i;simp[Array.getD]
   rw[this];refine⟨σ,H0,hW0.same rfl rfl rfl rfl,λc=>by rw[hget,B],by rw[Em,B],by have:=Z.1.1;simpa using this.symm,Z.2,λt x u hx hu=>?_,fR.same σ _ rfl rfl rfl rfl,λc pl hc=>.inl hc,λi hi _=>?_⟩
   .rw[pz,B]at hx;have:=Z.1.2 t x u hx (by rw[Xh];exact hu);rw[<-ho0]at this;have e:fR w σ (bB σ H0) {w with drawn:=w.drawn+1} σ (bB σ H0):=fR.same σ _ rfl rfl rfl rfl;exact this.mono e
   .cases hg:σ (H.next+i)with
    |none=>rfl
    |some pl=>have:=hW.named _ pl hg;omega
 .cases h
def lU(P:Program)(n:Nat)(c:Code)(τ:List AV)(H:af)(e:Ex)(τ':List AV)(H':af):Prop:=
 H.next<=H'.next/\∀(w:World) (σ:bR) (a:Act),bQ w σ H->c6 w σ (bB σ H) τ a->∀Q:Exit->Act->World->Prop,(∀a' w',r7 w σ H τ' H' a' w'->Q (Ga e) a' w')->Code.rounds P c Q n a w
theorem Gl(fit:Fit P F)(hgood:∀(g:Nat) (fn:Func) (c:Code),P.funcs[g]? =some fn->fn.body=some c->lg c)(f:Nat):(∀(c:Code) (O:List AV) (H:af) (e:Ex) (B:List AV) (H':af),lg c->iI P F f c O H=some (e,B,H')->du P c O H e B H')/\
  (∀(c:Code) (O:List AV) (H:af) (e:Ex) (B:List AV) (H':af),lg c->iI P F f (.loop c) O H=some (e,B,H')->lU P f c O H e B H'):=by
 induction f with
 |zero=>exact⟨λc O H e B H' _ h=>(by cases h),λc O H e B H' _ h=>(by cases h)⟩
 |succ f ih0=>
  obtain⟨ih,ihl⟩:=ih0;have hs:=um (P:=P) hgood ih;have hch:∀g args H v H',Bd H->nD P (iI P F f) g args H=some (v,H')->zr H H':=λg args H v H' hb hc=>zW (Ms f) hb hc
  have hloop:∀(c:Code) (O:List AV) (H:af) (e:Ex) (B:List AV) (H':af),lg c->iI P F (f+1) (.loop c) O H=some (e,B,H')->lU P (f+1) c O H e B H':=by
   intro c1 O H e B H' dr h;simp only[iI]at h;split at h
   .rename_i Z H1 h1;obtain⟨S,Y⟩:=ih c1 O H .normal Z H1 dr h1;obtain⟨n2,k2⟩:=ihl c1 Z H1 e B H' dr h;refine⟨W5 S n2,λw M a G j Q E=>?_⟩;rw[rounds_succ];refine Y w M a G j _ λa' w' D=>?_
    obtain⟨σ1,t1,r1,e1,m1⟩:=D;exact k2 w' σ1 a' r1 t1 Q λa2 w2 haf2=>E a2 w2 (haf2.trans e1 m1 S)
   .rename_i hne;obtain⟨S,Y⟩:=ih c1 O H e B H' dr h;refine⟨S,λw M a G j Q E=>?_⟩;rw[rounds_succ];refine Y w M a G j _ λa' w' D=>?_
    cases e with
    |normal=>exact absurd h (hne _ _)
    |exit id=>exact E _ _ D
    |ret=>exact E _ _ D
  refine⟨?_,hloop⟩;intro c O H e B H' dr h;cases c with
  |skip=>cases h;exact⟨Fd _,λw M a G j Q E=>wp_skip (E _ _ (.refl G j))⟩
  |label l=>cases h;exact⟨Fd _,λw M a G j Q E=>wp_label (E _ _ (.refl G j))⟩
  |exit id=>cases h;exact⟨Fd _,λw M a G j Q E=>wp_exit (E _ _ (.refl G j))⟩
  |ret=>cases h;exact⟨Fd _,λw M a G j Q E=>wp_ret (E _ _ (.refl G j))⟩
  |region id ops draw=>
   simp only[iI]at h;split at h
   .rename_i Z H1 hr;cases h;cases draw with
    |false=>exact iq fit hs hr
    |true=>obtain⟨h1,h2⟩:=z7 fit hs hch (dr rfl).1 (dr rfl).2 hr;exact⟨h1,λw M a G j Q E=>h2 id w M a G j Q E⟩
   .cases h
  |seq x y=>
   simp only[iI]at h;split at h
   .rename_i Z H1 h1;obtain⟨S,Y⟩:=ih x O H .normal Z H1 dr.1 h1;obtain⟨n2,k2⟩:=ih y Z H1 e B H' dr.2 h;refine⟨W5 S n2,λw M a G j Q E=>wp_seq (Y w M a G j _ λa' w' D=>?_)⟩;obtain⟨σ1,t1,r1,e1,m1⟩:=D;exact k2 w' σ1 a' r1 t1 Q λa2 w2 haf2=>E a2 w2 (haf2.trans e1 m1 S)
   .rename_i hne;obtain⟨S,Y⟩:=ih x O H e B H' dr.1 h;refine⟨S,λw M a G j Q E=>wp_seq (Y w M a G j _ λa' w' D=>?_)⟩;cases e with
    |normal=>exact absurd h (hne _ _)
    |exit id=>exact E _ _ D
    |ret=>exact E _ _ D
  |cond x c1 c2=>
   simp only[iI]at h;split at h
   .rename_i hb;obtain⟨S,Y⟩:=ih c1 O H e B H' dr.1 h;refine⟨S,λw M a G j Q E=>wp_cond_true ?_ (Y w M a G j Q E)⟩;have:=j.eval G.glob x;rw[hb]at this;generalize a.eval x=u at this;cases this;rfl
   .rename_i hb;obtain⟨S,Y⟩:=ih c2 O H e B H' dr.2 h;refine⟨S,λw M a G j Q E=>wp_cond_false ?_ (Y w M a G j Q E)⟩;have:=j.eval G.glob x;rw[hb]at this;generalize a.eval x=u at this;cases this;rfl
   .cases h
  |block id c1=>
   simp only[iI]at h;split at h
   .rename_i id' Z H1 h1;obtain⟨S,Y⟩:=ih c1 O H _ Z H1 dr h1;split at h
    .rename_i hid;cases h;exact⟨S,λw M a G j Q E=>wp_block (Y w M a G j _ λa' w' D=>by simp only[Ga,Exit.inBlock,hid,if_true];exact E _ _ D)⟩
    .rename_i hid;cases h;exact⟨S,λw M a G j Q E=>wp_block (Y w M a G j _ λa' w' D=>by simp only[Ga,Exit.inBlock,hid,if_false];exact E _ _ D)⟩
   .rename_i hne;obtain⟨S,Y⟩:=ih c1 O H e B H' dr h;refine⟨S,λw M a G j Q E=>wp_block (Y w M a G j _ λa' w' D=>?_)⟩;cases e with
    |normal=>exact E _ _ D
    |exit id=>exact absurd h (hne _ _ _)
    |ret=>exact E _ _ D
  |loop c1=>obtain⟨S,Y⟩:=hloop c1 O H e B H' dr h;exact⟨S,λw M a G j Q E=>wp_loop_rounds (f+1) (Y w M a G j Q E)⟩
  |_=>simp[iI]at h
theorem IC(fit:Fit P F)(u:∀(g:Nat) (D:Func) (c:Code),P.funcs[g]? =some D->D.body=some c->lg c)(f:Nat)(c:Code)(B:List AV)(H:af)(e:Ex)(j:List AV)(H':af)(dr:lg c)(h:iI P F f c B H=some (e,j,H')):du P c B H e j H':=
 (Gl fit u f).1 c B H e j H' dr h
end
end
section
open Go.RowKit
def JX(ops:Array Oper):Bool:=
 let M:=cz ops.toList []
 let N:=ops.toList.map λo=>(o.dst,jz ops o)
 (List.range ops.size).all λi=>(List.range i).all λj=>
  (M.getD i 0).testBit j ||
  (match N[i]?,N[j]? with
   |some (di,ni),some (dj,nj)=>(match dj with|some t=>!ni.contains t|none=>true)&&(match di with|some t=>!nj.contains t|none=>true)
   |_,_=>true)
def En(ops:Array Oper):Bool:=(List.range ops.size).all λi=>match ops[i]? with
 |some o=>o.after.toList.all λe=>!Region.binds .any e||decide (e.on<i)
 |none=>true
def j7:Code->Bool
 |.region _ ops draw=>!draw||(JX ops&&En ops)
 |.seq a b=>j7 a&&j7 b
 |.cond _ a b=>j7 a&&j7 b
 |.block _ b=>j7 b
 |.loop b=>j7 b
 |_=>true
def Gm{ops:Array Oper}(h:JX ops=true):nJ ops:=by
 intro i j O M G B E;have Y:i<ops.size:=(X7.1 B).1;unfold JX at h;simp only[W2,XR]at h;have u:=h i Y j G;have ei:(ops.toList.map λo=>(o.dst,jz ops o))[i]? =some (O.dst,jz ops O):=by rw[W6,Xh,B];rfl
 have Z:(ops.toList.map λo=>(o.dst,jz ops o))[j]? =some (M.dst,jz ops M):=by rw[W6,Xh,E];rfl
 rw[ei,Z]at u;simp only[Bool.or_eq_true,WZ]at u;rcases u with u|⟨u,S⟩
 .exact .inl u
 .right;refine⟨λt D=>?_,λt D=>?_⟩
  .rw[D]at u;simpa using u
  .rw[D]at S;simpa using S
def DB{ops:Array Oper}(h:En ops=true):uu ops:=by intro i o u e D E;have B:i<ops.size:=(X7.1 u).1;unfold En at h;simp only[W2,XR]at h;have j:=h i B;rw[u]at j;simp only[W2]at j;have:=j e D;rw[E]at this;simpa using this
def iS:∀(c:Code),j7 c=true->lg c
 | .region _ ops draw,h=>λj=>by subst j;simp only[j7,Yx,Bool.false_or,WZ]at h;exact⟨Gm h.1,DB h.2⟩
 |.seq a b,h=>by simp only[j7,WZ]at h;exact⟨iS a h.1,iS b h.2⟩
 |.cond _ a b,h=>by simp only[j7,WZ]at h;exact⟨iS a h.1,iS b h.2⟩
 |.block _ b,h=>iS b h
 |.loop b,h=>iS b h
 |.skip,_=>trivial
 |.rangeFunc ..,_=>trivial
 |.exit _,_=>trivial
 |.scope _,_=>trivial
 |.label _,_=>trivial
 |.goto _,_=>trivial
 |.ret,_=>trivial
 |.refuse _,_=>trivial
def Gn (fn : Func) : Bool := (fn.name != "runtime.NumGoroutine") && (match fn.body with | some c => j7 c | none => true)
def QT {P : Program} (h : P.funcs.toList.all Gn = true) : (∀ (g : Nat) (fn : Func), P.funcs[g]? = some fn → fn.name ≠ "runtime.NumGoroutine") ∧ ∀ (g : Nat) (fn : Func) (c : Code), P.funcs[g]? = some fn → fn.body = some c → lg c := by
 rw[W2]at h;have key:∀(g:Nat) (fn:Func),P.funcs[g]? =some fn->Gn fn=true:=λg fn hg=>h fn (by rw[Array.mem_toList_iff];exact Array.mem_of_getElem? hg)
 refine⟨λg fn hg=>?_,λg fn c hg hc=>?_⟩
 .have:=key g fn hg;simp only[Gn,WZ]at this;simpa using this.1
 .have:=key g fn hg;simp only[Gn,WZ,hc]at this;exact iS c this.2
end
section
open Go.RowKit
inductive cE:AV->Prop where
 |int (k:IntKind) (n:Int):cE (.int k n)
 |bool (b:Bool):cE (.bool b)
 |str (s:List UInt8):cE (.str s)
 |nilp:cE .nilp
 |nils:cE .nils
 |emp:cE .emp
 |nilf:cE .nilf
 |junk:cE .junk
 |lst (rows:List (List AV)) (h:∀(i:Nat) (r:List AV) (j:Nat) (a:AV),rows[i]? =some r->r[j]? =some a->cE a):cE (.lst rows)
 |agg (cs:List AV) (h:∀(i:Nat) (a:AV),cs[i]? =some a->cE a):cE (.agg cs)
 |tup (cs:List AV) (h:∀(i:Nat) (a:AV),cs[i]? =some a->cE a):cE (.tup cs)
 |fn (f:FuncId) (cs:List AV) (h:∀(i:Nat) (a:AV),cs[i]? =some a->cE a):cE (.fn f cs)
section
variable {P:Program} {F:TypeId->Option (List TypeId)} {w w':World} {σ σ':bR} {T T':Nat->Prop}
theorem s6.shrink{rows:List (List AV)}{b o sz:Nat}(h:s6 w T rows b o sz)(u:∀c,T' c->T c):s6 w T' rows b o sz:=⟨λj=>h.out (u b j),h.even,h.cell,h.pos,h.ne⟩
theorem cE.rep{a:AV}(hp:cE a):∀{v:Value},bN w σ T a v->(∀c,T' c->T c)->bN w σ' T' a v:=by
 induction hp with
 |int k n=>intro v h _;cases h;exact .int k n
 |bool b=>intro v h _;cases h;exact .bool b
 |str s=>intro v h _;cases h;exact .str _
 |nilp=>intro v h _;cases h;exact .nilp
 |nils=>intro v h _;cases h;exact .nils
 |emp=>intro v h _;cases h;exact .emp _
 |nilf=>intro v h _;cases h;exact .nilf
 |junk=>intro v h _;exact .junk v
 |lst rows h G=>
  intro v M D;cases M with
  |lst0 a Y hm=>exact .lst0 a Y hm
  |lst _ b o sz Y O hn hm S=>exact .lst rows b o sz Y (O.shrink D) hn hm λi r j a u B E h3=>G i r j a B E (S i r j a u B E h3) D
 |agg cs h G=>
  intro v M D;cases M with
  |agg _ Z O S=>exact .agg cs Z O λi a v B E=>G i a B (S i a v B E) D
 |tup cs h G=>
  intro v M D;cases M with
  |tup _ Z O S=>exact .tup cs Z O λi a v B E=>G i a B (S i a v B E) D
 |fn f cs h G=>
  intro v M D;cases M with
  |fn _ _ Z O S=>exact .fn f cs Z O λi a v B E=>G i a B (S i a v B E) D
theorem gp(b:Nat):af.empty.get b=none:=Tr.get_leaf b
def My(P:Program)(f:FuncId)(args:List AV)(v:AV):Prop:=
 ∀(w:World) (σ:bR) (vs:List Value),bQ w σ af.empty->fP w σ (bB σ af.empty) args vs->Calls P f vs.toArray w λe w'=>
  ∃v' σ' H',e=.returned v'/\bN w' σ' (bB σ' H') v v'/\fR w σ (bB σ af.empty) w' σ' (bB σ' H')
theorem Uc{f:FuncId}{args:List AV}{v:AV}(hv:cE v)(ha:∀(i:Nat) (a:AV),args[i]? =some a->cE a)(h:My P f args v)(H:af):s9 P f args H v H:=by
 intro w σ vs O S;have M:bB ⟨λ_=>none,bB σ H⟩ af.empty=bB σ H:=by
  funext c;apply propext;constructor
  .rintro(D|⟨b,x,E,D,_,_⟩)
   .exact D
   .rw[gp]at D;cases D
  .exact .inl
 have Z:∀c,bB σ H c->c<w.heap.size:=λc j=>by
  rcases j with j|⟨b,x,E,D,Y,rfl⟩
  .exact(O.apart c j).1
  .exact O.lt b E Y
 have hWe:bQ w ⟨λ_=>none,bB σ H⟩ af.empty:=⟨λb E B=>(by cases B),λb E B=>(by cases B),λb x B=>(by rw[gp]at B;cases B),
  λc j=>⟨Z c j,λ⟨b,x,E,D,_,_⟩=>(by rw[gp]at D;cases D)⟩,λb b' x x' E pl' B=>(by rw[gp]at B;cases B),by rw[M];exact O.glob⟩
 refine(h w _ vs hWe ⟨S.1,λi a u D Y=>(ha i a D).rep (S.2 i a u D Y) (λc j=>by rw[M]at j;exact j)⟩).mono ?_;rintro e w' ⟨v',σ',H1,rfl,k1,G⟩;have hE:fR w σ (bB σ H) w' σ (bB σ H):=
  ⟨G.os,G.tape,G.output,G.size,λc j hT=>G.keep c j (by rw[M];exact hT),G.shape,λ_ _ h=>h,rfl,λc j=>G.frame c (.inl j),λc j=>.inl j⟩
 refine⟨v',σ,rfl,hv.rep k1 (λc j=>.inl (by rw[G.eqfr];exact j)),⟨O.named,λb E B=>Xf (O.lt b E B) G.size,λb x B=>?_,λc j=>⟨Xf (O.apart c j).1 G.size,(O.apart c j).2⟩,O.inj,O.glob.mono hE⟩,hE,λc E j=>.inl j⟩;obtain⟨E,cs,e,D,Y⟩:=O.live b x B;exact⟨E,cs,e,D,Y.mono hE (G.frame _ (.inr ⟨b,x,E,B,D,rfl⟩))⟩
def Eo(P:Program)(c:Code)(Q:Ex->List AV->af->Prop)(τ:List AV)(H:af):Prop:=
 ∀(w:World) (σ:bR) (a:Act),bQ w σ H->c6 w σ (bB σ H) τ a->∀Q':Exit->Act->World->Prop,
  (∀e τ' H' a' w',Q e τ' H'->H.next<=H'.next->r7 w σ H τ' H' a' w'->Q' (Ga e) a' w')->c.wp P Q' a w
variable {c c1 c2:Code} {Q Q2:Ex->List AV->af->Prop} {τ:List AV} {H:af}
theorem Eo.of_ok{e:Ex}{j:List AV}{H':af}(h:du P c τ H e j H')(G:Q e j H'):Eo P c Q τ H:=
 λw σ a E u O D=>h.2 w σ a E u O λM w' B=>D e j H' M w' G h.1 B
def Ex.then(next:List AV->af->Prop)(Q:Ex->List AV->af->Prop):Ex->List AV->af->Prop
 |.normal,τ,H=>next τ H
 |e,τ,H=>Q e τ H
theorem Eo.cond{x:Operand}{t:Bool}(G:kV τ x=.bool t)(h:Eo P (if t then c1 else c2) Q τ H):Eo P (.cond x c1 c2) Q τ H:=by intro w σ a E j M D;have B:=j.eval E.glob x;rw[G]at B;refine wp_cond (t:=t) ?_ (h w σ a E j M D);generalize a.eval x=u at B;cases B;rfl
theorem Eo.exit{j:Nat}(h:Q (.exit j) τ H):Eo P (.exit j) Q τ H:=λw σ a D u E B=>wp_exit (B (.exit j) τ H _ _ h (Fd _) (.refl D u))
theorem Eo.ret(h:Q .ret τ H):Eo P .ret Q τ H:=λw σ a B j D u=>wp_ret (u .ret τ H _ _ h (Fd _) (.refl B j))
def Ex.inBlock(id:Nat)(Q:Ex->List AV->af->Prop):Ex->List AV->af->Prop
 |.exit id',τ,H=>if id'=id then Q .normal τ H else Q (.exit id') τ H
 |e,τ,H=>Q e τ H
theorem Eo.block{O:Nat}(h:Eo P c (Ex.inBlock O Q) τ H):Eo P (.block O c) Q τ H:=by
 intro w σ a Y G Q' u;refine wp_block (h w σ a Y G _ λe S H1 a1 Z B D j=>?_);cases e with
 |normal=>exact u _ _ _ _ _ B D j
 |ret=>exact u _ _ _ _ _ B D j
 |exit E=>
  simp only[Ex.inBlock]at B;simp only[Ga,Exit.inBlock];split
  .rename_i M;rw[if_pos M]at B;exact u .normal _ _ _ _ B D j
  .rename_i M;rw[if_neg M]at B;exact u (.exit E) _ _ _ _ B D j
theorem xO{u:Exit->Act->World->Prop}:∀{n m:Nat} {a:Act} {w:World},n<=m->Code.rounds P c u n a w->Code.rounds P c u m a w
 |0,m,a,w,_,h=>h.elim
 | n+1,m,a,w,hm,h=>by
  obtain⟨k,rfl⟩:∃k,m=k+1:=⟨m-1,YC⟩;rw[rounds_succ]at h ⊢;refine wp_mono h λe B w' j=>?_
  cases e with
  |normal=>exact xO YC j
  |_=>exact j
theorem Eo.loop(I:Nat->List AV->af->Prop)(hs:∀n τ H,I n τ H->Eo P c (Ex.then (λu H'=>∃m,m<n/\I m u H') Q) τ H)(n:Nat)(h0:I n τ H):Eo P (.loop c) Q τ H:=by
 have Z:∀n τ H,I n τ H->∀(w:World) (σ:bR) (a:Act),bQ w σ H->c6 w σ (bB σ H) τ a->∀E:Exit->Act->World->Prop,
   (∀e u H' a' w',Q e u H'->H.next<=H'.next->r7 w σ H u H' a' w'->E (Ga e) a' w')->Code.rounds P c E (n+1) a w:=by
  intro n
  induction n using Nat.strongRecOn with
  |_ n ih=>
   intro τ H hI w σ a hW B E j;rw[rounds_succ];refine hs n τ H hI w σ a hW B _ λe S H1 a1 w1 hq M D=>?_
   cases e with
   |normal=>obtain⟨m,hm,hI1⟩:=hq;obtain⟨Y,t1,r1,e1,m1⟩:=D;exact xO YC (ih m hm S H1 hI1 w1 Y a1 r1 t1 E λe2 O H2 a2 w2 q2 n2 G=>j e2 O H2 a2 w2 q2 (W5 M n2) (G.trans e1 m1 M))
   |exit id=>exact j _ _ _ _ _ hq M D
   |ret=>exact j _ _ _ _ _ hq M D
 intro w σ a hW B E j;exact wp_loop_rounds (n+1) (Z n τ H h0 w σ a hW B E j)
end
def ID:FuncId->List AV->af->Option (AV×af):=λ_ _ _=>none
theorem uv(P:Program):gz P ID:=⟨λ_ _ _ _ _ h=>(by cases h),λ_ _ _ _ _ h=>(by cases h),λ_ _ _ _ _ h=>(by cases h)⟩
theorem Eo.reg{P:Program}{F:TypeId->Option (List TypeId)}{call:FuncId->List AV->af->Option (AV×af)}(fit:Fit P F)(B:gz P call){ops:Array Oper}{u:Nat}{Q:Ex->List AV->af->Prop}{τ:List AV}{H:af}{j:List AV}{H':af}(h:eM P F call ops false τ H=some (j,H'))(D:Q .normal j H'):Eo P (.region u ops false) Q τ H:=
 .of_ok (iq fit B h) D
theorem Eo.ops{P:Program}{F:TypeId->Option (List TypeId)}{call:FuncId->List AV->af->Option (AV×af)}(fit:Fit P F)(B:gz P call){ops:Array Oper}{u:Nat}{Q:Ex->List AV->af->Prop}{τ:List AV}{H:af}{j:List AV}{H':af}(h:nC P F call ops H.next (List.range ops.size) τ {H with next:=H.next+ops.size}=some (j,H'))(D:Q .normal j H'):Eo P (.region u ops false) Q τ H:=
 .of_ok (iq fit B (by simp only[eM,W7,if_false];exact h)) D
end
end Go.Proofs.YtfcfhjadaknphaaGreatDoor.Am
section
namespace Go.Proofs.YtfcfhjadaknphaaGreatDoor
open Go.ChangeShapes Go.WideShapes Go.ChangeAt Go.RowKit
structure Elem(P:Program)(t e:TypeId)(z:Value)(size bytes:Nat):Prop where
 ht:P.underlying t=some (.slice e)
 hi:∃i,P.info? e=some i/\i.zero=some z/\i.size=size/\i.bytes=bytes
 hz:z.cells.size=size
 hs:0<size
theorem elem_mk{P:Program}{t e:TypeId}{z:Value}{size bytes:Nat}(ht:P.underlying t=some (.slice e))(B:(P.info? e).map (λi=>(i.zero,i.size,i.bytes))=some (some z,size,bytes))
  (j:z.cells.size=size) (u:0<size):Elem P t e z size bytes:=
 ⟨ht,by obtain⟨i,M,G,E,D⟩:=info_parts B;exact⟨i,M,G,E,D⟩,j,u⟩
def Flat(w:World)(size:Nat)(A:Option Addr)(n:Nat)(xs:List Value):Prop:=
 xs.length=n*size/\(0<n->∃b o,A=some ⟨b,o,none⟩/\∀j u,xs[j]? =some u->w.cell? ⟨b,o+j,none⟩=some u)
theorem run_append_nil_src{P:Program}(w:World)(base:Nat)(t ty e:TypeId)(i:TypeInfo)(size:Nat)(ht:P.underlying t=some (.slice e))(B:P.info? e=some i)
  (v:Value) (n:Nat) (xs:List Value) (j:w.ownsRow base e size v n xs) (c:Nat):(Builtin.append_ #[t,t] ty #[v,.slice none 0 c]).run P w=.ok v w:=by
 rcases j.2 with⟨rfl,rfl⟩|⟨g,E,D,rfl,_,_,u,_⟩
 .simp[Builtin.append_,run_underlying ht,sizeOf,typeInfo,B,Builtin.lenOf,Builtin.firstCells]
 .simp[Builtin.append_,run_underlying ht,sizeOf,typeInfo,B,Builtin.lenOf,Builtin.firstCells,u,storeCells]
section
variable {P:Program} {w:World} {t e:TypeId} {z:Value} {size bytes:Nat}
theorem run_app(E:Elem P t e z size bytes)(ty:TypeId)(base:Nat)(v:Value)(n:Nat)(xs:List Value)(D:w.ownsRow base e size v n xs)
  (A:Option Addr) (m c:Nat) (B:List Value) (Z:Flat w size A m B) (h1:∀u∈B,u.oneCell'=true)
  (h63:n+m<=maxLen) (M:(n+m)*bytes<=140737488355328) (O:base<=w.heap.size) :
  ∃v' w',(Builtin.append_ #[t,t] ty #[v,.slice A m c]).run P w=.ok v' w'/\w'.ownsRow base e size v' (n+m) (xs++B)/\w.grownBy w' v.ownBlock:=by
 obtain⟨i,hi,hz0,hsz,hby⟩:=E.hi;rcases A with _|ad
 .have hm:m=0:=by
   rcases XH m with S|S
   .exact S
   .obtain⟨b,o,h,_⟩:=Z.2 S;cases h
  subst hm;have hn:B=[]:=Xy (by simpa using Z.1);subst hn;exact⟨v,w,run_append_nil_src w base t ty e i size E.ht hi v n xs D c,by simpa using D,World.grownBy.refl w _⟩
 .have G:∀j u,B[j]? =some u->w.cell? (ad.add j)=some u:=by
   intro j u hu;rcases XH m with S|S
   .subst S;have hn:B=[]:=Xy (by simpa using Z.1);subst hn;simp at hu
   .obtain⟨b,o,h,hc⟩:=Z.2 S;injection h with h;subst h;rw[Addr.add_lit];exact hc j u hu
  obtain⟨v',w',Y,h2,h3,_⟩:=run_append_own (P:=P) w base t ty e i z size bytes E.ht hi hz0 hsz hby E.hz E.hs v n xs D ad m c B Z.1 G h1 h63 M O;exact⟨v',w',Y,h2,h3⟩
theorem wp_app{o:Oper}{a:Act}{K:Act->World->Prop}{Q:Exit->Act->World->Prop}(s x:Operand)
  (Z:o.op=.call {callee:=.builtin .append,args:=#[s,x],argTypes:=#[t,t]}) (E:Elem P t e z size bytes) (base:Nat)
  (v:Value) (n:Nat) (xs:List Value) (Y:a.eval s=v) (M:w.ownsRow base e size v n xs)
  (A:Option Addr) (m c:Nat) (j:List Value) (S:a.eval x=.slice A m c) (hf:Flat w size A m j) (h1:∀u∈j,u.oneCell'=true)
  (O:n+m<=maxLen) (B:(n+m)*bytes<=140737488355328) (D:base<=w.heap.size)
  (h:∀v' w',w'.ownsRow base e size v' (n+m) (xs++j)->w.grownBy w' v.ownBlock->K (a.put o.dst v') w'):o.wp P a w K Q:=by
 obtain⟨v',w',G,h2,h3⟩:=run_app E o.type base v n xs M A m c j hf h1 O B D;unfold Oper.wp execOp;simp only[Z,resolve,invoke,builtin,Xo,Xz,W4,List.map_toArray,WS,Xp,Y,S,G];exact h v' w' h2 h3
theorem wpList_app{ops:Array Oper}{D:List Oper}{o:Oper}{a:Act}{Q:Exit->Act->World->Prop}(O:o.guard=none)(s x:Operand)
  (ho:o.op=.call {callee:=.builtin .append,args:=#[s,x],argTypes:=#[t,t]}) (E:Elem P t e z size bytes) (base:Nat)
  (v:Value) (n:Nat) (xs:List Value) (Z:a.eval s=v) (M:w.ownsRow base e size v n xs)
  (A:Option Addr) (m c:Nat) (j:List Value) (Y:a.eval x=.slice A m c) (hf:Flat w size A m j) (h1:∀u∈j,u.oneCell'=true)
  (S:n+m<=maxLen) (B:(n+m)*bytes<=140737488355328) (G:base<=w.heap.size)
  (h:∀v' w',w'.ownsRow base e size v' (n+m) (xs++j)->w.grownBy w' v.ownBlock->wpList P ops Q D (a.put o.dst v') w'):wpList P ops Q (o::D) a w:=
 wpList_plain O λ_ hK=>wp_app s x ho E base v n xs Z M A m c j Y hf h1 S B G λv' w' h2 h3=>hK _ _ (h v' w' h2 h3)
end
theorem own_from{w:World}{base:Nat}{e:TypeId}{size n:Nat}{v:Value}{xs:List Value}(h:w.ownsRow base e size v n xs):∀k,v.ownBlock=some k->base<=k:=λk j=>(h.lt k j).1
theorem Flat.kept{w w':World}{size n:Nat}{A:Option Addr}{xs:List Value}(h:Flat w size A n xs)(M:Below w.heap.size w w'):Flat w' size A n xs:=by refine⟨h.1,λE=>?_⟩;obtain⟨b,o,O,G⟩:=h.2 E;exact⟨b,o,O,λj u D=>cell_kept (λB=>M.block b B) (G j u D)⟩
theorem Sl.one{α:Type}{size:Nat}{R:Rel α}{w:World}{F:Nat->Prop}{b:Nat}{e:TypeId}{cs:List Value}{x:α}(G:w.heap.size=b)(E:cs.length=size)(O:F b)
  (M:R (w.alloc (.cells cs.toArray e)) F x cs):Sl size R (w.alloc (.cells cs.toArray e)) F (.slice (some ⟨b,0,none⟩) 1 1) [x]:=by
 subst G;refine⟨_,1,rfl,YF,by simp[maxLen],λ_=>⟨_,0,rfl,O,λi y B=>?_⟩⟩
 match i with
 |0=>simp at B;subst B;refine⟨cs,E,M,λj u D=>?_⟩;rw[cell_of_row _ _ _ cs.toArray e (0,0) (heap_alloc_new w _)];simpa using D
 |i+1=>simp at B
end Go.Proofs.YtfcfhjadaknphaaGreatDoor
end
section
namespace Go.Proofs.YtfcfhjadaknphaaGreatDoor
open Go.ChangeShapes Go.WideShapes Go.ChangeAt Go.RowKit
abbrev Ints:=Sl (α:=Int) 1 (rInt .i64)
def Fit(l:List Int):Prop:=∀x∈l,(Lit.int .i64 x).wf=true
def Ints.fit{A:Option Addr}{n c:Nat}{l:List Int}{w:World}{F:Nat->Prop}(h:Ints w F (.slice A n c) l):Fit l:=by intro x j;obtain⟨i,u,rfl⟩:=XJ j;obtain⟨b,o,M,G,E,_,B,D⟩:=h.at_ u;exact B.2
end Go.Proofs.YtfcfhjadaknphaaGreatDoor
end
section
namespace Go.Proofs.YtfcfhjadaknphaaGreatDoor
open Go.ChangeShapes Go.WideShapes Go.ChangeAt Go.RowKit
structure WD where
 nc:Nat
 rw:List Bool
 mx:List Int
 nf:Nat
 nt:Nat
structure LockD where
 owner:Int
 readers:List Int
structure ThrD where
 status:Int
 cond:Int
 atomic:Bool
structure SyncD where
 locks:List LockD
 tx:Int
 done:List Bool
 threads:List ThrD
def rLk:Rel Bool:=λ_ _ b cs=>∃s,cs=[.string s,.bool b]
def rCd:Rel Int:=λ_ _ m cs=>∃s,cs=[.string s,.int .i64 m]/\(Lit.int .i64 m).wf=true
def rLock:Rel LockD:=λw F l cs=>∃A n c,cs=[.int .i64 l.owner,.slice A n c]/\(Lit.int .i64 l.owner).wf=true/\Ints w F (.slice A n c) l.readers
def rThr:Rel ThrD:=λ_ _ t cs=>cs=[.int .i64 t.status,.int .i64 t.cond,.bool t.atomic]/\(Lit.int .i64 t.status).wf=true/\(Lit.int .i64 t.cond).wf=true
def rLk_stays:rLk.Stays:=λ_ _ _ _ _ _ _ _ h=>h
def rCd_stays:rCd.Stays:=λ_ _ _ _ _ _ _ _ h=>h
def rThr_stays:rThr.Stays:=λ_ _ _ _ _ _ _ _ h=>h
def rLock_stays:rLock.Stays:=λw G F O l M j u ⟨A,n,c,E,D,B⟩=>⟨A,n,c,E,D,B.stays YG (rInt_stays _) j u⟩
structure WV where
 cA:Option Addr
 nc:Nat
 cc:Nat
 lA:Option Addr
 nl:Nat
 lc:Nat
 dA:Option Addr
 nd:Nat
 dc:Nat
 fA:Option Addr
 nf:Nat
 fc:Nat
 tA:Option Addr
 nt:Nat
 tc:Nat
 sA:Option Addr
 ns:Nat
 sc:Nat
structure WOk(w:World)(F:Nat->Prop)(v:WV)(d:WD):Prop where
 nc:v.nc=d.nc/\v.nc<=maxLen
 nf:v.nf=d.nf/\v.nf<=maxLen
 nt:v.nt=d.nt/\v.nt<=maxLen
 locks:Sl 2 rLk w F (.slice v.lA v.nl v.lc) d.rw
 conds:Sl 2 rCd w F (.slice v.dA v.nd v.dc) d.mx
structure SV where
 kA:Option Addr
 nk:Nat
 kc:Nat
 tx:Int
 eA:Option Addr
 ne:Nat
 ec:Nat
 hA:Option Addr
 nh:Nat
 hc:Nat
structure SOk(w:World)(F:Nat->Prop)(v:SV)(d:SyncD):Prop where
 locks:Sl 2 rLock w F (.slice v.kA v.nk v.kc) d.locks
 done:Sl 1 rBool w F (.slice v.eA v.ne v.ec) d.done
 threads:Sl 3 rThr w F (.slice v.hA v.nh v.hc) d.threads
 tx:v.tx=d.tx
 wf:(Lit.int .i64 d.tx).wf=true
abbrev WV.val(v:WV):Value:=.agg #[.slice v.cA v.nc v.cc,.slice v.lA v.nl v.lc,.slice v.dA v.nd v.dc,.slice v.fA v.nf v.fc,.slice v.tA v.nt v.tc,.slice v.sA v.ns v.sc]
abbrev SV.val(v:SV):Value:=.agg #[.slice v.kA v.nk v.kc,.int .i64 v.tx,.slice v.eA v.ne v.ec,.slice v.hA v.nh v.hc]
def WOk.stays{w w':World}{F B:Nat->Prop}{v:WV}{d:WD}(h:WOk w F v d)(j:∀b,F b->b<w.heap.size->w'.heap[b]? =w.heap[b]?)(u:∀b,F b->b<w.heap.size->B b):WOk w' B v d:=
 ⟨h.nc,h.nf,h.nt,h.locks.stays YG rLk_stays j u,h.conds.stays YG rCd_stays j u⟩
def SOk.stays{w w':World}{F B:Nat->Prop}{v:SV}{d:SyncD}(h:SOk w F v d)(j:∀b,F b->b<w.heap.size->w'.heap[b]? =w.heap[b]?)(u:∀b,F b->b<w.heap.size->B b):SOk w' B v d:=
 ⟨h.locks.stays YG rLock_stays j u,h.done.stays YG rBool_stays j u,h.threads.stays YG rThr_stays j u,h.tx,h.wf⟩
def inB(i:Int)(n:Nat):Bool:=decide (0<=i)&&decide (i<n)
def fitsS(d:WD)(s:SyncD):Bool:=s.locks.length==d.rw.length&&(s.done.length==d.nf)&&(s.threads.length==d.nt)&&d.mx.all (λm=>inB m d.rw.length)
def rwAt(d:WD)(i:Int):Bool:=d.rw.getD i.toNat false
def allowedS(d:WD)(kind obj:Int):Bool:=
 if kind=1\/kind=2\/kind=5\/kind=12\/kind=13\/kind=14\/kind=15 then obj==-1
 else if kind=3\/kind=4 then inB obj d.nc
 else if kind=6\/kind=7 then inB obj d.rw.length&&!rwAt d obj
 else if kind=8\/kind=9\/kind=10\/kind=11 then inB obj d.rw.length&&rwAt d obj
 else if kind=16\/kind=17\/kind=18\/kind=19 then inB obj d.mx.length
 else if kind=20\/kind=21 then inB obj d.nt
 else if kind=22\/kind=23 then inB obj d.nf
 else false
end Go.Proofs.YtfcfhjadaknphaaGreatDoor
end
