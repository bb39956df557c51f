/- A part of the proof; the statement is proved in the last part. -/
import Derived.Test.YtbofdbhnbodbiaaGreatDoorQvo
set_option linter.all false
set_option maxRecDepth 100000
set_option maxHeartbeats 20000000
namespace Go.Proofs.YtbofdbhnbodbiaaGreatDoor.Am
def Ka:Pu 1=.pptr [my.map .str] 0 0:=rfl
def Om{i:Nat}(h:i<my.length):W0.rowLd false 1 (my.map .str) ((i:Int).toNat*1)=some (.str my[i]):=by unfold W0.rowLd;simp[h]
def Nl(s:bu):aq Tryz.prog 174 [.str s] (.bool (Cw s)):=by
 refine qZ _ _ _ ?_;refine vw ?_;rw[Ka];have N:Cw s=my.any λx=>decide (s=x):=by simp only[Cw,eq_comm]
 repeat' (first|refine st ?_|refine sb λu j=>?_|refine s2 (λh=>?_) λh=>?_|fail)
 refine dy my (λx=>decide (s=x)) (λi=>[.str s,.agg (my.map .str),.Uf i]) Ue rfl (λi D G Z B O Y=>?_) (λi D G B O=>?_)
 all_goals refine vw ?_
 .have S:=Om D;have E:decide ((i:Int)<22)=true:=G;have M:(i:Int).toNat<22:=D
  repeat' (first|refine st ?_|refine P8 (Int.natCast_nonneg _) M S ?_|refine sb λu j=>?_|refine s2 (λh=>?_) λh=>?_|fail)
  .exact⟨by rw[N,GW D h],rfl⟩
  .exact Y h
 .have E:decide ((i:Int)<22)=false:=G
  repeat' (first|refine st ?_|refine sb λu j=>?_|refine s2 (λh=>?_) λh=>?_|fail)
  exact⟨by rw[N,JF B],rfl⟩
def QG{s:bu}{i:Nat}(h:i<s.length):(⟨s.toArray⟩:ByteArray).get! i=s[i]:=by show s.toArray[i]! =s[i];simp[h]
def QH{s:bu}{i:Nat}(h:i<s.length):∃c wd,Utf8.decode ⟨s.toArray⟩ i=(c,wd)/\((c=s[i].toNat/\wd=1/\c<128)\/(128<=c/\128<=s[i].toNat)):=by
 refine⟨(Utf8.decode ⟨s.toArray⟩ i).1,(Utf8.decode ⟨s.toArray⟩ i).2,rfl,?_⟩;unfold Utf8.decode;simp only[T2,QG h];by_cases j:s[i].toNat<128
 .rw[if_pos j];exact .inl ⟨rfl,rfl,j⟩
 .rw[if_neg j];refine .inr ⟨?_,Ua⟩;have u:128<=Utf8.runeError:=by decide
  repeat' split
  all_goals first
   |exact u
   |(simp only[ge_iff_le,SN,decide_eq_true_eq]at *;omega)
def G8(s:bu):aq Tryz.prog 146 [.str s] (.bool (dW s)):=by
 refine ac.fz (wD _ _ _ ?_);refine vw ?_;generalize hQ:(λ(v:AV) (L:SH)=>∃v2 L2,az [v] L [v2] L2/\v2=AV.bool (dW s)/\L2=[])=Q;have N:∀b L,dW s=b->Q (.bool b) L:=λb L h=>by subst hQ;exact⟨_,[],az.all (.refl _),by rw[h],rfl⟩
 clear hQ;by_cases h0:1<=s.length/\s.length<=12/\Cw s=false
 .obtain⟨h1,h12,O⟩:=h0;have E:=Nl s;rw[O]at E;have d1:decide ((s.length:Int)<1)=false:=decide_eq_false Ua;have d2:decide ((s.length:Int) > 12)=false:=decide_eq_false Ua;have D:∀i (h:i<s.length),¬(gM s[i].toNat=true/\(i=0->gj s[i].toNat=true))->dW s=false:=λi h Y=>by
   cases G:dW s with
   |false=>rfl
   |true=>exfalso;unfold dW at G;simp only[SN,SM]at G;refine Y ⟨G.2 _ (Sy h),λe=>?_⟩;subst e;have:=G.1.1.2;simpa[List.getD,h]using this
  repeat' (first|refine st ?_|(refine pf 174 ?_;refine pm (E) ?_)|refine Of (λB u=>?_)|refine sb λB u=>?_|refine s2 (λh=>?_) λh=>?_|fail)
  refine uq (λi:Nat=>([.it B],[(B,⟨0,[[.str s,.Uf (i:Int)]]⟩)])) (λi=>s.length-i) (λi=>i<=s.length/\∀j (h:j<s.length),j<i->gM s[j].toNat=true/\(j=0->gj s[j].toNat=true)) 0 ⟨SL _,λj h h2=>absurd h2 (T0 _)⟩ rfl rfl (λi S nx G=>?_);obtain⟨hi,S⟩:=S;refine vw ?_
  try dsimp only
  rcases Fn i s.length with h|h
  .obtain⟨c,wd,hd,hc⟩:=QH h;replace D:=D i h;have M:gM s[i].toNat=true/\(i=0->gj s[i].toNat=true)->nx [.it B] [(B,⟨0,[[.str s,.Uf ((i+1:Nat):Int)]]⟩)]:=λY=>G (i+1) ⟨h,λj Z hji=>by
    rcases Fn j i with g|g
    .exact S j Z g
    .have e:j=i:=by omega
     subst e;exact Y⟩ Ua
   clear G S
   repeat' (first|refine st ?_|refine sb λB u=>?_|refine s2 (λh=>?_) λh=>?_|fail)
   refine QD (.head _) h (.here _) ?_;simp only[hd];clear hd;rcases hc with⟨rfl,rfl,hc⟩|⟨hc,Y⟩
   .generalize s[i].toNat=x at *
    repeat' (first|refine st ?_|refine sb λB u=>?_|refine s2 (λh=>?_) λh=>?_|fail)
    all_goals first
     |(refine M ?_;clear M D N;simp only[gM,gj,ux,T6,SN,decide_eq_true_eq,decide_eq_false_iff_not]at *;omega)
     |(refine N _ _ (D ?_);clear M D N;simp only[gM,gj,ux,T6,SN,decide_eq_true_eq,decide_eq_false_iff_not]at *;omega)
   .generalize s[i].toNat=x at *;have e1:decide ((c:Int)<=122)=false:=decide_eq_false Ua;have e2:decide ((c:Int)<=90)=false:=decide_eq_false Ua;have e3:decide ((c:Int)<=57)=false:=decide_eq_false Ua;have e4:decide ((c:Int)=95)=false:=decide_eq_false Ua
    repeat' (first|refine st ?_|refine sb λB u=>?_|refine s2 (λh=>?_) λh=>?_|fail)
    all_goals first
     |(refine N _ _ (D ?_);clear M D N;simp only[gM,gj,ux,T6,SN,decide_eq_true_eq,decide_eq_false_iff_not]at *;omega)
  .repeat' (first|refine st ?_|refine sb λB u=>?_|refine s2 (λh=>?_) λh=>?_|fail)
   refine H3 (.head _) Ua ?_
   repeat' (first|refine st ?_|refine sb λB u=>?_|refine s2 (λh=>?_) λh=>?_|fail)
   refine N _ _ ?_;unfold dW;have e1:(s.all λc=>gM c.toNat)=true:=SM.2 λx hx=>by obtain⟨j,Z,rfl⟩:=TG hx;exact(S j Z Ua).1
   have e2:gj ((s.getD 0 0).toNat:Nat)=true:=by have:=(S 0 Ua Ua).2 rfl;simpa[List.getD,show 0<s.length by omega]using this
   rw[e1,e2,O];simp;omega
 .have E:=Nl s;have hf:dW s=false:=by
   cases G:dW s with
   |false=>rfl
   |true=>exfalso;refine h0 ?_;unfold dW at G;simp only[SN,decide_eq_true_eq,Bool.not_eq_true']at G;exact⟨Ua,Ua,G.1.2⟩
  cases O:Cw s with
  |true=>
   rw[O]at E
   repeat' (first|refine st ?_|(refine pf 174 ?_;refine pm (E) ?_)|refine sb λB u=>?_|refine s2 (λh=>?_) λh=>?_|fail)
   all_goals exact N _ _ hf
  |false=>
   rw[O]at E
   repeat' (first|refine st ?_|(refine pf 174 ?_;refine pm (E) ?_)|refine sb λB u=>?_|refine s2 (λh=>?_) λh=>?_|fail)
   all_goals first
    |exact N _ _ hf
    |(exfalso;refine h0 ⟨?_,?_,O⟩<;>simp only[decide_eq_true_eq,decide_eq_false_iff_not]at * <;>omega)
section
def lY(A:List bu):Prop:=(∀s∈A,dW s=true)/\A.Nodup
def k9(l:List bu):List (List AV):=l.map λs=>[.str s,.bool true]
theorem FT(l:List bu):(k9 l).all rL=true:=by
 induction l with
 |nil=>rfl
 |cons s l j=>simp only[k9,Sx,List.all_cons]at *;rw[j];rfl
theorem o4{s:bu}:∀{l:List bu} {k:Nat},(s∉l->gv s (k9 l) k=none)/\(s∈l->∃j,gv s (k9 l) k=some (j,.bool true))
 |[],k=>⟨λ_=>rfl,λh=>by simp at h⟩
 | x::l,k=>by
  have u:=o4 (s:=s) (l:=l) (k:=k+1);have e:gv s (k9 (x::l)) k=if s==x then some (k,.bool true)else gv s (k9 l) (k+1):=rfl
  rw[e];by_cases h:s=x
  .subst h;exact⟨λh=>by simp at h,λ_=>⟨k,Ud⟩⟩
  .have:(s==x)=false:=by simpa using h
   rw[this];exact⟨λh2=>u.1 (by simp at h2;exact h2.2),λh2=>u.2 (by simpa[h]using h2)⟩
theorem Ma{s:bu}{l:List bu}(h:s∉l):W0.found (.bool false) false (gv s (k9 l) 0)=.bool false:=by rw[o4.1 h];rfl
theorem Kb{s:bu}{l:List bu}(h:s∈l):W0.found (.bool false) false (gv s (k9 l) 0)=.bool true:=by obtain⟨j,u⟩:=(o4 (k:=0)).2 h;rw[u];rfl
theorem Kd{s:bu}{l:List bu}(h:s∉l):W0.putR s (.bool true) (k9 l)=k9 (l++[s]):=by unfold W0.putR;rw[o4.1 h];simp[k9]
theorem Mb{o:Option Nat}{k:Nat}{K:AV->Prop}(h:K (.Uf (k:Int)))(j:o=none->k=0):W.len (aj o k) K:=by
 cases o with
 |none=>rw[j rfl]at h;exact B9 h
 |some b=>exact B5 h
theorem Ke{α:Type}{f:α->List AV}{l:List α}{n by_:Nat}{L:SH}{KL:AV->SH->Prop}(B:∀x,(f x).length=n)(h2:2*l.length*by_<=2^48)(E:2*l.length<=2^62)(h4:∀x,(f x).all AV.one=true)
  (h:l=[]->KL .nils L) (G:∀b,b∉L.names->KL (.sl b 0 l.length) ((b,⟨n,l.map f⟩)::L)):W.append n by_ .nils (.lst (l.map f)) L KL:=by
 have j:((l.map f).all λr=>r.all AV.one)=true:=by rw[SM];intro r u;obtain⟨x,_,rfl⟩:=Tl.1 u;exact h4 x
 refine⟨[],l.map f,rfl,oU B,by simpa using h2,by simpa using E,j,λe=>?_,λe b D=>?_⟩
 .exact h (by simpa using e)
 .have:=G b D;simpa using this
theorem QI{A:List bu}(hA:A.length<2^40){Q:R}(hq:∀b L,gx (lY A)=b->Q (.bool b) L){vs:List AV}{L:SH}{bm:Nat}(Z:az vs L [.mp bm,.lst (A.map au),.Uf A.length,.Uf 0] [(bm,⟨0,[]⟩)]):W.loop (mQ Q) vs L:=by
 refine oa (α:=Nat) (λi=>([.mp bm,.lst (A.map au),.Uf A.length,.Uf (i:Int)],[(bm,⟨0,k9 (A.take i)⟩)])) (λi=>A.length-i) (λi=>i<=A.length/\lY (A.take i)) 0 ⟨SL _,by simp[lY]⟩ Z ?_;rintro i ⟨hi,O⟩ nx hnx;refine vw ?_
 try dsimp only
 rcases Fn i A.length with h|h
 .have d1:decide ((i:Int)<(A.length:Int))=true:=aW h;have hw1:IntKind.i64.wrap ((i:Int)+1)=((i+1:Nat):Int):=ax h Ua;have hx:=ao (f:=au) h;have u:=G8 A[i];have ht:=Sw h;have G:¬lY (A.take (i+1))->∀L,Q (.bool false) L:=λj L=>hq _ _ (dq λhN=>j ⟨λs hs=>hN.1 s (List.mem_of_mem_take hs),hN.2.sublist (List.take_sublist _ _)⟩)
  have N:lY (A.take (i+1))->nx [.mp bm,.lst (A.map au),.Uf A.length,.Uf ((i+1:Nat):Int)] [(bm,⟨0,k9 (A.take (i+1))⟩)]:=λj=>hnx (i+1) ⟨h,j⟩ Ua _ _ (.refl _ _)
  rw[ht]at G N;clear hq hnx ht Z;generalize A[i]=s at *;generalize A.take i=l at *;have S:=FT l;cases D:dW s with
  |false=>
   rw[D]at u;have j:¬lY (l++[s]):=λj=>by have:=j.1 s Ud;rw[D]at this;cases this
   repeat' (first|refine st ?_|(refine pf 146 ?_;refine pm (u) ?_)|refine sb λE B=>?_|refine s2 (λh=>?_) λh=>?_|fail)
   all_goals exact G j _
  |true=>
   rw[D]at u;by_cases M:s∈l
   .have Y:=Kb M;have j:¬lY (l++[s]):=λj=>by have:=(TN.1 j.2).2.2 s M s Ud;exact this rfl
    repeat' (first|refine st ?_|(refine pf 146 ?_;refine pm (u) ?_)|refine J2 (.head _) S Y ?_|refine sb λE B=>?_|refine s2 (λh=>?_) λh=>?_|fail)
    all_goals exact G j _
   .have Y:=Ma M;have hp:=Kd M;have j:lY (l++[s]):=⟨λx hx=>by
     rcases SC.1 hx with h|h
     .exact O.1 x h
     .rw[Sz.1 h];exact D,TN.2 ⟨O.2,Ud,λa ha b j=>by rw[Sz.1 j];rintro rfl;exact M ha⟩⟩
    repeat' (first|refine st ?_|(refine pf 146 ?_;refine pm (u) ?_)|refine J2 (.head _) S Y ?_|refine QC (.here _) S rfl hp ?_|refine sb λE B=>?_|refine s2 (λh=>?_) λh=>?_|fail)
    all_goals exact N j
 .have d1:decide ((i:Int)<(A.length:Int))=false:=aX h;rw[SX h]at O
  repeat' (first|refine st ?_|refine sb λE B=>?_|refine s2 (λh=>?_) λh=>?_|fail)
  exact hq _ _ (eC O)
section
variable {w:aI} {Q:R} {ns:List bu} (hns:ns.length<=12) (h4:w.locks.length<=4) (h2:w.conds.length<=2) (hf2:w.futures.length<=2) (ht4:w.threads.length<=4) (hq:∀b L,gx (lY (dS w ns))=b->Q (.bool b) L)
include hns h4 h2 hf2 ht4 hq
theorem QJ{vs:List AV}{L:SH}(o:Option Nat)(G:o=none->ns++w.locks.map bC.name=[])(Y:az vs L [.pptr [w.enc] 0 0,aj o (ns++w.locks.map bC.name).length,.lst (w.conds.map bR.enc),.Uf w.conds.length,.Uf 0] (ab o 1 ((ns++w.locks.map bC.name).map au))):W.loop (mR Q) vs L:=by
 obtain⟨S,O⟩:∃S:Nat->List bu,S=λi=>ns++w.locks.map bC.name++(w.conds.take i).map bR.name:=⟨_,rfl⟩
 have N:S 0=ns++w.locks.map bC.name:=by subst O;simp
 have E:S w.conds.length++w.futures++w.threads=dS w ns:=by subst O;simp[dS]
 have D:∀i (h:i<w.conds.length),S (i+1)=S i++[w.conds[i].name]:=λi h=>by subst O;simp only[Sw h,LT,S3,Sx,S6]
 have M:∀i,(S i).length<=18:=λi=>by subst O;rw[SD,SD,Ty,Ty,ST];omega
 rw[<-N]at Y G;clear N O;refine oa (α:=Nat×Option Nat) (λa=>([.pptr [w.enc] 0 0,aj a.2 (S a.1).length,.lst (w.conds.map bR.enc),.Uf w.conds.length,.Uf (a.1:Int)],ab a.2 1 ((S a.1).map au))) (λa=>w.conds.length-a.1) (λa=>a.1<=w.conds.length/\(a.2=none->S a.1=[])) (0,o) ⟨Nat.zero_le _,G⟩ Y ?_;rintro⟨i,o⟩ ⟨hi,G⟩ nx hnx;refine vw ?_;dsimp only at *;have hA:=M i;rcases Nat.lt_or_ge i w.conds.length with h|h
 .have d1:decide ((i:Int)<(w.conds.length:Int))=true:=aW h;have hw1:IntKind.i64.wrap ((i:Int)+1)=((i+1:Nat):Int):=ax h Ua;have hx:=ao (f:=bR.enc) h;have hgo:∀j L',fV L' [(j,⟨1,(S i).map au++[[.str w.conds[i].name]]⟩)]->nx [.pptr [w.enc] 0 0,.sl j 0 ((S i).length+1),.lst (w.conds.map bR.enc),.Uf w.conds.length,.Uf ((i+1:Nat):Int)] L':=λj L' h3=>
   hnx (i+1,some j) ⟨h,nofun⟩ (by dsimp only;omega) _ _ (az.pickE h3 (by simp[aj,D i h]) (by simp[ab,au,D i h]))
  clear hnx D E M Y;generalize w.conds[i]=c at *;generalize S i=C at *;obtain⟨nm,mx⟩:=c;unfold bR.enc at hx;dsimp only at *
  repeat' (first|refine st ?_|refine bF mm rp Ud (λe=>by simp[G e]) Uc Ud (by simp;omega) (by simp;omega) Uc (λj u=>?_)|refine sb λj u=>?_|refine s2 (λh=>?_) λh=>?_|fail)
  exact hgo _ _ rp
 .have d1:decide ((i:Int)<(w.conds.length:Int))=false:=aX h;obtain rfl:i=w.conds.length:=by omega
  repeat' (first|refine st ?_|refine sb λj u=>?_|refine s2 (λh=>?_) λh=>?_|fail)
  refine nC rp (λ_=>rfl) Ud (λe=>by simp[G e]) Ua Ua (λ_=>rfl) (λo1 Z=>?_)
  repeat' (first|refine st ?_|refine sb λj u=>?_|refine s2 (λh=>?_) λh=>?_|fail)
  refine nC rp (λ_=>rfl) Ud (λe=>Z e) Ua Ua (λ_=>rfl) (λo2 B=>?_);refine L7 λbm hbm=>?_
  refine Mb ?_ (λe=>by have:=B e;simp only[List.append_eq_nil_iff,List.map_eq_nil_iff]at this;simp[this]);have e1:(S w.conds.length).map au++w.futures.map au++w.threads.map au=(dS w ns).map au:=by rw[<-E];simp
  have e2:(S w.conds.length).length+w.futures.length+w.threads.length=(dS w ns).length:=by rw[<-E];simp;omega
  have e3:(dS w ns).length<=30:=by rw[<-e2];omega
  rw[e1]at B ⊢;rw[e2];refine QI (A:=dS w ns) Ua hq (bm:=bm) (az.drop (K:=ab o2 1 ((dS w ns).map au)) (R:=[(bm,⟨0,[]⟩)]) (by rw[Ta];exact(List.perm_append_singleton _ _).symm) rfl ((fU.cons (.refl _) (.cons (Fz.slot rfl B Ue (λ_ _=>rfl) λ_ _ q a a2 h1 h2=>by rw[h1]at h2;cases h2;exact .refl _) (.cons (.refl _) (.cons (.refl _) .nil)))).at_.2))
theorem QK{vs:List AV}{L:SH}(o:Option Nat)(B:o=none->ns=[])(G:az vs L [.pptr [w.enc] 0 0,aj o ns.length,.lst (w.locks.map bC.enc),.Uf w.locks.length,.Uf 0] (ab o 1 (ns.map au))):W.loop (mS Q) vs L:=by
 have D:=λvs L o B G=>QJ hns h4 h2 hf2 ht4 hq (vs:=vs) (L:=L) o B G
 obtain⟨S,Y⟩:∃S:Nat->List bu,S=λi=>ns++(w.locks.take i).map bC.name:=⟨_,rfl⟩
 have O:S 0=ns:=by subst Y;simp
 have N:S w.locks.length=ns++w.locks.map bC.name:=by subst Y;simp
 have E:∀i (h:i<w.locks.length),S (i+1)=S i++[w.locks[i].name]:=λi h=>by subst Y;simp only[Sw h,LT,S3,Sx,S6]
 have M:∀i,(S i).length<=18:=λi=>by subst Y;rw[SD,Ty,ST];omega
 rw[<-N]at D;rw[<-O]at G B;clear O Y hq;refine oa (α:=Nat×Option Nat) (λa=>([.pptr [w.enc] 0 0,aj a.2 (S a.1).length,.lst (w.locks.map bC.enc),.Uf w.locks.length,.Uf (a.1:Int)],ab a.2 1 ((S a.1).map au))) (λa=>w.locks.length-a.1) (λa=>a.1<=w.locks.length/\(a.2=none->S a.1=[])) (0,o) ⟨Nat.zero_le _,B⟩ G ?_;rintro⟨i,o⟩ ⟨hi,B⟩ nx hnx;refine vw ?_;dsimp only at *;have hA:=M i;rcases Nat.lt_or_ge i w.locks.length with h|h
 .have d1:decide ((i:Int)<(w.locks.length:Int))=true:=aW h;have hw1:IntKind.i64.wrap ((i:Int)+1)=((i+1:Nat):Int):=ax h Ua;have hx:=ao (f:=bC.enc) h;have Z:∀j L',fV L' [(j,⟨1,(S i).map au++[[.str w.locks[i].name]]⟩)]->nx [.pptr [w.enc] 0 0,.sl j 0 ((S i).length+1),.lst (w.locks.map bC.enc),.Uf w.locks.length,.Uf ((i+1:Nat):Int)] L':=λj L' h3=>
   hnx (i+1,some j) ⟨h,nofun⟩ (by dsimp only;omega) _ _ (az.pickE h3 (by simp[aj,E i h]) (by simp[ab,au,E i h]))
  clear hnx E N M G D;generalize w.locks[i]=c at *;generalize S i=C at *;obtain⟨nm,mx⟩:=c;unfold bC.enc at hx;dsimp only at *
  repeat' (first|refine st ?_|refine bF mm rp Ud (λe=>by simp[B e]) Uc Ud (by simp;omega) (by simp;omega) Uc (λj u=>?_)|refine sb λj u=>?_|refine s2 (λh=>?_) λh=>?_|fail)
  exact Z _ _ rp
 .have d1:decide ((i:Int)<(w.locks.length:Int))=false:=aX h;obtain rfl:i=w.locks.length:=by omega
  repeat' (first|refine st ?_|refine sb λj u=>?_|refine s2 (λh=>?_) λh=>?_|fail)
  exact D _ _ o B (.refl _ _)
theorem Sb:hC (.agg w.enc) (.lst (ns.map au)) [] Q:=by
 have B:=λvs L o E D=>QK hns h4 h2 hf2 ht4 hq (vs:=vs) (L:=L) o E D
 clear hq;refine vw ?_
 repeat' (first|refine st ?_|refine sb λu j=>?_|refine s2 (λh=>?_) λh=>?_|fail)
 refine Ke (λ_=>rfl) Ua Ua (λ_=>rfl) (λe=>?_) (λu j=>?_)
 .subst e
  repeat' (first|refine st ?_|refine sb λu j=>?_|refine s2 (λh=>?_) λh=>?_|fail)
  exact B _ _ none (λ_=>rfl) (az.drop (K:=[]) (.refl _) rfl ((fU.cons (.refl _) (.cons .nile (.cons (.refl _) (.cons (.refl _) (.cons (.refl _) .nil))))).at_.2))
 .repeat' (first|refine st ?_|refine sb λu j=>?_|refine s2 (λh=>?_) λh=>?_|fail)
  exact B _ _ (some u) nofun (.refl _ _)
end
theorem H6(w:aI){ns:List bu}(hns:ns.length<=12)(h4:w.locks.length<=4)(h2:w.conds.length<=2)(hf2:w.futures.length<=2)(ht4:w.threads.length<=4):aq Tryz.prog 99 [.agg w.enc,.lst (ns.map au)] (.bool (gx (lY (dS w ns)))):=
 ac.fz (mT _ _ _ _ (Sb hns h4 h2 hf2 ht4 λb L h=>⟨_,[],az.all (.refl _),by rw[h],rfl⟩))
theorem FU{l:List aH}(u:l.length<=12){ns:List bu}(h:c9 l ns):aq Tryz.prog 98 [.lst (l.map aH.enc)] (.tup [.lst (ns.map au),.bool true]):=
 ac.fz (gw _ _ _ (qe l u (λj L v B h2=>⟨_,[],az.all (.tups (.cons h2 (.cons (.refl _) .nil))),by rw[h.uniq B],rfl⟩) λh2=>absurd h (h2 ns)))
theorem H7{l:List aH}(u:l.length<=12)(h:∀ns,¬c9 l ns):aq Tryz.prog 98 [.lst (l.map aH.enc)] (.tup [.nils,.bool false]):=
 ac.fz (gw _ _ _ (qe l u (λj L v B h2=>absurd B (h j)) λ_ L=>⟨_,[],az.all (.refl _),rfl,rfl⟩))
end
def Kf{n:Nat}{t x:Int}{s:bU}{l:List bU}:uy n t x (s::l)↔t<=s.thread/\s.thread<n/\s.stmt=(if t<s.thread then 0 else x)/\uy n s.thread (s.stmt+1) l:=Iff.rfl
def Ak(w:aI)(h60:w.sites.length<=60):aq Tryz.prog 101 [.agg w.enc] (.bool (gx (uy w.threads.length 0 0 w.sites))):=by
  refine mO _ _ _ ?_;refine vw ?_;generalize Y:(λ(u:AV) (K:SH)=>u=AV.bool (gx (uy w.threads.length 0 0 w.sites))/\K=[])=Q;have S:∀b,gx (uy w.threads.length 0 0 w.sites)=b->Q (.bool b) []:=λb E=>by subst Y;exact⟨by rw[E],rfl⟩
  clear Y
  repeat' (first|refine st ?_|refine sb λN D=>?_|refine s2 (λh=>?_) λh=>?_|fail)
  refine uq (α:=Nat×Int×Nat) (λa=>([.pptr [w.enc] 0 0,.Uf a.2.1,.Uf (a.2.2:Int),.lst (w.sites.map bU.enc),.Uf w.sites.length,.Uf (a.1:Int)],[])) (λa=>w.sites.length-a.1) (λa=>a.1<=w.sites.length/\a.2.2<=a.1/\(uy w.threads.length 0 0 w.sites↔uy w.threads.length a.2.1 a.2.2 (w.sites.drop a.1))) (0,0,0) ⟨Nat.zero_le _,Nat.le_refl _,Ud⟩ rfl rfl ?_;rintro⟨i,t,x⟩ ⟨hi,O,G⟩ nx hnx;refine vw ?_;dsimp only at *;rcases Nat.lt_or_ge i w.sites.length with h|h
  · have d1:decide ((i:Int)<(w.sites.length:Int))=true:=aW h
    have hw1:IntKind.i64.wrap ((i:Int)+1)=((i+1:Nat):Int):=ax h Ua;have hw2:IntKind.i64.wrap ((x:Int)+1)=((x+1:Nat):Int):=by rw[Te _ Ua];omega
    have hw3:IntKind.i64.wrap (0+1)=((0+1:Nat):Int):=rfl;have hx:=ao (f:=bU.enc) h;rw[TA h]at G;generalize w.sites[i]=s at *;rw[Kf]at G;have B:¬(t<=s.thread/\s.thread<w.threads.length/\s.stmt=if t<s.thread then 0 else(x:Int))->Q (.bool false) []:=λE=>S _ (dq λM=>E (by have:=G.1 M;exact⟨this.1,this.2.1,this.2.2.1⟩))
    have j:∀y:Nat,y<=i->(t<=s.thread/\s.thread<w.threads.length/\s.stmt=if t<s.thread then 0 else(x:Int))->s.stmt=(y:Int)->nx [.pptr [w.enc] 0 0,.Uf s.thread,.Uf ((y+1:Nat):Int),.lst (w.sites.map bU.enc),.Uf w.sites.length,.Uf ((i+1:Nat):Int)] []:=λy hy E hs=>
      hnx (i+1,s.thread,y+1) ⟨h,by dsimp only;omega,by
        rw[G];dsimp only;have e:s.stmt+1=((y+1:Nat):Int):=by omega
        rw[e];exact⟨λh=>h.2.2.2,λh=>⟨E.1,E.2.1,E.2.2,h⟩⟩⟩ (by dsimp only;omega)
    clear hnx G;obtain⟨Z,sm,ln⟩:=s;unfold bU.enc at hx;dsimp only at *
    repeat' (first|refine st ?_|refine sb λN D=>?_|refine s2 (λh=>?_) λh=>?_|fail)
    all_goals first
      |(refine B λM=>?_;have h3:=M.1;have h4:=M.2.1;have h5:=M.2.2;clear M B j;split at h5<;>simp only[decide_eq_true_eq,decide_eq_false_iff_not,ge_iff_le,ne_eq,Decidable.not_not]at * <;>omega)
      |(refine j 0 (SL _) ?_ ?_<;>clear B j<;>simp only[decide_eq_true_eq,decide_eq_false_iff_not,ge_iff_le,ne_eq,Decidable.not_not]at * <;>first|omega|(refine⟨Ua,Ua,?_⟩;rw[if_pos Ua];omega))
      | (simp only [decide_eq_true_eq, decide_eq_false_iff_not, ge_iff_le, ne_eq, Decidable.not_not] at *
         obtain rfl:t=Z:=by omega
         refine j x O ?_ ?_<;>clear B j<;>first|omega|(refine⟨Ua,Ua,?_⟩;rw[if_neg Ua];omega))
  · have d1:decide ((i:Int)<(w.sites.length:Int))=false:=aX h
    rw[List.drop_eq_nil_of_le h]at G
    repeat' (first|refine st ?_|refine sb λN D=>?_|refine s2 (λh=>?_) λh=>?_|fail)
    exact S _ (eC (G.2 trivial))
def H8(w:aI):aq Tryz.prog 60 [.agg w.enc] (.bool (gx (uz w))):=by
 refine mM _ _ _ ?_;refine vw ?_;generalize hQ:(λ(u:AV) (K:SH)=>u=AV.bool (gx (uz w))/\K=[])=Q;have Z:∀b,gx (uz w)=b->Q (.bool b) []:=λb hb=>by subst hQ;exact⟨by rw[hb],rfl⟩
 clear hQ;by_cases h0:w.cells.length<=12/\w.locks.length<=4/\w.conds.length<=2/\w.futures.length<=2/\w.sites.length<=60/\1<=w.threads.length/\w.threads.length<=4
 .obtain⟨Y,l4,d2,f2,s60,t1,t4⟩:=h0;have e1:decide ((w.cells.length:Int) > 12)=false:=decide_eq_false Ua;have e2:decide ((w.locks.length:Int) > 4)=false:=decide_eq_false Ua;have e3:decide ((w.conds.length:Int) > 2)=false:=decide_eq_false Ua;have e4:decide ((w.futures.length:Int) > 2)=false:=decide_eq_false Ua;have e5:decide ((w.sites.length:Int) > 60)=false:=decide_eq_false Ua;have e6:decide ((w.threads.length:Int)<1)=false:=decide_eq_false Ua;have e7:decide ((w.threads.length:Int) > 4)=false:=decide_eq_false Ua;by_cases N:∃D,c9 w.cells D
  .obtain⟨D,N⟩:=N;have G:=FU Y N;have hns:D.length<=12:=by have:=N.len;omega
   have E:=H6 w hns l4 d2 f2 t4;have hvs:=Ak w s60;cases O:gx (lY (dS w D))with
   |false=>
    rw[O]at E;have hb:gx (uz w)=false:=dq λh=>by obtain⟨n2,S,h2⟩:=h.names;obtain rfl:=N.uniq S;rw[eC ⟨h2.1,h2.2⟩]at O;cases O
    repeat' (first|refine st ?_|(refine pf 98 ?_;refine pm (G) ?_)|(refine pf 99 ?_;refine pm (E) ?_)|refine sb λB j=>?_|refine s2 (λh=>?_) λh=>?_|fail)
    all_goals exact Z _ hb
   |true=>
    rw[O]at E
    repeat' (first|refine st ?_|(refine pf 98 ?_;refine pm (G) ?_)|(refine pf 99 ?_;refine pm (E) ?_)|refine sb λB j=>?_|refine s2 (λh=>?_) λh=>?_|fail)
    refine dy w.conds (λc=>!jw w c.mutex false) (λi=>[.pptr [w.enc] 0 0,.lst (w.conds.map bR.enc),.Uf w.conds.length,.Uf (i:Int)]) Ua rfl (λi S hd hi hno nx hn=>?_) (λi S hd hno nx=>?_)
    all_goals refine vw ?_
    .have hx:=ao (f:=bR.enc) S;have M:=Bt w w.conds[i].mutex false;have hbad:jw w w.conds[i].mutex false=false->gx (uz w)=false:=λh=>dq λh2=>by rw[h2.mtx _ (Sy S)]at h;cases h
     generalize w.conds[i]=c at *;obtain⟨nm,mx⟩:=c;unfold bR.enc at hx;dsimp only at *;cases hl:jw w mx false with
     |false=>
      rw[hl]at M
      repeat' (first|refine st ?_|(refine pf 100 ?_;refine pm (M) ?_)|refine sb λB j=>?_|refine s2 (λh=>?_) λh=>?_|fail)
      exact Z _ (hbad hl)
     |true=>
      rw[hl]at M
      repeat' (first|refine st ?_|(refine pf 100 ?_;refine pm (M) ?_)|refine sb λB j=>?_|refine s2 (λh=>?_) λh=>?_|fail)
      exact hn (by rw[hl];rfl)
    .repeat' (first|refine st ?_|(refine pf 101 ?_;refine pm (hvs) ?_)|refine sb λB j=>?_|refine s2 (λh=>?_) λh=>?_|fail)
     refine Z _ ?_;cases hs:gx (uy w.threads.length 0 0 w.sites)with
     |false=>exact dq λh=>by rw[eC h.sites]at hs;cases hs
     |true=>have O:=fH.1 O;exact eC ⟨Y,l4,d2,f2,s60,t1,t4,⟨D,N,O.1,O.2⟩,λc hc=>by simpa using hno c hc,fH.1 hs⟩
  .have G:=H7 Y λD h=>N ⟨D,h⟩
   repeat' (first|refine st ?_|(refine pf 98 ?_;refine pm (G) ?_)|refine sb λB j=>?_|refine s2 (λh=>?_) λh=>?_|fail)
   all_goals exact Z _ (dq λh=>by obtain⟨D,S,_⟩:=h.names;exact N ⟨D,S⟩)
 .have hb:gx (uz w)=false:=dq λh=>h0 ⟨h.c12,h.l4,h.d2,h.f2,h.s60,h.t1,h.t4⟩
  repeat' (first|refine st ?_|refine sb λB j=>?_|refine s2 (λh=>?_) λh=>?_|fail)
  all_goals first
   |exact Z _ hb
   |(exfalso;refine h0 ?_;clear Z hb h0;simp only[decide_eq_true_eq,decide_eq_false_iff_not]at *;omega)
structure lZ(c:aZ):Prop where
 world:uz c.w
 len:c.ts.length=c.w.threads.length
 thr:∀i (h:i<c.ts.length),pp c.w i c.ts[i]
def Ei(c:aZ)(hl:∀t∈c.ts,t.ins.length<2^48):aq Tryz.prog 26 [.agg c.enc] (.bool (gx (lZ c))):=by
 have N:=H8 c.w;have ht:=λi (h:i<c.ts.length)=>yn c.w i c.ts[i] (hl _ (Sy h))
 obtain⟨w,ts⟩:=c;dsimp only at *;refine ul _ _ _ ?_;refine vw ?_;generalize hQ:(λ(u:AV) (K:SH)=>u=AV.bool (gx (lZ ⟨w,ts⟩))/\K=[])=Q;have Y:∀b,gx (lZ ⟨w,ts⟩)=b->Q (.bool b) []:=λb hb=>by subst hQ;exact⟨by rw[hb],rfl⟩
 clear hQ;cases M:gx (uz w)with
 |false=>
  rw[M]at N
  repeat' (first|refine st ?_|(refine pf 60 ?_;refine pm (N) ?_)|refine sb λD B=>?_|refine s2 (λh=>?_) λh=>?_|fail)
  all_goals exact Y _ (dq λh=>by have:=h.world;rw[eC this]at M;cases M)
 |true=>
  rw[M]at N;have M:=fH.1 M;by_cases E:ts.length=w.threads.length
  .have e1:decide ((ts.length:Int)≠(w.threads.length:Int))=false:=by simp[E]
   have h4:=M.t4
   repeat' (first|refine st ?_|(refine pf 60 ?_;refine pm (N) ?_)|refine sb λD B=>?_|refine s2 (λh=>?_) λh=>?_|fail)
   refine eB ts.length (λk=>∀j (h:j<ts.length),j<k->pp w j ts[j]) (λk=>[.pptr [(⟨w,ts⟩:aZ).enc] 0 0,.lst (ts.map eb.enc),.Uf ts.length,.Uf k]) Ua (λj h hj=>absurd hj (T0 _)) rfl (λk Z hd hi hG nx hn=>?_) (λk Z hd hG nx=>?_)
   all_goals refine vw ?_
   .have hx:=ao (f:=eb.enc) Z;have G:=ht k Z;have O:¬pp w k ts[k]->Q (.bool false) []:=λh=>Y _ (dq λh2=>h (h2.thr k Z))
    have hgo:pp w k ts[k]->nx [.pptr [(⟨w,ts⟩:aZ).enc] 0 0,.lst (ts.map eb.enc),.Uf ts.length,.Uf ((k+1:Nat):Int)] []:=λh=>hn λj hj hjk=>by
     rcases Fn j k with g|g
     .exact hG j hj g
     .have e:j=k:=by omega
      subst e;exact h
    clear hn hG;generalize ts[k]=c at *;obtain⟨rg,ins⟩:=c;cases S:gx (pp w k ⟨rg,ins⟩)with
    |false=>
     rw[S]at G
     repeat' (first|refine st ?_|(refine pf 61 ?_;refine pm (G) ?_)|refine sb λD B=>?_|refine s2 (λh=>?_) λh=>?_|fail)
     exact O λh=>by rw[eC h]at S;cases S
    |true=>
     rw[S]at G
     repeat' (first|refine st ?_|(refine pf 61 ?_;refine pm (G) ?_)|refine sb λD B=>?_|refine s2 (λh=>?_) λh=>?_|fail)
     exact hgo (fH.1 S)
   .repeat' (first|refine st ?_|refine sb λD B=>?_|refine s2 (λh=>?_) λh=>?_|fail)
    exact Y _ (eC ⟨M,E,λj h=>hG j h (by have:j<ts.length:=h;omega)⟩)
  .have e1:decide ((ts.length:Int)≠(w.threads.length:Int))=true:=by simp;omega
   repeat' (first|refine st ?_|(refine pf 60 ?_;refine pm (N) ?_)|refine sb λD B=>?_|refine s2 (λh=>?_) λh=>?_|fail)
   all_goals exact Y _ (dq λh=>E h.len)
structure da where
 thread:Int
 kind:Int
 obj:Int
 value:Int
 site:Int
 deps:List Int
 frm:List Int
def da.enc(e:da):List AV:=[.Uf e.thread,.Uf e.kind,.Uf e.obj,.Uf e.value,.Uf e.site,.lst (e.deps.map ah),.lst (e.frm.map ah)]
structure cm where
 sync:SyncD
 cells:List Int
 futures:List Int
 threads:List aC
def cm.enc(s:cm):List AV:=[.lst (s.sync.locks.map LockD.enc),.Uf s.sync.tx,.lst (s.sync.done.map aB),.lst (s.sync.threads.map ThrD.enc),.lst (s.cells.map ah),.lst (s.futures.map ah),.lst (s.threads.map aC.enc)]
def eU(op:Int):Int:=gD.getD op.toNat 0
def ixS(i n:Int):Int:=if n<1 then 0 else if i.tmod n<0 then IntKind.i64.wrap (i.tmod n+n)else i.tmod n
def cQ(i:aS)(s:aC)(t:Int):da:=
 let e:da:=⟨t,eU i.op,i.a,0,i.site,[],[]⟩
 if i.op=6\/i.op=27 then {e with obj:=i.b}
 else if i.op=7 then {e with obj:=IntKind.i64.wrap (i.b+ixS (s.reg i.c) i.n),deps:=s.tnt i.c}
 else if i.op=8\/i.op=26 then {e with frm:=s.tnt i.b}
 else if i.op=9 then {e with obj:=IntKind.i64.wrap (i.a+ixS (s.reg i.c) i.n),deps:=s.tnt i.c,frm:=s.tnt i.b}
 else if i.op=10 then {e with obj:=-1,deps:=s.tnt i.a}
 else if i.op=28\/i.op=17\/i.op=18\/i.op=19\/i.op=20 then {e with obj:=-1}
 else e
def am(c:aZ)(t:Int):eb:=c.ts.getD t.toNat ⟨0,[]⟩
def ay(s:cm)(t:Int):aC:=s.threads.getD t.toNat aC.zero
def bH(c:eb)(k:Int):aS:=c.ins.getD k.toNat default
def gN(c:aZ)(s:cm)(t:Int):Bool:=
 inB t c.ts.length&&inB t s.threads.length&&inB t s.sync.threads.length&&inB (ay s t).pc (am c t).ins.length&&decide (((ay s t).regs.length:Int)=(am c t).regs)&&decide (((ay s t).taint.length:Int)=(am c t).regs)
def bL(c:aZ)(s:cm)(t:Int):Option da:=
 if gN c s t then
  let i:=bH (am c t) (ay s t).pc
  if(aR s.sync t).status=1 then some ⟨t,1,-1,0,-1,[],[]⟩
  else if(aR s.sync t).status=4 then some ⟨t,17,(aR s.sync t).cond,0,i.site,[],[]⟩
  else if(aR s.sync t).status=2 then(if eU i.op≠0 then some (cQ i (ay s t) t)else none)
  else none
 else none
structure Mc where
 value:Int
 cells:List Int
 futures:List Int
 thread:aC
def iJ(l:List Int)(o:Int):Int:=l.getD o.toNat 0
def bY(i:aS)(e:da)(s:cm)(th:aC)(sv:Int):Mc:=
 let nx:Int:=IntKind.i64.wrap (th.pc+1)
 let ev:Int:=IntKind.i64.wrap (th.ev+1)
 if e.kind=3 then⟨iJ s.cells e.obj,s.cells,s.futures,⟨nx,th.regs.set i.a.toNat (iJ s.cells e.obj),th.taint.set i.a.toNat [th.ev],ev⟩⟩
 else if e.kind=23 then⟨iJ s.futures e.obj,s.cells,s.futures,⟨nx,th.regs.set i.a.toNat (iJ s.futures e.obj),th.taint.set i.a.toNat [th.ev],ev⟩⟩
 else if e.kind=4 then⟨th.reg i.b,s.cells.set e.obj.toNat (th.reg i.b),s.futures,⟨nx,th.regs,th.taint,ev⟩⟩
 else if e.kind=22 then⟨th.reg i.b,s.cells,s.futures.set e.obj.toNat (th.reg i.b),⟨nx,th.regs,th.taint,ev⟩⟩
 else if e.kind=5 then(if th.reg i.a≠0 then⟨1,s.cells,s.futures,⟨nx,th.regs,th.taint,ev⟩⟩else⟨e.value,s.cells,s.futures,⟨i.b,th.regs,th.taint,ev⟩⟩)
 else if e.kind=18\/e.kind=19 then⟨sv,s.cells,s.futures,⟨nx,th.regs,th.taint,ev⟩⟩
 else if e.kind=1\/e.kind=16\/e.kind=2 then⟨e.value,s.cells,s.futures,⟨th.pc,th.regs,th.taint,ev⟩⟩
 else⟨e.value,s.cells,s.futures,⟨nx,th.regs,th.taint,ev⟩⟩
def gy(c:aZ)(s:cm)(t wake:Int):Option (cm×da):=
 match bL c s t with
 |none=>none
 |some e=>
  if s.cells.length=c.w.cells.length/\s.futures.length=c.w.futures.length then
   let r:=dE c.w s.sync t e.kind e.obj wake
   if r.2.2 then
    let a:=bY (bH (am c t) (ay s t).pc) e s (ay s t) r.2.1
    let e':={e with value:=a.value}
    if e.kind≠16/\e.kind≠2 then
     let z:=aT (am c t) a.thread
     if z.2 then some (⟨r.1,a.cells,a.futures,s.threads.set t.toNat z.1⟩,e')else none
    else some (⟨r.1,a.cells,a.futures,s.threads.set t.toNat a.thread⟩,e')
   else none
  else none
def ca(c:aZ):cm:=⟨a7 c.w,c.w.cells.map aH.init,List.replicate c.w.futures.length 0,c.ts.map λt=>⟨0,List.replicate t.regs.toNat 0,List.replicate t.regs.toNat [],0⟩⟩
end Go.Proofs.YtbofdbhnbodbiaaGreatDoor.Am
