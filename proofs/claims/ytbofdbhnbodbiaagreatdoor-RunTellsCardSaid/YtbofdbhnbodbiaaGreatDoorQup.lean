/- A part of the proof; the statement is proved in the last part. -/
import Derived.Test.YtbofdbhnbodbiaaGreatDoorQuo
set_option linter.all false
set_option maxRecDepth 100000
set_option maxHeartbeats 20000000
namespace Go.Proofs.YtbofdbhnbodbiaaGreatDoor.Am
def KK:Qd 1=.pptr [mI.map .str] 0 0:=rfl
def OZ{i:Nat}(h:i<mI.length):W0.rowLd false 1 (mI.map .str) ((i:Int).toNat*1)=some (.str mI[i]):=by unfold W0.rowLd;simp[h]
def NW(s:bv):aq Tryz.prog 174 [.str s] (.bool (CY s)):=by
 refine ru _ _ _ ?_;refine vw ?_;rw[KK];have N:CY s=mI.any λx=>decide (s=x):=by simp only[CY,eq_comm]
 repeat' (first|refine st ?_|refine sb λu j=>?_|refine s2 (λh=>?_) λh=>?_|fail)
 refine dt mI (λx=>decide (s=x)) (λi=>[.str s,.agg (mI.map .str),.U1 i]) U0 rfl (λi D G Z B O Y=>?_) (λi D G B O=>?_)
 all_goals refine vw ?_
 .have S:=OZ D;have E:decide ((i:Int)<22)=true:=G;have M:(i:Int).toNat<22:=D
  repeat' (first|refine st ?_|refine QO (Int.natCast_nonneg _) M S ?_|refine sb λu j=>?_|refine s2 (λh=>?_) λh=>?_|fail)
  .exact⟨by rw[N,Hw D h],rfl⟩
  .exact Y h
 .have E:decide ((i:Int)<22)=false:=G
  repeat' (first|refine st ?_|refine sb λu j=>?_|refine s2 (λh=>?_) λh=>?_|fail)
  exact⟨by rw[N,Kd B],rfl⟩
def Rp{s:bv}{i:Nat}(h:i<s.length):(⟨s.toArray⟩:ByteArray).get! i=s[i]:=by show s.toArray[i]! =s[i];simp[h]
def Rq{s:bv}{i:Nat}(h:i<s.length):∃c wd,Utf8.decode ⟨s.toArray⟩ i=(c,wd)/\((c=s[i].toNat/\wd=1/\c<128)\/(128<=c/\128<=s[i].toNat)):=by
 refine⟨(Utf8.decode ⟨s.toArray⟩ i).1,(Utf8.decode ⟨s.toArray⟩ i).2,rfl,?_⟩;unfold Utf8.decode;simp only[UO,Rp h];by_cases j:s[i].toNat<128
 .rw[if_pos j];exact .inl ⟨rfl,rfl,j⟩
 .rw[if_neg j];refine .inr ⟨?_,UW⟩;have u:128<=Utf8.runeError:=by decide
  repeat' split
  all_goals first
   |exact u
   |(simp only[ge_iff_le,Ty,decide_eq_true_eq]at *;omega)
def HI(s:bv):aq Tryz.prog 146 [.str s] (.bool (dZ s)):=by
 refine ac.fz (wV _ _ _ ?_);refine vw ?_;generalize hQ:(λ(v:AV) (L:SH)=>∃v2 L2,az [v] L [v2] L2/\v2=AV.bool (dZ s)/\L2=[])=Q;have N:∀b L,dZ s=b->Q (.bool b) L:=λb L h=>by subst hQ;exact⟨_,[],az.all (.refl _),by rw[h],rfl⟩
 clear hQ;by_cases h0:1<=s.length/\s.length<=12/\CY s=false
 .obtain⟨h1,h12,O⟩:=h0;have E:=NW s;rw[O]at E;have d1:decide ((s.length:Int)<1)=false:=decide_eq_false UW;have d2:decide ((s.length:Int) > 12)=false:=decide_eq_false UW;have D:∀i (h:i<s.length),¬(gR s[i].toNat=true/\(i=0->gu s[i].toNat=true))->dZ s=false:=λi h Y=>by
   cases G:dZ s with
   |false=>rfl
   |true=>exfalso;unfold dZ at G;simp only[Ty,Tv]at G;refine Y ⟨G.2 _ (Tk h),λe=>?_⟩;subst e;have:=G.1.1.2;simpa[List.getD,h]using this
  repeat' (first|refine st ?_|(refine pf 174 ?_;refine pm (E) ?_)|refine OT (λB u=>?_)|refine sb λB u=>?_|refine s2 (λh=>?_) λh=>?_|fail)
  refine uH (λi:Nat=>([.it B],[(B,⟨0,[[.str s,.U1 (i:Int)]]⟩)])) (λi=>s.length-i) (λi=>i<=s.length/\∀j (h:j<s.length),j<i->gR s[j].toNat=true/\(j=0->gu s[j].toNat=true)) 0 ⟨TG _,λj h h2=>absurd h2 (UM _)⟩ rfl rfl (λi S nx G=>?_);obtain⟨hi,S⟩:=S;refine vw ?_
  try dsimp only
  rcases Tf i s.length with h|h
  .obtain⟨c,wd,hd,hc⟩:=Rq h;replace D:=D i h;have M:gR s[i].toNat=true/\(i=0->gu s[i].toNat=true)->nx [.it B] [(B,⟨0,[[.str s,.U1 ((i+1:Nat):Int)]]⟩)]:=λY=>G (i+1) ⟨h,λj Z hji=>by
    rcases Tf j i with g|g
    .exact S j Z g
    .have e:j=i:=by omega
     subst e;exact Y⟩ UW
   clear G S
   repeat' (first|refine st ?_|refine sb λB u=>?_|refine s2 (λh=>?_) λh=>?_|fail)
   refine Rm (.head _) h (.here _) ?_;simp only[hd];clear hd;rcases hc with⟨rfl,rfl,hc⟩|⟨hc,Y⟩
   .generalize s[i].toNat=x at *
    repeat' (first|refine st ?_|refine sb λB u=>?_|refine s2 (λh=>?_) λh=>?_|fail)
    all_goals first
     |(refine M ?_;clear M D N;simp only[gR,gu,uN,US,Ty,decide_eq_true_eq,decide_eq_false_iff_not]at *;omega)
     |(refine N _ _ (D ?_);clear M D N;simp only[gR,gu,uN,US,Ty,decide_eq_true_eq,decide_eq_false_iff_not]at *;omega)
   .generalize s[i].toNat=x at *;have e1:decide ((c:Int)<=122)=false:=decide_eq_false UW;have e2:decide ((c:Int)<=90)=false:=decide_eq_false UW;have e3:decide ((c:Int)<=57)=false:=decide_eq_false UW;have e4:decide ((c:Int)=95)=false:=decide_eq_false UW
    repeat' (first|refine st ?_|refine sb λB u=>?_|refine s2 (λh=>?_) λh=>?_|fail)
    all_goals first
     |(refine N _ _ (D ?_);clear M D N;simp only[gR,gu,uN,US,Ty,decide_eq_true_eq,decide_eq_false_iff_not]at *;omega)
  .repeat' (first|refine st ?_|refine sb λB u=>?_|refine s2 (λh=>?_) λh=>?_|fail)
   refine Iu (.head _) UW ?_
   repeat' (first|refine st ?_|refine sb λB u=>?_|refine s2 (λh=>?_) λh=>?_|fail)
   refine N _ _ ?_;unfold dZ;have e1:(s.all λc=>gR c.toNat)=true:=Tv.2 λx hx=>by obtain⟨j,Z,rfl⟩:=Ur hx;exact(S j Z UW).1
   have e2:gu ((s.getD 0 0).toNat:Nat)=true:=by have:=(S 0 UW UW).2 rfl;simpa[List.getD,show 0<s.length by omega]using this
   rw[e1,e2,O];simp;omega
 .have E:=NW s;have hf:dZ s=false:=by
   cases G:dZ s with
   |false=>rfl
   |true=>exfalso;refine h0 ?_;unfold dZ at G;simp only[Ty,decide_eq_true_eq,Bool.not_eq_true']at G;exact⟨UW,UW,G.1.2⟩
  cases O:CY s with
  |true=>
   rw[O]at E
   repeat' (first|refine st ?_|(refine pf 174 ?_;refine pm (E) ?_)|refine sb λB u=>?_|refine s2 (λh=>?_) λh=>?_|fail)
   all_goals exact N _ _ hf
  |false=>
   rw[O]at E
   repeat' (first|refine st ?_|(refine pf 174 ?_;refine pm (E) ?_)|refine sb λB u=>?_|refine s2 (λh=>?_) λh=>?_|fail)
   all_goals first
    |exact N _ _ hf
    |(exfalso;refine h0 ⟨?_,?_,O⟩<;>simp only[decide_eq_true_eq,decide_eq_false_iff_not]at * <;>omega)
section
def md(A:List bv):Prop:=(∀s∈A,dZ s=true)/\A.Nodup
def lu(l:List bv):List (List AV):=l.map λs=>[.str s,.bool true]
theorem Gk(l:List bv):(lu l).all rZ=true:=by
 induction l with
 |nil=>rfl
 |cons s l j=>simp only[lu,Tj,List.all_cons]at *;rw[j];rfl
theorem pn{s:bv}:∀{l:List bv} {k:Nat},(s∉l->gC s (lu l) k=none)/\(s∈l->∃j,gC s (lu l) k=some (j,.bool true))
 |[],k=>⟨λ_=>rfl,λh=>by simp at h⟩
 | x::l,k=>by
  have u:=pn (s:=s) (l:=l) (k:=k+1);have e:gC s (lu (x::l)) k=if s==x then some (k,.bool true)else gC s (lu l) (k+1):=rfl
  rw[e];by_cases h:s=x
  .subst h;exact⟨λh=>by simp at h,λ_=>⟨k,UZ⟩⟩
  .have:(s==x)=false:=by simpa using h
   rw[this];exact⟨λh2=>u.1 (by simp at h2;exact h2.2),λh2=>u.2 (by simpa[h]using h2)⟩
theorem MI{s:bv}{l:List bv}(h:s∉l):W0.found (.bool false) false (gC s (lu l) 0)=.bool false:=by rw[pn.1 h];rfl
theorem KM{s:bv}{l:List bv}(h:s∈l):W0.found (.bool false) false (gC s (lu l) 0)=.bool true:=by obtain⟨j,u⟩:=(pn (k:=0)).2 h;rw[u];rfl
theorem KO{s:bv}{l:List bv}(h:s∉l):W0.putR s (.bool true) (lu l)=lu (l++[s]):=by unfold W0.putR;rw[pn.1 h];simp[lu]
theorem CZ{o:Option Nat}{k:Nat}{K:AV->Prop}(h:K (.U1 (k:Int)))(j:o=none->k=0):W.len (aj o k) K:=by
 cases o with
 |none=>rw[j rfl]at h;exact CB h
 |some b=>exact Cx h
theorem KP{α:Type}{f:α->List AV}{l:List α}{n by_:Nat}{L:SH}{KL:AV->SH->Prop}(B:∀x,(f x).length=n)(h2:2*l.length*by_<=2^48)(E:2*l.length<=2^62)(h4:∀x,(f x).all AV.one=true)
  (h:l=[]->KL .nils L) (G:∀b,b∉L.names->KL (.sl b 0 l.length) ((b,⟨n,l.map f⟩)::L)):W.append n by_ .nils (.lst (l.map f)) L KL:=by
 have j:((l.map f).all λr=>r.all AV.one)=true:=by rw[Tv];intro r u;obtain⟨x,_,rfl⟩:=TR.1 u;exact h4 x
 refine⟨[],l.map f,rfl,pe B,by simpa using h2,by simpa using E,j,λe=>?_,λe b D=>?_⟩
 .exact h (by simpa using e)
 .have:=G b D;simpa using this
theorem Rr{A:List bv}(hA:A.length<2^40){Q:R}(hq:∀b L,gA (md A)=b->Q (.bool b) L){vs:List AV}{L:SH}{bm:Nat}(Z:az vs L [.mp bm,.lst (A.map au),.U1 A.length,.U1 0] [(bm,⟨0,[]⟩)]):W.loop (np Q) vs L:=by
 refine oD (α:=Nat) (λi=>([.mp bm,.lst (A.map au),.U1 A.length,.U1 (i:Int)],[(bm,⟨0,lu (A.take i)⟩)])) (λi=>A.length-i) (λi=>i<=A.length/\md (A.take i)) 0 ⟨TG _,by simp[md]⟩ Z ?_;rintro i ⟨hi,O⟩ nx hnx;refine vw ?_
 try dsimp only
 rcases Tf i A.length with h|h
 .have d1:decide ((i:Int)<(A.length:Int))=true:=aS h;have hw1:IntKind.i64.wrap ((i:Int)+1)=((i+1:Nat):Int):=aw h UW;have hx:=am (f:=au) h;have u:=HI A[i];have ht:=Th h;have G:¬md (A.take (i+1))->∀L,Q (.bool false) L:=λj L=>hq _ _ (dy λhN=>j ⟨λs hs=>hN.1 s (List.mem_of_mem_take hs),hN.2.sublist (List.take_sublist _ _)⟩)
  have N:md (A.take (i+1))->nx [.mp bm,.lst (A.map au),.U1 A.length,.U1 ((i+1:Nat):Int)] [(bm,⟨0,lu (A.take (i+1))⟩)]:=λj=>hnx (i+1) ⟨h,j⟩ UW _ _ (.refl _ _)
  rw[ht]at G N;clear hq hnx ht Z;generalize A[i]=s at *;generalize A.take i=l at *;have S:=Gk l;cases D:dZ s with
  |false=>
   rw[D]at u;have j:¬md (l++[s]):=λj=>by have:=j.1 s UZ;rw[D]at this;cases this
   repeat' (first|refine st ?_|(refine pf 146 ?_;refine pm (u) ?_)|refine sb λE B=>?_|refine s2 (λh=>?_) λh=>?_|fail)
   all_goals exact G j _
  |true=>
   rw[D]at u;by_cases M:s∈l
   .have Y:=KM M;have j:¬md (l++[s]):=λj=>by have:=(Uv.1 j.2).2.2 s M s UZ;exact this rfl
    repeat' (first|refine st ?_|(refine pf 146 ?_;refine pm (u) ?_)|refine KB (.head _) S Y ?_|refine sb λE B=>?_|refine s2 (λh=>?_) λh=>?_|fail)
    all_goals exact G j _
   .have Y:=MI M;have hp:=KO M;have j:md (l++[s]):=⟨λx hx=>by
     rcases Tn.1 hx with h|h
     .exact O.1 x h
     .rw[Tl.1 h];exact D,Uv.2 ⟨O.2,UZ,λa ha b j=>by rw[Tl.1 j];rintro rfl;exact M ha⟩⟩
    repeat' (first|refine st ?_|(refine pf 146 ?_;refine pm (u) ?_)|refine KB (.head _) S Y ?_|refine Rl (.here _) S rfl hp ?_|refine sb λE B=>?_|refine s2 (λh=>?_) λh=>?_|fail)
    all_goals exact N j
 .have d1:decide ((i:Int)<(A.length:Int))=false:=aX h;rw[TH h]at O
  repeat' (first|refine st ?_|refine sb λE B=>?_|refine s2 (λh=>?_) λh=>?_|fail)
  exact hq _ _ (eG O)
section
variable {w:aG} {Q:R} {ns:List bv} (hns:ns.length<=12) (h4:w.locks.length<=4) (h2:w.conds.length<=2) (hf2:w.futures.length<=2) (ht4:w.threads.length<=4) (hq:∀b L,gA (md (dV w ns))=b->Q (.bool b) L)
include hns h4 h2 hf2 ht4 hq
theorem Rs{vs:List AV}{L:SH}(o:Option Nat)(G:o=none->ns++w.locks.map bn.name=[])(Y:az vs L [.pptr [w.enc] 0 0,aj o (ns++w.locks.map bn.name).length,.lst (w.conds.map bP.enc),.U1 w.conds.length,.U1 0] (ab o 1 ((ns++w.locks.map bn.name).map au))):W.loop (nq Q) vs L:=by
 obtain⟨S,O⟩:∃S:Nat->List bv,S=λi=>ns++w.locks.map bn.name++(w.conds.take i).map bP.name:=⟨_,rfl⟩
 have N:S 0=ns++w.locks.map bn.name:=by subst O;simp
 have E:S w.conds.length++w.futures++w.threads=dV w ns:=by subst O;simp[dV]
 have D:∀i (h:i<w.conds.length),S (i+1)=S i++[w.conds[i].name]:=λi h=>by subst O;simp only[Th h,Ti,TS,Tj,TV]
 have M:∀i,(S i).length<=18:=λi=>by subst O;rw[Tp,Tp,Um,Um,TJ];omega
 rw[<-N]at Y G;clear N O;refine oD (α:=Nat×Option Nat) (λa=>([.pptr [w.enc] 0 0,aj a.2 (S a.1).length,.lst (w.conds.map bP.enc),.U1 w.conds.length,.U1 (a.1:Int)],ab a.2 1 ((S a.1).map au))) (λa=>w.conds.length-a.1) (λa=>a.1<=w.conds.length/\(a.2=none->S a.1=[])) (0,o) ⟨Nat.zero_le _,G⟩ Y ?_;rintro⟨i,o⟩ ⟨hi,G⟩ nx hnx;refine vw ?_;dsimp only at *;have hA:=M i;rcases Nat.lt_or_ge i w.conds.length with h|h
 .have d1:decide ((i:Int)<(w.conds.length:Int))=true:=aS h;have hw1:IntKind.i64.wrap ((i:Int)+1)=((i+1:Nat):Int):=aw h UW;have hx:=am (f:=bP.enc) h;have hgo:∀j L',fE L' [(j,⟨1,(S i).map au++[[.str w.conds[i].name]]⟩)]->nx [.pptr [w.enc] 0 0,.sl j 0 ((S i).length+1),.lst (w.conds.map bP.enc),.U1 w.conds.length,.U1 ((i+1:Nat):Int)] L':=λj L' h3=>
   hnx (i+1,some j) ⟨h,nofun⟩ (by dsimp only;omega) _ _ (az.pickE h3 (by simp[aj,D i h]) (by simp[ab,au,D i h]))
  clear hnx D E M Y;generalize w.conds[i]=c at *;generalize S i=C at *;obtain⟨nm,mx⟩:=c;unfold bP.enc at hx;dsimp only at *
  repeat' (first|refine st ?_|refine bA mm rp UZ (λe=>by simp[G e]) UY UZ (by simp;omega) (by simp;omega) UY (λj u=>?_)|refine sb λj u=>?_|refine s2 (λh=>?_) λh=>?_|fail)
  exact hgo _ _ rp
 .have d1:decide ((i:Int)<(w.conds.length:Int))=false:=aX h;obtain rfl:i=w.conds.length:=by omega
  repeat' (first|refine st ?_|refine sb λj u=>?_|refine s2 (λh=>?_) λh=>?_|fail)
  refine nN rp (λ_=>rfl) UZ (λe=>by simp[G e]) UW UW (λ_=>rfl) (λo1 Z=>?_)
  repeat' (first|refine st ?_|refine sb λj u=>?_|refine s2 (λh=>?_) λh=>?_|fail)
  refine nN rp (λ_=>rfl) UZ (λe=>Z e) UW UW (λ_=>rfl) (λo2 B=>?_);refine MF λbm hbm=>?_
  refine CZ ?_ (λe=>by have:=B e;simp only[List.append_eq_nil_iff,List.map_eq_nil_iff]at this;simp[this]);have e1:(S w.conds.length).map au++w.futures.map au++w.threads.map au=(dV w ns).map au:=by rw[<-E];simp
  have e2:(S w.conds.length).length+w.futures.length+w.threads.length=(dV w ns).length:=by rw[<-E];simp;omega
  have e3:(dV w ns).length<=30:=by rw[<-e2];omega
  rw[e1]at B ⊢;rw[e2];refine Rr (A:=dV w ns) UW hq (bm:=bm) (az.drop (K:=ab o2 1 ((dV w ns).map au)) (R:=[(bm,⟨0,[]⟩)]) (by rw[TZ];exact(List.perm_append_singleton _ _).symm) rfl ((eP.cons (.refl _) (.cons (Fz.slot rfl B U0 (λ_ _=>rfl) λ_ _ q a a2 h1 h2=>by rw[h1]at h2;cases h2;exact .refl _) (.cons (.refl _) (.cons (.refl _) .nil)))).at_.2))
theorem Rt{vs:List AV}{L:SH}(o:Option Nat)(B:o=none->ns=[])(G:az vs L [.pptr [w.enc] 0 0,aj o ns.length,.lst (w.locks.map bn.enc),.U1 w.locks.length,.U1 0] (ab o 1 (ns.map au))):W.loop (nr Q) vs L:=by
 have D:=λvs L o B G=>Rs hns h4 h2 hf2 ht4 hq (vs:=vs) (L:=L) o B G
 obtain⟨S,Y⟩:∃S:Nat->List bv,S=λi=>ns++(w.locks.take i).map bn.name:=⟨_,rfl⟩
 have O:S 0=ns:=by subst Y;simp
 have N:S w.locks.length=ns++w.locks.map bn.name:=by subst Y;simp
 have E:∀i (h:i<w.locks.length),S (i+1)=S i++[w.locks[i].name]:=λi h=>by subst Y;simp only[Th h,Ti,TS,Tj,TV]
 have M:∀i,(S i).length<=18:=λi=>by subst Y;rw[Tp,Um,TJ];omega
 rw[<-N]at D;rw[<-O]at G B;clear O Y hq;refine oD (α:=Nat×Option Nat) (λa=>([.pptr [w.enc] 0 0,aj a.2 (S a.1).length,.lst (w.locks.map bn.enc),.U1 w.locks.length,.U1 (a.1:Int)],ab a.2 1 ((S a.1).map au))) (λa=>w.locks.length-a.1) (λa=>a.1<=w.locks.length/\(a.2=none->S a.1=[])) (0,o) ⟨Nat.zero_le _,B⟩ G ?_;rintro⟨i,o⟩ ⟨hi,B⟩ nx hnx;refine vw ?_;dsimp only at *;have hA:=M i;rcases Nat.lt_or_ge i w.locks.length with h|h
 .have d1:decide ((i:Int)<(w.locks.length:Int))=true:=aS h;have hw1:IntKind.i64.wrap ((i:Int)+1)=((i+1:Nat):Int):=aw h UW;have hx:=am (f:=bn.enc) h;have Z:∀j L',fE L' [(j,⟨1,(S i).map au++[[.str w.locks[i].name]]⟩)]->nx [.pptr [w.enc] 0 0,.sl j 0 ((S i).length+1),.lst (w.locks.map bn.enc),.U1 w.locks.length,.U1 ((i+1:Nat):Int)] L':=λj L' h3=>
   hnx (i+1,some j) ⟨h,nofun⟩ (by dsimp only;omega) _ _ (az.pickE h3 (by simp[aj,E i h]) (by simp[ab,au,E i h]))
  clear hnx E N M G D;generalize w.locks[i]=c at *;generalize S i=C at *;obtain⟨nm,mx⟩:=c;unfold bn.enc at hx;dsimp only at *
  repeat' (first|refine st ?_|refine bA mm rp UZ (λe=>by simp[B e]) UY UZ (by simp;omega) (by simp;omega) UY (λj u=>?_)|refine sb λj u=>?_|refine s2 (λh=>?_) λh=>?_|fail)
  exact Z _ _ rp
 .have d1:decide ((i:Int)<(w.locks.length:Int))=false:=aX h;obtain rfl:i=w.locks.length:=by omega
  repeat' (first|refine st ?_|refine sb λj u=>?_|refine s2 (λh=>?_) λh=>?_|fail)
  exact D _ _ o B (.refl _ _)
theorem SU:ie (.agg w.enc) (.lst (ns.map au)) [] Q:=by
 have B:=λvs L o E D=>Rt hns h4 h2 hf2 ht4 hq (vs:=vs) (L:=L) o E D
 clear hq;refine vw ?_
 repeat' (first|refine st ?_|refine sb λu j=>?_|refine s2 (λh=>?_) λh=>?_|fail)
 refine KP (λ_=>rfl) UW UW (λ_=>rfl) (λe=>?_) (λu j=>?_)
 .subst e
  repeat' (first|refine st ?_|refine sb λu j=>?_|refine s2 (λh=>?_) λh=>?_|fail)
  exact B _ _ none (λ_=>rfl) (az.drop (K:=[]) (.refl _) rfl ((eP.cons (.refl _) (.cons .nile (.cons (.refl _) (.cons (.refl _) (.cons (.refl _) .nil))))).at_.2))
 .repeat' (first|refine st ?_|refine sb λu j=>?_|refine s2 (λh=>?_) λh=>?_|fail)
  exact B _ _ (some u) nofun (.refl _ _)
end
theorem Ix(w:aG){ns:List bv}(hns:ns.length<=12)(h4:w.locks.length<=4)(h2:w.conds.length<=2)(hf2:w.futures.length<=2)(ht4:w.threads.length<=4):aq Tryz.prog 99 [.agg w.enc,.lst (ns.map au)] (.bool (gA (md (dV w ns)))):=
 ac.fz (nu _ _ _ _ (SU hns h4 h2 hf2 ht4 λb L h=>⟨_,[],az.all (.refl _),by rw[h],rfl⟩))
theorem Gl{l:List aF}(u:l.length<=12){ns:List bv}(h:de l ns):aq Tryz.prog 98 [.lst (l.map aF.enc)] (.tup [.lst (ns.map au),.bool true]):=
 ac.fz (gD _ _ _ (qq l u (λj L v B h2=>⟨_,[],az.all (.tups (.cons h2 (.cons (.refl _) .nil))),by rw[h.uniq B],rfl⟩) λh2=>absurd h (h2 ns)))
theorem Iy{l:List aF}(u:l.length<=12)(h:∀ns,¬de l ns):aq Tryz.prog 98 [.lst (l.map aF.enc)] (.tup [.nils,.bool false]):=
 ac.fz (gD _ _ _ (qq l u (λj L v B h2=>absurd B (h j)) λ_ L=>⟨_,[],az.all (.refl _),rfl,rfl⟩))
end
def KQ{n:Nat}{t x:Int}{s:bQ}{l:List bQ}:uO n t x (s::l)↔t<=s.thread/\s.thread<n/\s.stmt=(if t<s.thread then 0 else x)/\uO n s.thread (s.stmt+1) l:=Iff.rfl
def AC(w:aG)(h60:w.sites.length<=60):aq Tryz.prog 101 [.agg w.enc] (.bool (gA (uO w.threads.length 0 0 w.sites))):=by
  refine mZ _ _ _ ?_;refine vw ?_;generalize Y:(λ(u:AV) (K:SH)=>u=AV.bool (gA (uO w.threads.length 0 0 w.sites))/\K=[])=Q;have S:∀b,gA (uO w.threads.length 0 0 w.sites)=b->Q (.bool b) []:=λb E=>by subst Y;exact⟨by rw[E],rfl⟩
  clear Y
  repeat' (first|refine st ?_|refine sb λN D=>?_|refine s2 (λh=>?_) λh=>?_|fail)
  refine uH (α:=Nat×Int×Nat) (λa=>([.pptr [w.enc] 0 0,.U1 a.2.1,.U1 (a.2.2:Int),.lst (w.sites.map bQ.enc),.U1 w.sites.length,.U1 (a.1:Int)],[])) (λa=>w.sites.length-a.1) (λa=>a.1<=w.sites.length/\a.2.2<=a.1/\(uO w.threads.length 0 0 w.sites↔uO w.threads.length a.2.1 a.2.2 (w.sites.drop a.1))) (0,0,0) ⟨Nat.zero_le _,Nat.le_refl _,UZ⟩ rfl rfl ?_;rintro⟨i,t,x⟩ ⟨hi,O,G⟩ nx hnx;refine vw ?_;dsimp only at *;rcases Nat.lt_or_ge i w.sites.length with h|h
  · have d1:decide ((i:Int)<(w.sites.length:Int))=true:=aS h
    have hw1:IntKind.i64.wrap ((i:Int)+1)=((i+1:Nat):Int):=aw h UW;have hw2:IntKind.i64.wrap ((x:Int)+1)=((x+1:Nat):Int):=by rw[TY _ UW];omega
    have hw3:IntKind.i64.wrap (0+1)=((0+1:Nat):Int):=rfl;have hx:=am (f:=bQ.enc) h;rw[Uu h]at G;generalize w.sites[i]=s at *;rw[KQ]at G;have B:¬(t<=s.thread/\s.thread<w.threads.length/\s.stmt=if t<s.thread then 0 else(x:Int))->Q (.bool false) []:=λE=>S _ (dy λM=>E (by have:=G.1 M;exact⟨this.1,this.2.1,this.2.2.1⟩))
    have j:∀y:Nat,y<=i->(t<=s.thread/\s.thread<w.threads.length/\s.stmt=if t<s.thread then 0 else(x:Int))->s.stmt=(y:Int)->nx [.pptr [w.enc] 0 0,.U1 s.thread,.U1 ((y+1:Nat):Int),.lst (w.sites.map bQ.enc),.U1 w.sites.length,.U1 ((i+1:Nat):Int)] []:=λy hy E hs=>
      hnx (i+1,s.thread,y+1) ⟨h,by dsimp only;omega,by
        rw[G];dsimp only;have e:s.stmt+1=((y+1:Nat):Int):=by omega
        rw[e];exact⟨λh=>h.2.2.2,λh=>⟨E.1,E.2.1,E.2.2,h⟩⟩⟩ (by dsimp only;omega)
    clear hnx G;obtain⟨Z,sm,ln⟩:=s;unfold bQ.enc at hx;dsimp only at *
    repeat' (first|refine st ?_|refine sb λN D=>?_|refine s2 (λh=>?_) λh=>?_|fail)
    all_goals first
      |(refine B λM=>?_;have h3:=M.1;have h4:=M.2.1;have h5:=M.2.2;clear M B j;split at h5<;>simp only[decide_eq_true_eq,decide_eq_false_iff_not,ge_iff_le,ne_eq,Decidable.not_not]at * <;>omega)
      |(refine j 0 (TG _) ?_ ?_<;>clear B j<;>simp only[decide_eq_true_eq,decide_eq_false_iff_not,ge_iff_le,ne_eq,Decidable.not_not]at * <;>first|omega|(refine⟨UW,UW,?_⟩;rw[if_pos UW];omega))
      | (simp only [decide_eq_true_eq, decide_eq_false_iff_not, ge_iff_le, ne_eq, Decidable.not_not] at *
         obtain rfl:t=Z:=by omega
         refine j x O ?_ ?_<;>clear B j<;>first|omega|(refine⟨UW,UW,?_⟩;rw[if_neg UW];omega))
  · have d1:decide ((i:Int)<(w.sites.length:Int))=false:=aX h
    rw[List.drop_eq_nil_of_le h]at G
    repeat' (first|refine st ?_|refine sb λN D=>?_|refine s2 (λh=>?_) λh=>?_|fail)
    exact S _ (eG (G.2 trivial))
def Iz(w:aG):aq Tryz.prog 60 [.agg w.enc] (.bool (gA (uP w))):=by
 refine mX _ _ _ ?_;refine vw ?_;generalize hQ:(λ(u:AV) (K:SH)=>u=AV.bool (gA (uP w))/\K=[])=Q;have Z:∀b,gA (uP w)=b->Q (.bool b) []:=λb hb=>by subst hQ;exact⟨by rw[hb],rfl⟩
 clear hQ;by_cases h0:w.cells.length<=12/\w.locks.length<=4/\w.conds.length<=2/\w.futures.length<=2/\w.sites.length<=60/\1<=w.threads.length/\w.threads.length<=4
 .obtain⟨Y,l4,d2,f2,s60,t1,t4⟩:=h0;have e1:decide ((w.cells.length:Int) > 12)=false:=decide_eq_false UW;have e2:decide ((w.locks.length:Int) > 4)=false:=decide_eq_false UW;have e3:decide ((w.conds.length:Int) > 2)=false:=decide_eq_false UW;have e4:decide ((w.futures.length:Int) > 2)=false:=decide_eq_false UW;have e5:decide ((w.sites.length:Int) > 60)=false:=decide_eq_false UW;have e6:decide ((w.threads.length:Int)<1)=false:=decide_eq_false UW;have e7:decide ((w.threads.length:Int) > 4)=false:=decide_eq_false UW;by_cases N:∃D,de w.cells D
  .obtain⟨D,N⟩:=N;have G:=Gl Y N;have hns:D.length<=12:=by have:=N.len;omega
   have E:=Ix w hns l4 d2 f2 t4;have hvs:=AC w s60;cases O:gA (md (dV w D))with
   |false=>
    rw[O]at E;have hb:gA (uP w)=false:=dy λh=>by obtain⟨n2,S,h2⟩:=h.names;obtain rfl:=N.uniq S;rw[eG ⟨h2.1,h2.2⟩]at O;cases O
    repeat' (first|refine st ?_|(refine pf 98 ?_;refine pm (G) ?_)|(refine pf 99 ?_;refine pm (E) ?_)|refine sb λB j=>?_|refine s2 (λh=>?_) λh=>?_|fail)
    all_goals exact Z _ hb
   |true=>
    rw[O]at E
    repeat' (first|refine st ?_|(refine pf 98 ?_;refine pm (G) ?_)|(refine pf 99 ?_;refine pm (E) ?_)|refine sb λB j=>?_|refine s2 (λh=>?_) λh=>?_|fail)
    refine dt w.conds (λc=>!jD w c.mutex false) (λi=>[.pptr [w.enc] 0 0,.lst (w.conds.map bP.enc),.U1 w.conds.length,.U1 (i:Int)]) UW rfl (λi S hd hi hno nx hn=>?_) (λi S hd hno nx=>?_)
    all_goals refine vw ?_
    .have hx:=am (f:=bP.enc) S;have M:=BQ w w.conds[i].mutex false;have hbad:jD w w.conds[i].mutex false=false->gA (uP w)=false:=λh=>dy λh2=>by rw[h2.mtx _ (Tk S)]at h;cases h
     generalize w.conds[i]=c at *;obtain⟨nm,mx⟩:=c;unfold bP.enc at hx;dsimp only at *;cases hl:jD w mx false with
     |false=>
      rw[hl]at M
      repeat' (first|refine st ?_|(refine pf 100 ?_;refine pm (M) ?_)|refine sb λB j=>?_|refine s2 (λh=>?_) λh=>?_|fail)
      exact Z _ (hbad hl)
     |true=>
      rw[hl]at M
      repeat' (first|refine st ?_|(refine pf 100 ?_;refine pm (M) ?_)|refine sb λB j=>?_|refine s2 (λh=>?_) λh=>?_|fail)
      exact hn (by rw[hl];rfl)
    .repeat' (first|refine st ?_|(refine pf 101 ?_;refine pm (hvs) ?_)|refine sb λB j=>?_|refine s2 (λh=>?_) λh=>?_|fail)
     refine Z _ ?_;cases hs:gA (uO w.threads.length 0 0 w.sites)with
     |false=>exact dy λh=>by rw[eG h.sites]at hs;cases hs
     |true=>have O:=eH.1 O;exact eG ⟨Y,l4,d2,f2,s60,t1,t4,⟨D,N,O.1,O.2⟩,λc hc=>by simpa using hno c hc,eH.1 hs⟩
  .have G:=Iy Y λD h=>N ⟨D,h⟩
   repeat' (first|refine st ?_|(refine pf 98 ?_;refine pm (G) ?_)|refine sb λB j=>?_|refine s2 (λh=>?_) λh=>?_|fail)
   all_goals exact Z _ (dy λh=>by obtain⟨D,S,_⟩:=h.names;exact N ⟨D,S⟩)
 .have hb:gA (uP w)=false:=dy λh=>h0 ⟨h.c12,h.l4,h.d2,h.f2,h.s60,h.t1,h.t4⟩
  repeat' (first|refine st ?_|refine sb λB j=>?_|refine s2 (λh=>?_) λh=>?_|fail)
  all_goals first
   |exact Z _ hb
   |(exfalso;refine h0 ?_;clear Z hb h0;simp only[decide_eq_true_eq,decide_eq_false_iff_not]at *;omega)
structure gS(c:aY):Prop where
 world:uP c.w
 len:c.ts.length=c.w.threads.length
 thr:∀i (h:i<c.ts.length),pF c.w i c.ts[i]
def KR(c:aY)(hl:∀t∈c.ts,t.ins.length<2^48):aq Tryz.prog 26 [.agg c.enc] (.bool (gA (gS c))):=by
 have N:=Iz c.w;have ht:=λi (h:i<c.ts.length)=>yI c.w i c.ts[i] (hl _ (Tk h))
 obtain⟨w,ts⟩:=c;dsimp only at *;refine uE _ _ _ ?_;refine vw ?_;generalize hQ:(λ(u:AV) (K:SH)=>u=AV.bool (gA (gS ⟨w,ts⟩))/\K=[])=Q;have Y:∀b,gA (gS ⟨w,ts⟩)=b->Q (.bool b) []:=λb hb=>by subst hQ;exact⟨by rw[hb],rfl⟩
 clear hQ;cases M:gA (uP w)with
 |false=>
  rw[M]at N
  repeat' (first|refine st ?_|(refine pf 60 ?_;refine pm (N) ?_)|refine sb λD B=>?_|refine s2 (λh=>?_) λh=>?_|fail)
  all_goals exact Y _ (dy λh=>by have:=h.world;rw[eG this]at M;cases M)
 |true=>
  rw[M]at N;have M:=eH.1 M;by_cases E:ts.length=w.threads.length
  .have e1:decide ((ts.length:Int)≠(w.threads.length:Int))=false:=by simp[E]
   have h4:=M.t4
   repeat' (first|refine st ?_|(refine pf 60 ?_;refine pm (N) ?_)|refine sb λD B=>?_|refine s2 (λh=>?_) λh=>?_|fail)
   refine dw ts.length (λk=>∀j (h:j<ts.length),j<k->pF w j ts[j]) (λk=>[.pptr [(⟨w,ts⟩:aY).enc] 0 0,.lst (ts.map eB.enc),.U1 ts.length,.U1 k]) UW (λj h hj=>absurd hj (UM _)) rfl (λk Z hd hi hG nx hn=>?_) (λk Z hd hG nx=>?_)
   all_goals refine vw ?_
   .have hx:=am (f:=eB.enc) Z;have G:=ht k Z;have O:¬pF w k ts[k]->Q (.bool false) []:=λh=>Y _ (dy λh2=>h (h2.thr k Z))
    have hgo:pF w k ts[k]->nx [.pptr [(⟨w,ts⟩:aY).enc] 0 0,.lst (ts.map eB.enc),.U1 ts.length,.U1 ((k+1:Nat):Int)] []:=λh=>hn λj hj hjk=>by
     rcases Tf j k with g|g
     .exact hG j hj g
     .have e:j=k:=by omega
      subst e;exact h
    clear hn hG;generalize ts[k]=c at *;obtain⟨rg,ins⟩:=c;cases S:gA (pF w k ⟨rg,ins⟩)with
    |false=>
     rw[S]at G
     repeat' (first|refine st ?_|(refine pf 61 ?_;refine pm (G) ?_)|refine sb λD B=>?_|refine s2 (λh=>?_) λh=>?_|fail)
     exact O λh=>by rw[eG h]at S;cases S
    |true=>
     rw[S]at G
     repeat' (first|refine st ?_|(refine pf 61 ?_;refine pm (G) ?_)|refine sb λD B=>?_|refine s2 (λh=>?_) λh=>?_|fail)
     exact hgo (eH.1 S)
   .repeat' (first|refine st ?_|refine sb λD B=>?_|refine s2 (λh=>?_) λh=>?_|fail)
    exact Y _ (eG ⟨M,E,λj h=>hG j h (by have:j<ts.length:=h;omega)⟩)
  .have e1:decide ((ts.length:Int)≠(w.threads.length:Int))=true:=by simp;omega
   repeat' (first|refine st ?_|(refine pf 60 ?_;refine pm (N) ?_)|refine sb λD B=>?_|refine s2 (λh=>?_) λh=>?_|fail)
   all_goals exact Y _ (dy λh=>E h.len)
structure cu where
 thread:Int
 kind:Int
 obj:Int
 value:Int
 site:Int
 deps:List Int
 frm:List Int
def cu.enc(e:cu):List AV:=[.U1 e.thread,.U1 e.kind,.U1 e.obj,.U1 e.value,.U1 e.site,.lst (e.deps.map ah),.lst (e.frm.map ah)]
structure cy where
 sync:SyncD
 cells:List Int
 futures:List Int
 threads:List aD
def cy.enc(s:cy):List AV:=[.lst (s.sync.locks.map LockD.enc),.U1 s.sync.tx,.lst (s.sync.done.map aB),.lst (s.sync.threads.map ThrD.enc),.lst (s.cells.map ah),.lst (s.futures.map ah),.lst (s.threads.map aD.enc)]
def eZ(op:Int):Int:=gI.getD op.toNat 0
def ixS(i n:Int):Int:=if n<1 then 0 else if i.tmod n<0 then IntKind.i64.wrap (i.tmod n+n)else i.tmod n
def cS(i:aT)(s:aD)(t:Int):cu:=
 let e:cu:=⟨t,eZ i.op,i.a,0,i.site,[],[]⟩
 if i.op=6\/i.op=27 then {e with obj:=i.b}
 else if i.op=7 then {e with obj:=IntKind.i64.wrap (i.b+ixS (s.reg i.c) i.n),deps:=s.tnt i.c}
 else if i.op=8\/i.op=26 then {e with frm:=s.tnt i.b}
 else if i.op=9 then {e with obj:=IntKind.i64.wrap (i.a+ixS (s.reg i.c) i.n),deps:=s.tnt i.c,frm:=s.tnt i.b}
 else if i.op=10 then {e with obj:=-1,deps:=s.tnt i.a}
 else if i.op=28\/i.op=17\/i.op=18\/i.op=19\/i.op=20 then {e with obj:=-1}
 else e
def ao(c:aY)(t:Int):eB:=c.ts.getD t.toNat ⟨0,[]⟩
def ay(s:cy)(t:Int):aD:=s.threads.getD t.toNat aD.zero
def bH(c:eB)(k:Int):aT:=c.ins.getD k.toNat default
def gT(c:aY)(s:cy)(t:Int):Bool:=
 inB t c.ts.length&&inB t s.threads.length&&inB t s.sync.threads.length&&inB (ay s t).pc (ao c t).ins.length&&decide (((ay s t).regs.length:Int)=(ao c t).regs)&&decide (((ay s t).taint.length:Int)=(ao c t).regs)
def co(c:aY)(s:cy)(t:Int):Option cu:=
 if gT c s t then
  let i:=bH (ao c t) (ay s t).pc
  if(aR s.sync t).status=1 then some ⟨t,1,-1,0,-1,[],[]⟩
  else if(aR s.sync t).status=4 then some ⟨t,17,(aR s.sync t).cond,0,i.site,[],[]⟩
  else if(aR s.sync t).status=2 then(if eZ i.op≠0 then some (cS i (ay s t) t)else none)
  else none
 else none
structure MJ where
 value:Int
 cells:List Int
 futures:List Int
 thread:aD
def iR(l:List Int)(o:Int):Int:=l.getD o.toNat 0
def bY(i:aT)(e:cu)(s:cy)(th:aD)(sv:Int):MJ:=
 let nx:Int:=IntKind.i64.wrap (th.pc+1)
 let ev:Int:=IntKind.i64.wrap (th.ev+1)
 if e.kind=3 then⟨iR s.cells e.obj,s.cells,s.futures,⟨nx,th.regs.set i.a.toNat (iR s.cells e.obj),th.taint.set i.a.toNat [th.ev],ev⟩⟩
 else if e.kind=23 then⟨iR s.futures e.obj,s.cells,s.futures,⟨nx,th.regs.set i.a.toNat (iR s.futures e.obj),th.taint.set i.a.toNat [th.ev],ev⟩⟩
 else if e.kind=4 then⟨th.reg i.b,s.cells.set e.obj.toNat (th.reg i.b),s.futures,⟨nx,th.regs,th.taint,ev⟩⟩
 else if e.kind=22 then⟨th.reg i.b,s.cells,s.futures.set e.obj.toNat (th.reg i.b),⟨nx,th.regs,th.taint,ev⟩⟩
 else if e.kind=5 then(if th.reg i.a≠0 then⟨1,s.cells,s.futures,⟨nx,th.regs,th.taint,ev⟩⟩else⟨e.value,s.cells,s.futures,⟨i.b,th.regs,th.taint,ev⟩⟩)
 else if e.kind=18\/e.kind=19 then⟨sv,s.cells,s.futures,⟨nx,th.regs,th.taint,ev⟩⟩
 else if e.kind=1\/e.kind=16\/e.kind=2 then⟨e.value,s.cells,s.futures,⟨th.pc,th.regs,th.taint,ev⟩⟩
 else⟨e.value,s.cells,s.futures,⟨nx,th.regs,th.taint,ev⟩⟩
def iG(c:aY)(s:cy)(t wake:Int):Option (cy×cu):=
 match co c s t with
 |none=>none
 |some e=>
  if s.cells.length=c.w.cells.length/\s.futures.length=c.w.futures.length then
   let r:=eg c.w s.sync t e.kind e.obj wake
   if r.2.2 then
    let a:=bY (bH (ao c t) (ay s t).pc) e s (ay s t) r.2.1
    let e':={e with value:=a.value}
    if e.kind≠16/\e.kind≠2 then
     let z:=aU (ao c t) a.thread
     if z.2 then some (⟨r.1,a.cells,a.futures,s.threads.set t.toNat z.1⟩,e')else none
    else some (⟨r.1,a.cells,a.futures,s.threads.set t.toNat a.thread⟩,e')
   else none
  else none
def bL(c:aY):cy:=⟨a7 c.w,c.w.cells.map aF.init,List.replicate c.w.futures.length 0,c.ts.map λt=>⟨0,List.replicate t.regs.toNat 0,List.replicate t.regs.toNat [],0⟩⟩
def BT(c:aY)(p:List cu×cy)(ch:cK):List cu×cy:=
 if 400<=p.1.length then p else match iG c p.2 ch.thread ch.wake with
  |none=>p
  |some (n,e)=>(p.1++[e],n)
def ep(c:aY)(l:List cK):List cu×cy:=l.foldl (BT c) ([],bL c)
end Go.Proofs.YtbofdbhnbodbiaaGreatDoor.Am
