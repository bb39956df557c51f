/- A part of the proof; the statement is proved in the last part. -/
import Derived.Test.YtbofdbhnbodbiaaGreatDoorQur
set_option linter.all false
set_option maxRecDepth 100000
set_option maxHeartbeats 20000000
namespace Go.Proofs.YtbofdbhnbodbiaaGreatDoor.Am
def j4:RF:=nv (bO Tryz.prog Tryz.f31 [(87,⟨[2,3,10],[],true,[]⟩),(72,⟨[2,3,9],[],true,[]⟩),(57,⟨[2,3,8],[],true,[]⟩),(42,⟨[2,3,7],[],true,[]⟩),(27,⟨[2,3,6],[],true,[]⟩),(12,⟨[2,3,5],[],true,[]⟩)] [(0,[2,3])])
abbrev tw(a b:AV)(L:SH)(Q:R):Prop:=Pc j4 20 Q 0 [] [a,b] L
def rG(j t1:AV)(L:SH)(Q:R)(h:tw j t1 L Q):ac Tryz.prog 31 [j,t1] L Q:=
 fv j4 Tryz.func31 h
def oL:RF:=nv (bO Tryz.prog Tryz.f83 [] [])
abbrev zn(a:AV)(L:SH)(Q:R):Prop:=Pc oL 20 Q 0 [] [a] L
def mO(j:AV)(L:SH)(Q:R)(h:zn j L Q):ac Tryz.prog 83 [j] L Q:=
 fv oL Tryz.func83 h
def vX:RF:=nv (bO Tryz.prog Tryz.f126 [(6,⟨[0,1,5],[],true,[]⟩)] [])
abbrev E0(a b:AV)(L:SH)(Q:R):Prop:=Pc vX 20 Q 0 [] [a,b] L
def Di(j t1:AV)(L:SH)(Q:R)(h:E0 j t1 L Q):ac Tryz.prog 126 [j,t1] L Q:=
 fv vX Tryz.func126 h
def qy:RF:=nv (bO Tryz.prog Tryz.f78 [(21,⟨[1,5,7],[],true,[]⟩),(9,⟨[0,1,5,6],[],true,[]⟩)] [])
abbrev AY(a b:AV)(L:SH)(Q:R):Prop:=Pc qy 20 Q 0 [] [a,b] L
def zo(j t1:AV)(L:SH)(Q:R)(h:AY j t1 L Q):ac Tryz.prog 78 [j,t1] L Q:=
 fv qy Tryz.func78 h
def zq{k:IntKind}{m d:Nat}:cC (some (.int k (m:Int))) d=some m:=by simp[cC,kK]
def tz{α:Type}{f:α->List AV}{l:List α}{n i:Nat}{k:IntKind}{L:SH}{K:AV->Prop}(u:∀x,(f x).length=n)(B:i<=l.length)(h:K (.lst ((l.take i).map f))):W.slice n (.lst (l.map f)) none (some (.int k (i:Int))) none L K:=by
 refine o9 (l:=0) (h:=i) rfl zq (TG _) (by simpa using B) (λr j=>?_) ?_
 .cases l with
  |nil=>cases j
  |cons x l=>simp at j;rw[<-j];exact u x
 .rw[List.drop_zero,Nat.sub_zero,<-List.map_take];exact h
def tB{α:Type}{f:α->List AV}{l:List α}{n i:Nat}{k:IntKind}{L:SH}{K:AV->Prop}(u:∀x,(f x).length=n)(B:i<=l.length)(h:K (.lst ((l.drop i).map f))):W.slice n (.lst (l.map f)) (some (.int k (i:Int))) none none L K:=by
 refine o9 (l:=i) (h:=(l.map f).length) zq rfl (by simpa using B) (Te _) (λr j=>?_) ?_
 .cases l with
  |nil=>cases j
  |cons x l=>simp at j;rw[<-j];exact u x
 .rw[TH UZ,<-List.map_drop];exact h
def E1{b B i k n by_:Nat}{rows m:List (List AV)}{L D:SH}{KL:AV->SH->Prop}(N:(B,(⟨n,m⟩:Blk))∈L)(u:eO b ⟨n,rows⟩ L D)(E:rows.length=i)(G:k=m.length)(h2:2*(i+m.length)*by_<=2^48)(O:2*(i+m.length)<=2^62)(h4:(m.all λr=>r.all AV.one)=true)
  (h:∀j,j∉L.names->KL (.sl j 0 (i+m.length)) ((j,⟨n,rows++m⟩)::D)):W.append n by_ (.sl b 0 i) (.sl B 0 k) L KL:=by
 subst G;subst E;exact jM (y:=⟨n,rows⟩) (l:=rows) u.mem' rfl UZ UZ (jN N rfl rfl) h2 O h4 u (λj M=>h j M)
def Dj(l:List Int)(n:Int):List Int:=l.takeWhile λx=>decide (x<n)
def j5(l:List Int)(n:Int):List Int:=l.dropWhile λx=>decide (x<n)
def oM(l:List Int)(n:Int):List Int:=if(j5 l n).head? =some n then l else Dj l n++n::j5 l n
def zr(l:List Int)(n:Int):Dj l n++j5 l n=l:=List.takeWhile_append_dropWhile
def Dk:∀(l:List Int) (n:Int) (i:Nat),(∀x∈l.take i,x<n)->(∀x,(l.drop i).head? =some x->¬x<n)->Dj l n=l.take i/\j5 l n=l.drop i
 |[],n,i,_,_=>by simp[Dj,j5]
 | x::l,n,0,_,h2=>by have:¬x<n:=h2 x rfl;simp[Dj,j5,this]
 | x::l,n,i+1,h1,h2=>by have u:x<n:=h1 x UZ;obtain⟨e1,e2⟩:=Dk l n i (λy j=>h1 y (by simp[j])) (λy j=>h2 y (by simpa using j));unfold Dj at e1 ⊢;unfold j5 at e2 ⊢;simp[u,e1,e2]
def HK(l:List Int)(n:Int)(hl:l.length<2^41):aq Tryz.prog 126 [.lst (l.map ah),.U1 n] (.lst ((oM l n).map ah)):=by
 refine ac.fz (Di _ _ _ _ ?_);refine vw ?_;generalize hQ:(λ(v:AV) (L:SH)=>∃S L2,az [v] L [S] L2/\S=AV.lst ((oM l n).map ah)/\L2=[])=Q;refine iY l.length (λi=>([.lst (l.map ah),.U1 n,.U1 i],[])) (λi=>∀x∈l.take i,x<n) UZ rfl rfl ?_;intro i hi O;dsimp only;refine vw ?_;have fin:∀(b:Nat) (L:SH) (k:Nat),k=(l.take i).length+1+(l.drop i).length->Dj l n=l.take i/\j5 l n=l.drop i->¬(j5 l n).head? =some n->(b,(⟨1,((l.take i).map ah++[[.U1 n]])++(l.drop i).map ah⟩:Blk))∈L->Q (.sl b 0 k) L:=λb L k hk u E hm=>by
  subst hQ;have e:oM l n=l.take i++n::l.drop i:=by unfold oM;rw[if_neg E,u.1,u.2]
  exact⟨_,[],az.all (Fz.sls (l:=oM l n) hm (by rw[e];simp[ah]) U0 (by rw[hk,e];simp;omega)),rfl,rfl⟩
 rcases Tf i l.length with M|M
 .have hd:=aS M;have G:=am (f:=ah) M;have N:l.take (i+1)=l.take i++[l[i]]:=Th M;have D:(l.drop i).head? =some l[i]:=by rw[Uu M];rfl
  have hlt:(l.take i).length=i:=by simp;omega
  cases Z:decide (l[i]<n)with
  |true=>
   repeat' (first|refine st ?_|refine sb λB j=>?_|refine s2 (λh=>?_) λh=>?_|fail)
   exact⟨i+1,UW,UW,λx G=>by
    rw[N]at G;rcases Tn.1 G with h|h
    .exact O x h
    .simp at h;subst h;exact of_decide_eq_true Z,dq (by rw[aw M UW]<;>rfl) rfl⟩
  |false=>
   have u:=Dk l n i O (λx G=>by rw[D]at G;cases G;exact of_decide_eq_false Z);cases Y:decide (l[i]=n)with
   |true=>
    repeat' (first|refine st ?_|refine sb λB j=>?_|refine s2 (λh=>?_) λh=>?_|fail)
    subst hQ;have e:oM l n=l:=by unfold oM;rw[if_pos];rw[u.2,D,of_decide_eq_true Y]
    exact⟨_,[],az.all (.refl _),by rw[e]<;>rfl,rfl⟩
   |false=>
    have E:¬(j5 l n).head? =some n:=by rw[u.2,D];intro h;cases h;simp at Y
    repeat' (first|refine st ?_|refine tz (λ_=>rfl) UW ?_|refine tB (λ_=>rfl) UW ?_|refine gp rp (λ_=>rfl) UZ (by simp;omega) (by simp;omega) (λ_=>rfl) (λB j=>?_)|refine E1 rp rp UZ UY (by simp;omega) (by simp;omega) UY (λB j=>?_)|refine sb λB j=>?_|refine s2 (λh=>?_) λh=>?_|fail)
    exact fin _ _ _ UZ u E (by simp[cF])
 .have hd:=aX M;have hi0:i=l.length:=by omega
  have D:(l.drop i).head? =none:=by rw[List.drop_eq_nil_of_le M];rfl
  have u:=Dk l n i O (λx G=>by rw[D]at G;cases G);have E:¬(j5 l n).head? =some n:=by rw[u.2,D];nofun
  repeat' (first|refine st ?_|refine tz (λ_=>rfl) UW ?_|refine tB (λ_=>rfl) UW ?_|refine gp rp (λ_=>rfl) UZ (by simp;omega) (by simp;omega) (λ_=>rfl) (λB j=>?_)|refine E1 rp rp UZ UY (by simp;omega) (by simp;omega) UY (λB j=>?_)|refine sb λB j=>?_|refine s2 (λh=>?_) λh=>?_|fail)
  exact fin _ _ _ UZ u E (by simp[cF])
def K3(l:List Int)(n:Int):(oM l n).length<=l.length+1:=by
 unfold oM;split
 .omega
 .have:=congrArg List.length (zr l n);simp only[Tp,TC]at this ⊢;omega
def K4{l:List Int}{n:Int}(h:l.Pairwise (·<·)):(oM l n).Pairwise (·<·):=by
 unfold oM;split
 .exact h
 .rename_i u;have Y:=zr l n;rw[<-Y]at h;obtain⟨h1,G,Z⟩:=List.pairwise_append.1 h;have B:∀x∈Dj l n,x<n:=λx D=>by unfold Dj at D;have:=Tv.1 (List.all_takeWhile (p:=λx=>decide (x<n)) (l:=l)) x D;exact of_decide_eq_true this
  refine List.pairwise_append.2 ⟨h1,List.pairwise_cons.2 ⟨?_,G⟩,?_⟩
  .cases M:j5 l n with
   |nil=>intro y j;cases j
   |cons x r=>
    rw[M]at u G;have D:¬x<n:=by
     have:(j5 l n).head? =some x:=by rw[M];rfl
     unfold j5 at this;have O:=List.head?_dropWhile_not (p:=λx=>decide (x<n)) l;rw[this]at O;simpa using O
    have S:x≠n:=λe=>u (by rw[e];rfl)
    intro y j;rcases To.1 j with rfl|j
    .omega
    .have:=(List.pairwise_cons.1 G).1 y j;omega
  .intro a N b E;rcases To.1 E with rfl|E
   .exact B a N
   .exact Z a N b E
def K5{l:List Int}{n x:Int}:x∈oM l n↔x∈l\/x=n:=by
 unfold oM;have j:=zr l n;split
 .rename_i u;constructor
  .exact .inl
  .rintro(h|rfl)
   .exact h
   .rw[<-j];exact TA _ (List.mem_of_mem_head? u)
 .constructor
  .intro h;rcases Tn.1 h with h|h
   .left;rw[<-j];exact Uh _ h
   .rcases To.1 h with h|h
    .exact .inr h
    .left;rw[<-j];exact TA _ h
  .rintro(h|rfl)
   .rw[<-j]at h;rcases Tn.1 h with h|h
    .exact Uh _ h
    .exact TA _ (Uj _ h)
   .exact TA _ UR
def puts(l m:List Int):List Int:=m.foldl oM l
def E2:∀(m:List Int) {l:List Int},l.Pairwise (·<·)->(puts l m).Pairwise (·<·)
 |[],_,h=>h
 |x::m,_,h=>E2 m (K4 h)
def E3:∀(m:List Int) {l:List Int} {x:Int},x∈puts l m↔x∈l\/x∈m
 |[],l,x=>by simp[puts]
 | y::m,l,x=>by
  have:=E3 m (l:=oM l y) (x:=x);unfold puts at this ⊢;rw[Ut,this,K5];simp only[To];constructor
  .rintro((h|h)|h)
   .exact .inl h
   .exact .inr (.inl h)
   .exact .inr (.inr h)
  .rintro(h|h|h)
   .exact .inl (.inl h)
   .exact .inl (.inr h)
   .exact .inr h
def zt:∀(m l:List Int),(puts l m).length<=l.length+m.length
 |[],l=>by simp[puts]
 | y::m,l=>by have j:=zt m (oM l y);have u:=K3 l y;unfold puts at j ⊢;rw[Ut,TC];omega
def MQ(m:List Int):puts [] m=Aq m:=ME (E2 m .nil) (HD m) λx=>by rw[E3,CN];simp
def B0(l m:List Int)(x:Int):puts l (m++[x])=oM (puts l m) x:=by unfold puts;rw[List.foldl_append];rfl
def K6(l m r:List Int):puts l (m++r)=puts (puts l m) r:=by unfold puts;rw[List.foldl_append]
def B1(a b:List Int)(ha:a.length<2^40)(hb:b.length<2^40):aq Tryz.prog 78 [.lst (a.map ah),.lst (b.map ah)] (.lst ((Aq (a++b)).map ah)):=by
 refine ac.fz (zo _ _ _ _ ?_);refine vw ?_;generalize hQ:(λ(v:AV) (L:SH)=>∃N Y,az [v] L [N] Y/\N=AV.lst ((Aq (a++b)).map ah)/\Y=[])=Q;refine bz a.length (λi (_:Unit)=>([.lst (a.map ah),.lst (b.map ah),.lst ((puts [] (a.take i)).map ah),.U1 i],[])) (λ_ _=>True) () trivial (az.vals (.cons (.refl _) (.cons (.refl _) (.cons .nils (.cons (.refl _) .nil))))) ?_;rintro i _ hi _;dsimp only;refine vw ?_;have G:=zt (a.take i) [];have htl:(a.take i).length<=a.length:=by rw[List.length_take];exact Nat.min_le_right _ _
 simp only[TQ]at G;rcases Tf i a.length with E|E
 .have M:=aS E;have Z:=am (f:=ah) E;have hp:=HK (puts [] (a.take i)) a[i] UW
  repeat' (first|refine st ?_|(refine pf 126 ?_;refine pm (hp) ?_)|refine sb λB u=>?_|refine s2 (λh=>?_) λh=>?_|fail)
  exact⟨i+1,(),UW,UW,trivial,dq (by rw[aw E UW,Th E,B0]<;>rfl) rfl⟩
 .have M:=aX E
  repeat' (first|refine st ?_|refine sb λB u=>?_|refine s2 (λh=>?_) λh=>?_|fail)
  rw[List.take_of_length_le E]at *;refine iY b.length (λi=>([.lst (b.map ah),.lst ((puts (puts [] a) (b.take i)).map ah),.U1 i],[])) (λ_=>True) trivial rfl rfl ?_;intro j hj _;dsimp only;refine vw ?_;have S:=zt (b.take j) (puts [] a);have O:(b.take j).length<=b.length:=by rw[List.length_take];exact Nat.min_le_right _ _
  rcases Tf j b.length with D|D
  .have M:=aS D;have Z:=am (f:=ah) D;have hp:=HK (puts (puts [] a) (b.take j)) b[j] UW
   repeat' (first|refine st ?_|(refine pf 126 ?_;refine pm (hp) ?_)|refine sb λB u=>?_|refine s2 (λh=>?_) λh=>?_|fail)
   exact⟨j+1,UW,UW,trivial,dq (by rw[aw D UW,Th D,B0]<;>rfl) rfl⟩
  .have M:=aX D;rw[TH D,<-K6,MQ]
   repeat' (first|refine st ?_|refine sb λB u=>?_|refine s2 (λh=>?_) λh=>?_|fail)
   subst hQ;exact⟨_,[],az.all (.refl _),rfl,rfl⟩
def qz:RF:=nv (bO Tryz.prog Tryz.f165 [] [])
abbrev AZ(a:AV)(L:SH)(Q:R):Prop:=Pc qz 20 Q 0 [] [a] L
def zu(j:AV)(L:SH)(Q:R)(h:AZ j L Q):ac Tryz.prog 165 [j] L Q:=
 fv qz Tryz.func165 h
def qA:RF:=nv (bO Tryz.prog Tryz.f127 [] [])
abbrev A0(a b:AV)(L:SH)(Q:R):Prop:=Pc qA 20 Q 0 [] [a,b] L
def zw(j t1:AV)(L:SH)(Q:R)(h:A0 j t1 L Q):ac Tryz.prog 127 [j,t1] L Q:=
 fv qA Tryz.func127 h
def oN:RF:=nv (bO Tryz.prog Tryz.f129 [] [])
abbrev zx(a b c:AV)(L:SH)(Q:R):Prop:=Pc oN 20 Q 0 [] [a,b,c] L
def w9(j t1 t2:AV)(L:SH)(Q:R)(h:zx j t1 t2 L Q):ac Tryz.prog 129 [j,t1,t2] L Q:=
 fv oN Tryz.func129 h
def tC:RF:=nv (bO Tryz.prog Tryz.f82 [(9,⟨[1,2,3,4],[],true,[]⟩)] [(0,[1])])
abbrev Dl(a:AV)(L:SH)(Q:R):Prop:=Pc tC 20 Q 0 [] [a] L
def A3(j:AV)(L:SH)(Q:R)(h:Dl j L Q):ac Tryz.prog 82 [j] L Q:=
 fv tC Tryz.func82 h
def lz:RF:=nv (bO Tryz.prog Tryz.f128 [] [])
abbrev u3(a:AV)(L:SH)(Q:R):Prop:=Pc lz 20 Q 0 [] [a] L
def tD(j:AV)(L:SH)(Q:R)(h:u3 j L Q):ac Tryz.prog 128 [j] L Q:=
 fv lz Tryz.func128 h
def gw:RF:=nv (bO Tryz.prog Tryz.f84 [(69034,⟨[2,3,4,8,9,10],[],true,[]⟩),(2102,⟨[2,3,4],[],true,[]⟩),(9,⟨[2,3,4,6,7],[],true,[]⟩)] [(0,[2])])
abbrev kE(Q:R):Vs->SH->Prop:=Jp gw 17 Q 69034 []
abbrev A4(Q:R)(a:SH)(b c d:AV):Prop:=Pc gw 18 Q 2102 [] [b,c,d] a
abbrev A5(Q:R):Vs->SH->Kn->Prop:=Lp gw 19 Q 9 []
abbrev Dm(a b:AV)(L:SH)(Q:R):Prop:=Pc gw 20 Q 0 [] [a,b] L
def fJ(j t1:AV)(L:SH)(Q:R)(h:Dm j t1 L Q):ac Tryz.prog 84 [j,t1] L Q:=
 fv gw Tryz.func84 h
def jo:RF:=nv (bO Tryz.prog Tryz.f45 [(15,⟨[2,3,4,6],[],true,[]⟩)] [(0,[2]),(9,[7]),(14,[8])])
abbrev xc(Q:R):Vs->SH->Kn->Prop:=Lp jo 19 Q 15 []
abbrev zy(a b:AV)(L:SH)(Q:R):Prop:=Pc jo 20 Q 0 [] [a,b] L
def xd(j t1:AV)(L:SH)(Q:R)(h:zy j t1 L Q):ac Tryz.prog 45 [j,t1] L Q:=
 fv jo Tryz.func45 h
def jp:RF:=nv (bO Tryz.prog Tryz.f35 [(27,⟨[2,3,6],[],true,[]⟩),(12,⟨[2,3,5],[],true,[]⟩)] [(0,[2,3])])
abbrev rH(a b:AV)(L:SH)(Q:R):Prop:=Pc jp 20 Q 0 [] [a,b] L
def pS(j t1:AV)(L:SH)(Q:R)(h:rH j t1 L Q):ac Tryz.prog 35 [j,t1] L Q:=
 fv jp Tryz.func35 h
def B2(b:Bool):aq Tryz.prog 165 [.bool b] (.U1 (i7 b)):=by
 refine zu _ _ _ ?_;refine vw ?_;cases b
 all_goals
  repeat' (first|refine st ?_|refine sb λu j=>?_|refine s2 (λh=>?_) λh=>?_|fail)
  exact⟨rfl,rfl⟩
def IL(op a:Int):aq Tryz.prog 127 [.U1 op,.U1 a] (re (yw op a)):=by
 refine zw _ _ _ _ ?_;refine vw ?_;generalize D:(λ(u:AV) (K:SH)=>u=re (yw op a)/\K=[])=Q
 repeat' (first|refine st ?_|(refine pf 165 ?_;refine pm (B2 _) ?_)|refine sb λB j=>?_|refine s2 (λh=>?_) λh=>?_|fail)
 all_goals
  subst D;refine⟨?_,rfl⟩;simp_all[yw,re]
def Gy(op a b:Int):aq Tryz.prog 129 [.U1 op,.U1 a,.U1 b] (re (iQ op a b)):=by
 refine w9 _ _ _ _ _ ?_;refine vw ?_;generalize D:(λ(u:AV) (K:SH)=>u=re (iQ op a b)/\K=[])=Q
 repeat' (first|refine st ?_|(refine pf 165 ?_;refine pm (B2 _) ?_)|refine sb λB j=>?_|refine s2 (λh=>?_) λh=>?_|fail)
 all_goals
  subst D;refine⟨?_,rfl⟩;simp_all[iQ,re]
def az.pickV{vs j:List AV}{L R:SH}(h:fE L R)(u:∀K,eP K vs j):az vs L j R:=by obtain⟨K,B⟩:=h.perm;exact az.drop B (u K).at_.1 (u K).at_.2
def E4(s:aD)(h1:s.regs.length<2^40)(h2:s.taint.length<2^40)(h3:∀l∈s.taint,l.length<=2^30):ac Tryz.prog 82 [.agg s.enc] [] (xw s):=by
 refine ac.fz (A3 _ _ _ ?_);refine vw ?_;generalize hQ:(λ(v:AV) (L:SH)=>∃v2 L2,az [v] L [v2] L2/\xw s v2 L2)=Q
 repeat' (first|refine st ?_|refine gp rp (λ_=>rfl) UY (by simp;omega) (by simp;omega) (λ_=>rfl) (λB u=>?_)|refine sb λB u=>?_|refine s2 (λh=>?_) λh=>?_|fail)
 rename_i _ _ b2 _ _ _ E _;rw[Nat.zero_add];revert B;intro Z _;refine bz s.taint.length (λi (o:Option Nat)=>([.pptr [s.enc] 0 0,.ptr b2 0 0,.ptr Z 0 0,.U1 i],(Z,⟨4,[[.U1 s.pc,.sl E 0 s.regs.length,aj o i,.U1 s.ev]]⟩)::(E,⟨1,s.regs.map ah⟩)::(b2,⟨4,[[.U1 0,.nils,.nils,.U1 0]]⟩)::ab o 1 ((s.taint.take i).map bC))) (λi o=>o=none->i=0) none (λ_=>rfl) (az.box (K:=[]) (.refl _) (.cons (.refl _) (.cons (.refl _) (.cons .nile (.cons (.refl _) .nil))))) ?_;intro i o hi ho;dsimp only;refine vw ?_;have D:((s.taint.take i).map bC).length=i:=by simp;omega
 have h0:o=none->(s.taint.take i).map bC=[]:=λe=>by rw[ho e];rfl
 rcases Tf i s.taint.length with M|M
 .have hd:=aS M;have hx:=am (f:=bC) M;have hr:=h3 _ (Tk M)
  repeat' (first|refine st ?_|refine gp rp (λ_=>rfl) UY (by simp;omega) (by simp;omega) (λ_=>rfl) (λB u=>?_)|refine bA rp rp D h0 UY UZ (by simp;omega) (by simp;omega) UY (λB u=>?_)|refine sb λB u=>?_|refine s2 (λh=>?_) λh=>?_|fail)
  rename_i br _ _ _;refine⟨i+1,some B,UW,UW,nofun,?_⟩;refine az.rowA (A:=[(Z,_),(E,_),(b2,_)]) (b:=B) (R:=[]) (rows':=(s.taint.take (i+1)).map bC) rp ?_ ?_ (by rw[aw M UW]<;>rfl)
  .simp;omega
  .intro j r r' N G;rw[Th M,Ti]at G;rcases Tf j i with S|S
   .rw[Tq (by rw[D];exact S)]at N G;rw[N]at G;cases G;exact eP.refl _ _
   .rw[Tm (by rw[D];exact S),D]at N G;generalize j-i=k at N G
    match k with
    |0=>cases N;cases G;exact .cons (Fz.sls (l:=s.taint[i]) rp rfl U0 UZ) .nil
    |k+1=>simp at N
 .have hd:=aX M;have Y:i=s.taint.length:=by omega
  subst Y;rw[TH (Te _)];have O:o=none->s.taint=[]:=λe=>T9.1 (ho e)
  cases o with
  |none=>
   dsimp only[aj,ab]
   repeat' (first|refine st ?_|refine sb λB u=>?_|refine s2 (λh=>?_) λh=>?_|fail)
   subst hQ;exact⟨.agg [.U1 s.pc,.sl E 0 s.regs.length,.lst [],.U1 s.ev],_,az.pickV (R:=[(E,_)]) rp (λK=>.cons (Fz.aggs (.cons (.refl _) (.cons (.refl _) (.cons .emp (.cons (.refl _) .nil))))) .nil),some E,none,rfl,rfl,nofun,O⟩
  |some bl=>
   dsimp only[aj,ab]
   repeat' (first|refine st ?_|refine sb λB u=>?_|refine s2 (λh=>?_) λh=>?_|fail)
   subst hQ;exact⟨_,_,az.pick (R:=[(E,_),(bl,_)]) rp rfl,some E,some bl,rfl,rfl,nofun,O⟩
def j6:RF:=nv (bO Tryz.prog Tryz.f54 [(51046,⟨[1,4,37],[],true,[]⟩),(30025,⟨[1,4,13],[],true,[]⟩),(21016,⟨[1,4,5],[],true,[]⟩)] [(0,[1])])
abbrev tE(a:AV)(L:SH)(Q:R):Prop:=Pc j6 20 Q 0 [] [a] L
def rI(j:AV)(L:SH)(Q:R)(h:tE j L Q):ac Tryz.prog 54 [j] L Q:=
 fv j6 Tryz.func54 h
def ml(i:aT):aq Tryz.prog 54 [.agg i.enc] (.lst ((aO i).map ah)):=by
 obtain⟨op,u,j,D,n,B⟩:=i;refine ac.fz (rI _ _ _ ?_);refine vw ?_;generalize N:(λ(v:AV) (L:SH)=>∃G O,az [v] L [G] O/\G=AV.lst ((aO ⟨op,u,j,D,n,B⟩).map ah)/\O=[])=Q;have E:∀(l:List Int),aO ⟨op,u,j,D,n,B⟩=l->∀v L,Fz L v (.lst (l.map ah))->Q v L:=λl Y v L h=>by subst N;exact⟨_,[],az.all h,by rw[Y],rfl⟩
 clear N
 repeat' (first|refine st ?_|refine sb λS M=>?_|refine s2 (λh=>?_) λh=>?_|fail)
 all_goals first
  |exact E [u] (by simp_all[aO];done) _ _ (Fz.sls (l:=[u]) (f:=ah) (.head _) rfl U0 rfl)
  |exact E [j] (by simp_all[aO];done) _ _ (Fz.sls (l:=[j]) (f:=ah) (.head _) rfl U0 rfl)
  |exact E [u,j] (by simp_all[aO];done) _ _ (Fz.sls (l:=[u,j]) (f:=ah) (.head _) rfl U0 rfl)
  |exact E [u,D] (by simp_all[aO];done) _ _ (Fz.sls (l:=[u,D]) (f:=ah) (.head _) rfl U0 rfl)
  |exact E [j,D] (by simp_all[aO];done) _ _ (Fz.sls (l:=[j,D]) (f:=ah) (.head _) rfl U0 rfl)
  |exact E [u,j,D] (by simp_all[aO];done) _ _ (Fz.sls (l:=[u,j,D]) (f:=ah) (.head _) rfl U0 rfl)
  |exact E [] (by simp_all[aO];done) _ _ .nils
def vY(n:Int):aq Tryz.prog 128 [.U1 n] (.U1 (Ku n)):=by
 refine tD _ _ _ ?_;refine vw ?_;generalize D:(λ(u:AV) (K:SH)=>u=AV.U1 (Ku n)/\K=[])=Q
 repeat' (first|refine st ?_|refine sb λB j=>?_|refine s2 (λh=>?_) λh=>?_|fail)
 all_goals
  subst D;refine⟨?_,rfl⟩;simp_all[Ku]<;>omega
def Gz(op:Int):Bool:=decide (1<=op)&&decide (op<=5)
def IM(op:Int):aq Tryz.prog 83 [.U1 op] (.bool (Gz op)):=by
 refine mO _ _ _ ?_;refine vw ?_;generalize D:(λ(u:AV) (K:SH)=>u=AV.bool (Gz op)/\K=[])=Q
 repeat' (first|refine st ?_|refine sb λB j=>?_|refine s2 (λh=>?_) λh=>?_|fail)
 all_goals
  subst D;refine⟨?_,rfl⟩;simp_all[Gz]<;>omega
def oO(r:Option aD)(o t:Option Nat)(v:AV)(L:SH):Prop:=
 match r with
 |none=>v=.tup [.agg jP,.bool false]\/∃s3:aD,v=.tup [.agg (cY s3 o t),.bool false]
 |some s2=>v=.tup [.agg (cY s2 o t),.bool true]/\L=ab o 1 (s2.regs.map ah)++ab t 1 (s2.taint.map bC)
def lB(s:aD)(o t:Option Nat)(ho:o=none->s.regs=[])(hsm:s.regs.length<2^40)(i:aT)(G E:Nat)(R:SH)(Q:AV->SH->Prop)(l:List Int)(hl:l.length<2^40)
  (B:l.all s.has=false->∀L,Q (.tup [.agg jP,.bool false]) L)
  (j:l.all s.has=true->A4 Q ((E,⟨4,[jP]⟩)::(G,⟨4,[cY s o t]⟩)::R) (.pptr [i.enc] 0 0) (.ptr G 0 0) (.ptr E 0 0)) :
  W.loop (A5 Q) [.pptr [i.enc] 0 0,.ptr G 0 0,.ptr E 0 0,.lst (l.map ah),.U1 (0:Nat)] ((E,⟨4,[jP]⟩)::(G,⟨4,[cY s o t]⟩)::R):=by
 refine iY l.length (λk=>([.pptr [i.enc] 0 0,.ptr G 0 0,.ptr E 0 0,.lst (l.map ah),.U1 k],(E,⟨4,[jP]⟩)::(G,⟨4,[cY s o t]⟩)::R)) (λk=>∀x∈l.take k,s.has x=true) UZ rfl rfl ?_;intro k hk hG;dsimp only;refine vw ?_;rcases Nat.lt_or_ge k l.length with D|D
 .have hd:=aS D;have S:=am (f:=ah) D;have Z:l.take (k+1)=l.take k++[l[k]]:=Th D;have no:s.has l[k]=false->l.all s.has=false:=λh=>by rw[List.all_eq_false];exact⟨_,Tk D,by simp[h]⟩
  have M:s.has l[k]=true->∀x∈l.take (k+1),s.has x=true:=λh x S=>by
   rw[Z]at S;rcases Tn.1 S with Y|Y
   .exact hG x Y
   .simp at Y;rw[Y];exact h
  cases o with
  |none=>
   have h0:=ho rfl;have h00:s.has l[k]=false:=by simp[aD.has,inB,h0]
   unfold cY;dsimp only[aK]
   repeat' (first|refine st ?_|refine sb λN u=>?_|refine s2 (λh=>?_) λh=>?_|fail)
   all_goals first|exact B (no h00) _|skip
   all_goals
    exfalso;simp_all
    try omega
  |some b1=>
   have O:s.has l[k]=(decide (0<=l[k])&&decide (l[k]<(s.regs.length:Int))):=rfl;unfold cY;dsimp only[aK]
   repeat' (first|refine st ?_|refine sb λN u=>?_|refine s2 (λh=>?_) λh=>?_|fail)
   all_goals first|exact B (no (by rw[O];simp_all<;>omega)) _|exact⟨k+1,UW,UW,M (by rw[O];simp_all<;>omega),dq (by rw[aw D UW]<;>rfl) rfl⟩
 .have hd:=aX D;have hk0:k=l.length:=by omega
  subst hk0;have j:=j (Tv.2 λx S=>hG x (by simpa using S))
  repeat' (first|exact j|refine st ?_|refine sb λN u=>?_|refine s2 (λh=>?_) λh=>?_|fail)
def MR{b i n by_:Nat}{rows:List (List AV)}{L B:SH}{KL:AV->SH->Prop}(u:eO b ⟨n,rows⟩ L B)(D:rows.length=i)(h2:2*i*by_<=2^48)(G:2*i<=2^62)(h:∀j,j∉L.names->KL (.sl j 0 i) ((j,⟨n,rows⟩)::B)):W.append n by_ (.sl b 0 i) .nils L KL:=by subst D;exact jM (y:=⟨n,rows⟩) (l:=rows) (m:=[]) u.mem' rfl UZ UZ rfl (by simpa using h2) (by simpa using G) rfl u (λj E=>by simpa using h j E)
def xz(s:aD)(op a ib ic n site v:Int)(k:Nat)(u:List Int)(hu:u.length<=2^31)(E b2 S b4:Nat)(Y:Bool)(ha:a=k)(hal:k<s.regs.length)(O:k<s.taint.length)(h13:S≠E)(h23:S≠b2)(x:AV)(hx:x=.nils/\u=[]\/x=.lst (u.map ah))(Q:AV->SH->Prop)
  (hq:∀vv L,(∃v2 L2,az [vv] L [v2] L2/\oO (if Y then some (s.put a v u)else none) (some E) (some b2) v2 L2)->Q vv L) :
  kE Q [.pptr [(aT.mk op a ib ic n site).enc] 0 0,.ptr S 0 0,.ptr b4 0 0,.U1 v,.bool Y,x] [(b4,⟨4,[jP]⟩),(S,⟨4,[cY s (some E) (some b2)]⟩),(E,⟨1,s.regs.map ah⟩),(b2,⟨1,s.taint.map bC⟩)]:=by
 subst ha;have hxa:=am (f:=ah) hal;have hya:=am (f:=bC) O;have e1:(s.put k v u).regs.map ah=(s.regs.map ah).set k [.U1 v]:=by simp[aD.put,Ue,ah]
 have e2:(s.put k v u).taint.map bC=(s.taint.map bC).set k [.lst (u.map ah)]:=by simp[aD.put,Ue,bC]
 have e3:cY (s.put k v u) (some E) (some b2)=[.U1 (IntKind.i64.wrap (s.pc+1)),.sl E 0 s.regs.length,.sl b2 0 s.taint.length,.U1 s.ev]:=by simp[cY,aD.put,aK]
 have fin:∀(Z m:Nat) (L:SH) (c3 c4:Blk) (r:List AV),r=[.sl Z 0 m]->m=u.length->uo L ([(E,⟨1,(s.regs.map ah).set k [.U1 v]⟩)]++(b2,⟨1,(s.taint.map bC).set k r⟩)::[]) [(Z,⟨1,u.map ah⟩),(b4,c4),(S,c3)]->Q (.tup [.agg [.U1 (IntKind.i64.wrap (s.pc+1)),.sl E 0 s.regs.length,.sl b2 0 s.taint.length,.U1 s.ev],.bool Y]) L:=by
  intro Z m L c3 c4 r hr hm M;subst hr;refine hq _ _ ?_;cases Y with
  |false=>exact⟨_,[],az.all (.refl _),.inr ⟨s.put k v u,by rw[e3]⟩⟩
  |true=>
   refine⟨.tup [.agg (cY (s.put k v u) (some E) (some b2)),.bool true],[(E,⟨1,(s.regs.map ah).set k [.U1 v]⟩),(b2,⟨1,(s.taint.map bC).set k [.lst (u.map ah)]⟩)],?_,rfl,?_⟩
   .refine az.rowA (A:=[(E,_)]) (b:=b2) (R:=[]) (rows':=(s.taint.map bC).set k [.lst (u.map ah)]) M UZ (λj r r' N G=>?_) (by rw[e3]);rw[TF]at N G;by_cases hj:k=j
    .rw[if_pos hj]at N G;rw[if_pos (by simp;omega)]at N G;cases N;cases G;exact .cons (Fz.sls (l:=u) (.head _) rfl U0 hm) .nil
    .rw[if_neg hj]at N G;rw[N]at G;cases G;exact eP.refl _ _
   .rw[e1,e2];rfl
 refine vw ?_;rcases hx with⟨rfl,rfl⟩|rfl
 .repeat' (first|refine st ?_|refine MR rp rfl U0 U0 (λB D=>?_)|refine sb λB D=>?_|refine s2 (λh=>?_) λh=>?_|fail)
  exact fin B 0 _ _ _ _ rfl rfl rp
 .repeat' (first|refine st ?_|refine gp rp (λ_=>rfl) UY (by simp;omega) (by simp;omega) (λ_=>rfl) (λB D=>?_)|refine sb λB D=>?_|refine s2 (λh=>?_) λh=>?_|fail)
  exact fin B (0+u.length) _ _ _ _ rfl UZ rp
end Go.Proofs.YtbofdbhnbodbiaaGreatDoor.Am
