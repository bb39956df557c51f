/- A part of the proof; the statement is proved in the last part. -/
import Derived.Test.YtbofdbhnbodbiaaGreatDoorQvq
set_option linter.all false
set_option maxRecDepth 100000
set_option maxHeartbeats 20000000
namespace Go.Proofs.YtbofdbhnbodbiaaGreatDoor.Am
def fx:RF:=nv (bO Tryz.prog Tryz.f15 [(39,⟨[1,2,3,6],[],true,[]⟩),(27,⟨[1,2,3,5],[],true,[]⟩),(15,⟨[1,2,3,4],[],true,[]⟩)] [(0,[1])])
abbrev yM(Q:R):Vs->SH->Kn->Prop:=Lp fx 17 Q 39 []
abbrev yN(Q:R):Vs->SH->Kn->Prop:=Lp fx 18 Q 27 []
abbrev yO(Q:R):Vs->SH->Kn->Prop:=Lp fx 19 Q 15 []
abbrev Ar(a:AV)(L:SH)(Q:R):Prop:=Pc fx 20 Q 0 [] [a] L
def ou(j:AV)(L:SH)(Q:R)(h:Ar j L Q):ac Tryz.prog 15 [j] L Q:=
 fv fx Tryz.func15 h
def l7:RF:=nv (bO Tryz.prog Tryz.f44 [(9,⟨[1,2,3,4],[],true,[]⟩)] [(0,[1])])
abbrev qi(Q:R):Vs->SH->Kn->Prop:=Lp l7 19 Q 9 []
abbrev CC(a:AV)(L:SH)(Q:R):Prop:=Pc l7 20 Q 0 [] [a] L
def As(j:AV)(L:SH)(Q:R)(h:CC j L Q):ac Tryz.prog 44 [j] L Q:=
 fv l7 Tryz.func44 h
def sP:RF:=nv (bO Tryz.prog Tryz.f12 [(12,⟨[2,3,5],[],true,[]⟩)] [(0,[2,3])])
abbrev CD(a b:AV)(L:SH)(Q:R):Prop:=Pc sP 20 Q 0 [] [a,b] L
def At(j t1:AV)(L:SH)(Q:R)(h:CD j t1 L Q):ac Tryz.prog 12 [j,t1] L Q:=
 fv sP Tryz.func12 h
def jR:RF:=nv (bO Tryz.prog Tryz.f34 [(12,⟨[0,1,5],[],true,[]⟩)] [])
abbrev sQ(a b:AV)(L:SH)(Q:R):Prop:=Pc jR 20 Q 0 [] [a,b] L
def ri(j t1:AV)(L:SH)(Q:R)(h:sQ j t1 L Q):ac Tryz.prog 34 [j,t1] L Q:=
 fv jR Tryz.func34 h
def l8:RF:=nv (bO Tryz.prog Tryz.f39 [(12,⟨[2,3,5],[],true,[]⟩)] [(0,[2,3]),(6,[6])])
abbrev Au(Q:R):Vs->SH->Kn->Prop:=Lp l8 19 Q 12 []
abbrev CE(a b:AV)(L:SH)(Q:R):Prop:=Pc l8 20 Q 0 [] [a,b] L
def qj(j t1:AV)(L:SH)(Q:R)(h:CE j t1 L Q):ac Tryz.prog 39 [j,t1] L Q:=
 fv l8 Tryz.func39 h
def sR:RF:=nv (bO Tryz.prog Tryz.f40 [] [])
abbrev CF(a:AV)(L:SH)(Q:R):Prop:=Pc sR 20 Q 0 [] [a] L
def Av(j:AV)(L:SH)(Q:R)(h:CF j L Q):ac Tryz.prog 40 [j] L Q:=
 fv sR Tryz.func40 h
def ov:RF:=nv (bO Tryz.prog Tryz.f41 [(15010,⟨[2,3,6,7],[],true,[]⟩)] [(0,[2,3])])
abbrev yP(a b:AV)(L:SH)(Q:R):Prop:=Pc ov 20 Q 0 [] [a,b] L
def wG(j t1:AV)(L:SH)(Q:R)(h:yP j t1 L Q):ac Tryz.prog 41 [j,t1] L Q:=
 fv ov Tryz.func41 h
def mz:RF:=nv (bO Tryz.prog Tryz.f17 [(72067,⟨[6,8,9,10],[],true,[]⟩),(69064,⟨[6,8,9,10,98],[72067],false,[]⟩)] [(0,[3,4]),(3,[8]),(4,[9])])
abbrev wH(a b c:AV)(L:SH)(Q:R):Prop:=Pc mz 20 Q 0 [] [a,b,c] L
def lf(j t1 t2:AV)(L:SH)(Q:R)(h:wH j t1 t2 L Q):ac Tryz.prog 17 [j,t1,t2] L Q:=
 fv mz Tryz.func17 h
def eZ:RF:=nv (bO Tryz.prog Tryz.f19 [(123118,⟨[4,5,6,7,9,14],[],true,[]⟩),(111106,⟨[3,4,5,6,7,9,14,16],[],true,[]⟩),(102097,⟨[3,4,5,6,7,9,14,15,16],[],true,[]⟩),(54049,⟨[3,4,5,6,7,9,14,15,16,77,78],[102097],false,[]⟩),(2108,⟨[3,4,5,6,7,9,11,12,51],[],true,[]⟩)] [(0,[3,5]),(4,[11]),(10,[15])])
abbrev fy(Q:R):Vs->SH->Prop:=Jp eZ 16 Q 123118 []
abbrev kj(Q:R):Vs->SH->Prop:=Jp eZ 17 Q 111106 []
abbrev gR(Q:R):Vs->SH->Prop:=Jp eZ 18 Q 102097 []
abbrev qk(Q:R)(a b c d e f g h i:AV)(j:SH):Prop:=Pc eZ 19 Q 2108 [] [d,a,c,g,h,e,b,f,i] j
abbrev CG(a b c:AV)(L:SH)(Q:R):Prop:=Pc eZ 20 Q 0 [] [a,b,c] L
def ql(j t1 t2:AV)(L:SH)(Q:R)(h:CG j t1 t2 L Q):ac Tryz.prog 19 [j,t1,t2] L Q:=
 fv eZ Tryz.func19 h
def jS:RF:=nv (bO Tryz.prog Tryz.f20 [] [(0,[2,3])])
abbrev sS(a b:AV)(L:SH)(Q:R):Prop:=Pc jS 20 Q 0 [] [a,b] L
def rj(j t1:AV)(L:SH)(Q:R)(h:sS j t1 L Q):ac Tryz.prog 20 [j,t1] L Q:=
 fv jS Tryz.func20 h
def lg:RF:=nv (bO Tryz.prog Tryz.f46 [(12,⟨[0,1,5],[],true,[]⟩)] [])
abbrev uD(a b:AV)(L:SH)(Q:R):Prop:=Pc lg 20 Q 0 [] [a,b] L
def sT(j t1:AV)(L:SH)(Q:R)(h:uD j t1 L Q):ac Tryz.prog 46 [j,t1] L Q:=
 fv lg Tryz.func46 h
def sU(l:List Int)(O:l.length<2^62):aq Tryz.prog 46 [.lst (l.map ah),.lst (l.map ah)] (.bool true):=by
 refine sT _ _ _ _ ?_;refine vw ?_;generalize D:(λ(u:AV) (K:SH)=>u=AV.bool true/\K=[])=Q;have M:Q (.bool true) []:=by subst D;exact⟨rfl,rfl⟩
 clear D;have d0:decide ((l.length:Int)≠(l.length:Int))=false:=by simp
 repeat' (first|refine st ?_|refine sb λB j=>?_|refine s2 (λh=>?_) λh=>?_|fail)
 refine eB l.length (λ_=>True) (λi=>[.lst (l.map ah),.lst (l.map ah),.Uf i]) O trivial rfl (λi E S Z _ G N=>?_) (λi E S _ G=>?_)
 all_goals refine vw ?_
 .have Y:=ao (f:=ah) E;have d1:decide (l[i]≠l[i])=false:=by simp
  repeat' (first|refine st ?_|refine sb λB j=>?_|refine s2 (λh=>?_) λh=>?_|fail)
  exact N trivial
 .repeat' (first|refine st ?_|refine sb λB j=>?_|refine s2 (λh=>?_) λh=>?_|fail)
  exact M
def iN(e:da)(h:No e):aq Tryz.prog 20 [.agg e.enc,.agg e.enc] (.bool true):=by
 have G:=sU e.deps (by have:=h.1;omega);have s2:=sU e.frm (by have:=h.2;omega);refine ac.fz (rj _ _ _ _ ?_);refine vw ?_;generalize B:(λ(v:AV) (L:SH)=>∃j E,az [v] L [j] E/\j=AV.bool true/\E=[])=Q;have N:∀L,Q (.bool true) L:=λL=>by subst B;exact⟨_,[],az.all (.refl _),rfl,rfl⟩
 clear B h;obtain⟨e1,e2,D,e4,e5,d,f⟩:=e;unfold da.enc;dsimp only at *;have d1:decide (e1=e1)=true:=decide_eq_true rfl;have Z:decide (e2=e2)=true:=decide_eq_true rfl;have Y:decide (D=D)=true:=decide_eq_true rfl;have S:decide (e4=e4)=true:=decide_eq_true rfl;have O:decide (e5=e5)=true:=decide_eq_true rfl
 repeat' (first|refine st ?_|(refine pf 46 ?_;refine pm (G) ?_)|(refine pf 46 ?_;refine pm (s2) ?_)|refine sb λM u=>?_|refine s2 (λh=>?_) λh=>?_|fail)
 exact N _
def yQ:RF:=nv (bO Tryz.prog Tryz.f124 [] [])
abbrev F0(a b:AV)(L:SH)(Q:R):Prop:=Pc yQ 20 Q 0 [] [a,b] L
def Et(j t1:AV)(L:SH)(Q:R)(h:F0 j t1 L Q):ac Tryz.prog 124 [j,t1] L Q:=
 fv yQ Tryz.func124 h
def qm:RF:=nv (bO Tryz.prog Tryz.f125 [(96091,⟨[2,3,79],[],true,[]⟩),(87082,⟨[2,3,7,71],[],true,[]⟩),(78073,⟨[2,3,7,61],[],true,[]⟩),(63058,⟨[2,3,7,43],[],true,[]⟩),(48043,⟨[2,3,7,26],[],true,[]⟩),(39034,⟨[2,3,7,18],[],true,[]⟩),(30025,⟨[2,3,7,8],[],true,[]⟩)] [(0,[3])])
abbrev Aw(a b c:AV)(L:SH)(Q:R):Prop:=Pc qm 20 Q 0 [] [a,b,c] L
def yR(j t1 t2:AV)(L:SH)(Q:R)(h:Aw j t1 t2 L Q):ac Tryz.prog 125 [j,t1,t2] L Q:=
 fv qm Tryz.func125 h
def sV:RF:=nv (bO Tryz.prog Tryz.f71 [(6,⟨[2,3,5],[],true,[]⟩)] [(0,[2,3])])
abbrev CH(a b:AV)(L:SH)(Q:R):Prop:=Pc sV 20 Q 0 [] [a,b] L
def Ax(j t1:AV)(L:SH)(Q:R)(h:CH j t1 L Q):ac Tryz.prog 71 [j,t1] L Q:=
 fv sV Tryz.func71 h
def ip:RF:=nv (bO Tryz.prog Tryz.f76 [(105100,⟨[2,4,5,6,70,160],[],true,[]⟩),(63058,⟨[2,4,5,6,11,70,119],[],true,[]⟩),(902,⟨[2,3,4,5,6],[],true,[]⟩)] [(0,[5,6]),(3,[11])])
abbrev sW(Q:R)(a:SH)(b c d e f:AV):Prop:=Pc ip 19 Q 902 [] [b,c,d,f,e] a
abbrev wI(a b c d e:AV)(L:SH)(Q:R):Prop:=Pc ip 20 Q 0 [] [a,b,c,d,e] L
def uE(u t1 t2 t3 j:AV)(L:SH)(Q:R)(h:wI u t1 t2 t3 j L Q):ac Tryz.prog 76 [u,t1,t2,t3,j] L Q:=
 fv ip Tryz.func76 h
def vz:RF:=nv (bO Tryz.prog Tryz.f81 [(6,⟨[0,1,5],[],true,[]⟩)] [])
abbrev Eu(a b:AV)(L:SH)(Q:R):Prop:=Pc vz 20 Q 0 [] [a,b] L
def CI(j t1:AV)(L:SH)(Q:R)(h:Eu j t1 L Q):ac Tryz.prog 81 [j,t1] L Q:=
 fv vz Tryz.func81 h
def sX:RF:=nv (bO Tryz.prog Tryz.f77 [(9,⟨[1,2,3,4],[],true,[]⟩)] [(0,[1])])
abbrev CJ(a:AV)(L:SH)(Q:R):Prop:=Pc sX 20 Q 0 [] [a] L
def Ay(j:AV)(L:SH)(Q:R)(h:CJ j L Q):ac Tryz.prog 77 [j] L Q:=
 fv sX Tryz.func77 h
def mA:RF:=nv (bO Tryz.prog Tryz.f79 [(9,⟨[0,1,5,6],[],true,[]⟩)] [])
abbrev wJ(a b:AV)(L:SH)(Q:R):Prop:=Pc mA 20 Q 0 [] [a,b] L
def uF(j t1:AV)(L:SH)(Q:R)(h:wJ j t1 L Q):ac Tryz.prog 79 [j,t1] L Q:=
 fv mA Tryz.func79 h
def mB:RF:=nv (bO Tryz.prog Tryz.f80 [(9,⟨[1,2,5,6],[],true,[]⟩)] [(0,[2])])
abbrev wK(a b:AV)(L:SH)(Q:R):Prop:=Pc mB 20 Q 0 [] [a,b] L
def uG(j t1:AV)(L:SH)(Q:R)(h:wK j t1 L Q):ac Tryz.prog 80 [j,t1] L Q:=
 fv mB Tryz.func80 h
def km:RF:=nv (bO Tryz.prog Tryz.f43 [(165160,⟨[7,12,15],[],true,[]⟩),(126121,⟨[7,12,17],[165160],false,[]⟩),(138,⟨[7,12,18,19],[165160],false,[]⟩),(48043,⟨[2,4,5,6,7,12,15,30,54],[165160],false,[]⟩),(39034,⟨[2,4,5,6,7,12,15,30,45],[165160],false,[]⟩),(908,⟨[2,3,4,5,6,7,12,29],[],true,[]⟩)] [(0,[6])])
abbrev mC(Q:R)(a b c d e f g h:AV)(i:SH):Prop:=Pc km 19 Q 908 [] [b,a,c,d,g,e,f,h] i
abbrev qn(a b c d e f:AV)(L:SH)(Q:R):Prop:=Pc km 20 Q 0 [] [a,b,c,d,e,f] L
def yS(B t1 t2 t3 u j:AV)(L:SH)(Q:R)(h:qn B t1 t2 t3 u j L Q):ac Tryz.prog 43 [B,t1,t2,t3,u,j] L Q:=
 fv km Tryz.func43 h
def fB:RF:=nv (bO Tryz.prog Tryz.f37 [(51046,⟨[1,2,3,6,7],[33],false,[]⟩),(33,⟨[1,2,3,6],[],true,[]⟩),(21,⟨[1,2,3,5],[],true,[]⟩),(9,⟨[1,2,3,4],[],true,[]⟩)] [(0,[1])])
abbrev yT(Q:R):Vs->SH->Kn->Prop:=Lp fB 17 Q 33 []
abbrev yU(Q:R):Vs->SH->Kn->Prop:=Lp fB 18 Q 21 []
abbrev yV(Q:R):Vs->SH->Kn->Prop:=Lp fB 19 Q 9 []
abbrev Az(a:AV)(L:SH)(Q:R):Prop:=Pc fB 20 Q 0 [] [a] L
def yW(j:AV)(L:SH)(Q:R)(h:Az j L Q):ac Tryz.prog 37 [j] L Q:=
 fv fB Tryz.func37 h
def sY:RF:=nv (bO Tryz.prog Tryz.f33 [(42,⟨[2,3,7],[],true,[]⟩),(27,⟨[2,3,6],[],true,[]⟩),(12,⟨[2,3,5],[],true,[]⟩)] [(0,[2,3])])
abbrev CK(a b:AV)(L:SH)(Q:R):Prop:=Pc sY 20 Q 0 [] [a,b] L
def AA(j t1:AV)(L:SH)(Q:R)(h:CK j t1 L Q):ac Tryz.prog 33 [j,t1] L Q:=
 fv sY Tryz.func33 h
def oz:RF:=nv (bO Tryz.prog Tryz.f83 [] [])
abbrev yX(a:AV)(L:SH)(Q:R):Prop:=Pc oz 20 Q 0 [] [a] L
def mD(j:AV)(L:SH)(Q:R)(h:yX j L Q):ac Tryz.prog 83 [j] L Q:=
 fv oz Tryz.func83 h
def vA:RF:=nv (bO Tryz.prog Tryz.f126 [(6,⟨[0,1,5],[],true,[]⟩)] [])
abbrev Ev(a b:AV)(L:SH)(Q:R):Prop:=Pc vA 20 Q 0 [] [a,b] L
def CL(j t1:AV)(L:SH)(Q:R)(h:Ev j t1 L Q):ac Tryz.prog 126 [j,t1] L Q:=
 fv vA Tryz.func126 h
def qo:RF:=nv (bO Tryz.prog Tryz.f78 [(21,⟨[1,5,7],[],true,[]⟩),(9,⟨[0,1,5,6],[],true,[]⟩)] [])
abbrev AB(a b:AV)(L:SH)(Q:R):Prop:=Pc qo 20 Q 0 [] [a,b] L
def yY(j t1:AV)(L:SH)(Q:R)(h:AB j t1 L Q):ac Tryz.prog 78 [j,t1] L Q:=
 fv qo Tryz.func78 h
def yZ{k:IntKind}{m d:Nat}:cC (some (.int k (m:Int))) d=some m:=by simp[cC,ky]
def sZ{α:Type}{f:α->List AV}{l:List α}{n i:Nat}{k:IntKind}{L:SH}{K:AV->Prop}(u:∀x,(f x).length=n)(B:i<=l.length)(h:K (.lst ((l.take i).map f))):W.slice n (.lst (l.map f)) none (some (.int k (i:Int))) none L K:=by
 refine oS (l:=0) (h:=i) rfl yZ (SL _) (by simpa using B) (λr j=>?_) ?_
 .cases l with
  |nil=>cases j
  |cons x l=>simp at j;rw[<-j];exact u x
 .rw[List.drop_zero,Nat.sub_zero,<-List.map_take];exact h
def s5{α:Type}{f:α->List AV}{l:List α}{n i:Nat}{k:IntKind}{L:SH}{K:AV->Prop}(u:∀x,(f x).length=n)(B:i<=l.length)(h:K (.lst ((l.drop i).map f))):W.slice n (.lst (l.map f)) (some (.int k (i:Int))) none none L K:=by
 refine oS (l:=i) (h:=(l.map f).length) yZ rfl (by simpa using B) (Fd _) (λr j=>?_) ?_
 .cases l with
  |nil=>cases j
  |cons x l=>simp at j;rw[<-j];exact u x
 .rw[SX Ud,<-List.map_drop];exact h
def Ew{b B i k n by_:Nat}{rows m:List (List AV)}{L D:SH}{KL:AV->SH->Prop}(N:(B,(⟨n,m⟩:Blk))∈L)(u:eJ b ⟨n,rows⟩ L D)(E:rows.length=i)(G:k=m.length)(h2:2*(i+m.length)*by_<=2^48)(O:2*(i+m.length)<=2^62)(h4:(m.all λr=>r.all AV.one)=true)
  (h:∀j,j∉L.names->KL (.sl j 0 (i+m.length)) ((j,⟨n,rows++m⟩)::D)):W.append n by_ (.sl b 0 i) (.sl B 0 k) L KL:=by
 subst G;subst E;exact jF (y:=⟨n,rows⟩) (l:=rows) u.mem' rfl Ud Ud (jG N rfl rfl) h2 O h4 u (λj M=>h j M)
def CM(l:List Int)(n:Int):List Int:=l.takeWhile λx=>decide (x<n)
def jT(l:List Int)(n:Int):List Int:=l.dropWhile λx=>decide (x<n)
def oA(l:List Int)(n:Int):List Int:=if(jT l n).head? =some n then l else CM l n++n::jT l n
def y5(l:List Int)(n:Int):CM l n++jT l n=l:=List.takeWhile_append_dropWhile
def CN:∀(l:List Int) (n:Int) (i:Nat),(∀x∈l.take i,x<n)->(∀x,(l.drop i).head? =some x->¬x<n)->CM l n=l.take i/\jT l n=l.drop i
 |[],n,i,_,_=>by simp[CM,jT]
 | x::l,n,0,_,h2=>by have:¬x<n:=h2 x rfl;simp[CM,jT,this]
 | x::l,n,i+1,h1,h2=>by have u:x<n:=h1 x Ud;obtain⟨e1,e2⟩:=CN l n i (λy j=>h1 y (by simp[j])) (λy j=>h2 y (by simpa using j));unfold CM at e1 ⊢;unfold jT at e2 ⊢;simp[u,e1,e2]
def Hd(l:List Int)(n:Int)(hl:l.length<2^41):aq Tryz.prog 126 [.lst (l.map ah),.Uf n] (.lst ((oA l n).map ah)):=by
 refine ac.fz (CL _ _ _ _ ?_);refine vw ?_;generalize hQ:(λ(v:AV) (L:SH)=>∃S L2,az [v] L [S] L2/\S=AV.lst ((oA l n).map ah)/\L2=[])=Q;refine iR l.length (λi=>([.lst (l.map ah),.Uf n,.Uf i],[])) (λi=>∀x∈l.take i,x<n) Ud rfl rfl ?_;intro i hi O;dsimp only;refine vw ?_;have fin:∀(b:Nat) (L:SH) (k:Nat),k=(l.take i).length+1+(l.drop i).length->CM l n=l.take i/\jT l n=l.drop i->¬(jT l n).head? =some n->(b,(⟨1,((l.take i).map ah++[[.Uf n]])++(l.drop i).map ah⟩:Blk))∈L->Q (.sl b 0 k) L:=λb L k hk u E hm=>by
  subst hQ;have e:oA l n=l.take i++n::l.drop i:=by unfold oA;rw[if_neg E,u.1,u.2]
  exact⟨_,[],az.all (Fz.sls (l:=oA l n) hm (by rw[e];simp[ah]) Ue (by rw[hk,e];simp;omega)),rfl,rfl⟩
 rcases Fn i l.length with M|M
 .have hd:=aW M;have G:=ao (f:=ah) M;have N:l.take (i+1)=l.take i++[l[i]]:=Sw M;have D:(l.drop i).head? =some l[i]:=by rw[TA M];rfl
  have hlt:(l.take i).length=i:=by simp;omega
  cases Z:decide (l[i]<n)with
  |true=>
   repeat' (first|refine st ?_|refine sb λB j=>?_|refine s2 (λh=>?_) λh=>?_|fail)
   exact⟨i+1,Ua,Ua,λx G=>by
    rw[N]at G;rcases SC.1 G with h|h
    .exact O x h
    .simp at h;subst h;exact of_decide_eq_true Z,df (by rw[ax M Ua]<;>rfl) rfl⟩
  |false=>
   have u:=CN l n i O (λx G=>by rw[D]at G;cases G;exact of_decide_eq_false Z);cases Y:decide (l[i]=n)with
   |true=>
    repeat' (first|refine st ?_|refine sb λB j=>?_|refine s2 (λh=>?_) λh=>?_|fail)
    subst hQ;have e:oA l n=l:=by unfold oA;rw[if_pos];rw[u.2,D,of_decide_eq_true Y]
    exact⟨_,[],az.all (.refl _),by rw[e]<;>rfl,rfl⟩
   |false=>
    have E:¬(jT l n).head? =some n:=by rw[u.2,D];intro h;cases h;simp at Y
    repeat' (first|refine st ?_|refine sZ (λ_=>rfl) Ua ?_|refine s5 (λ_=>rfl) Ua ?_|refine ga rp (λ_=>rfl) Ud (by simp;omega) (by simp;omega) (λ_=>rfl) (λB j=>?_)|refine Ew rp rp Ud Uc (by simp;omega) (by simp;omega) Uc (λB j=>?_)|refine sb λB j=>?_|refine s2 (λh=>?_) λh=>?_|fail)
    exact fin _ _ _ Ud u E (by simp[cF])
 .have hd:=aX M;have hi0:i=l.length:=by omega
  have D:(l.drop i).head? =none:=by rw[List.drop_eq_nil_of_le M];rfl
  have u:=CN l n i O (λx G=>by rw[D]at G;cases G);have E:¬(jT l n).head? =some n:=by rw[u.2,D];nofun
  repeat' (first|refine st ?_|refine sZ (λ_=>rfl) Ua ?_|refine s5 (λ_=>rfl) Ua ?_|refine ga rp (λ_=>rfl) Ud (by simp;omega) (by simp;omega) (λ_=>rfl) (λB j=>?_)|refine Ew rp rp Ud Uc (by simp;omega) (by simp;omega) Uc (λB j=>?_)|refine sb λB j=>?_|refine s2 (λh=>?_) λh=>?_|fail)
  exact fin _ _ _ Ud u E (by simp[cF])
def Ko(l:List Int)(n:Int):(oA l n).length<=l.length+1:=by
 unfold oA;split
 .omega
 .have:=congrArg List.length (y5 l n);simp only[SD,SQ]at this ⊢;omega
def Kq{l:List Int}{n:Int}(h:l.Pairwise (·<·)):(oA l n).Pairwise (·<·):=by
 unfold oA;split
 .exact h
 .rename_i u;have Y:=y5 l n;rw[<-Y]at h;obtain⟨h1,G,Z⟩:=List.pairwise_append.1 h;have B:∀x∈CM l n,x<n:=λx D=>by unfold CM at D;have:=SM.1 (List.all_takeWhile (p:=λx=>decide (x<n)) (l:=l)) x D;exact of_decide_eq_true this
  refine List.pairwise_append.2 ⟨h1,List.pairwise_cons.2 ⟨?_,G⟩,?_⟩
  .cases M:jT l n with
   |nil=>intro y j;cases j
   |cons x r=>
    rw[M]at u G;have D:¬x<n:=by
     have:(jT l n).head? =some x:=by rw[M];rfl
     unfold jT at this;have O:=List.head?_dropWhile_not (p:=λx=>decide (x<n)) l;rw[this]at O;simpa using O
    have S:x≠n:=λe=>u (by rw[e];rfl)
    intro y j;rcases SB.1 j with rfl|j
    .omega
    .have:=(List.pairwise_cons.1 G).1 y j;omega
  .intro a N b E;rcases SB.1 E with rfl|E
   .exact B a N
   .exact Z a N b E
def Kr{l:List Int}{n x:Int}:x∈oA l n↔x∈l\/x=n:=by
 unfold oA;have j:=y5 l n;split
 .rename_i u;constructor
  .exact .inl
  .rintro(h|rfl)
   .exact h
   .rw[<-j];exact SP _ (List.mem_of_mem_head? u)
 .constructor
  .intro h;rcases SC.1 h with h|h
   .left;rw[<-j];exact Tt _ h
   .rcases SB.1 h with h|h
    .exact .inr h
    .left;rw[<-j];exact SP _ h
  .rintro(h|rfl)
   .rw[<-j]at h;rcases SC.1 h with h|h
    .exact Tt _ h
    .exact SP _ (Tv _ h)
   .exact SP _ T5
def puts(l m:List Int):List Int:=m.foldl oA l
def Ey:∀(m:List Int) {l:List Int},l.Pairwise (·<·)->(puts l m).Pairwise (·<·)
 |[],_,h=>h
 |x::m,_,h=>Ey m (Kq h)
def Ez:∀(m:List Int) {l:List Int} {x:Int},x∈puts l m↔x∈l\/x∈m
 |[],l,x=>by simp[puts]
 | y::m,l,x=>by
  have:=Ez m (l:=oA l y) (x:=x);unfold puts at this ⊢;rw[TL,this,Kr];simp only[SB];constructor
  .rintro((h|h)|h)
   .exact .inl h
   .exact .inr (.inl h)
   .exact .inr (.inr h)
  .rintro(h|h|h)
   .exact .inl (.inl h)
   .exact .inl (.inr h)
   .exact .inr h
def y6:∀(m l:List Int),(puts l m).length<=l.length+m.length
 |[],l=>by simp[puts]
 | y::m,l=>by have j:=y6 m (oA l y);have u:=Ko l y;unfold puts at j ⊢;rw[TL,SQ];omega
def Mh(m:List Int):puts [] m=z7 m:=L6 (Ey m .nil) (G4 m) λx=>by rw[Ez,Cl];simp
def By(l m:List Int)(x:Int):puts l (m++[x])=oA (puts l m) x:=by unfold puts;rw[List.foldl_append];rfl
def Ks(l m r:List Int):puts l (m++r)=puts (puts l m) r:=by unfold puts;rw[List.foldl_append]
def Bz(a b:List Int)(ha:a.length<2^40)(hb:b.length<2^40):aq Tryz.prog 78 [.lst (a.map ah),.lst (b.map ah)] (.lst ((z7 (a++b)).map ah)):=by
 refine ac.fz (yY _ _ _ _ ?_);refine vw ?_;generalize hQ:(λ(v:AV) (L:SH)=>∃N Y,az [v] L [N] Y/\N=AV.lst ((z7 (a++b)).map ah)/\Y=[])=Q;refine bD a.length (λi (_:Unit)=>([.lst (a.map ah),.lst (b.map ah),.lst ((puts [] (a.take i)).map ah),.Uf i],[])) (λ_ _=>True) () trivial (az.vals (.cons (.refl _) (.cons (.refl _) (.cons .nils (.cons (.refl _) .nil))))) ?_;rintro i _ hi _;dsimp only;refine vw ?_;have G:=y6 (a.take i) [];have htl:(a.take i).length<=a.length:=by rw[List.length_take];exact Nat.min_le_right _ _
 simp only[S2]at G;rcases Fn i a.length with E|E
 .have M:=aW E;have Z:=ao (f:=ah) E;have hp:=Hd (puts [] (a.take i)) a[i] Ua
  repeat' (first|refine st ?_|(refine pf 126 ?_;refine pm (hp) ?_)|refine sb λB u=>?_|refine s2 (λh=>?_) λh=>?_|fail)
  exact⟨i+1,(),Ua,Ua,trivial,df (by rw[ax E Ua,Sw E,By]<;>rfl) rfl⟩
 .have M:=aX E
  repeat' (first|refine st ?_|refine sb λB u=>?_|refine s2 (λh=>?_) λh=>?_|fail)
  rw[List.take_of_length_le E]at *;refine iR b.length (λi=>([.lst (b.map ah),.lst ((puts (puts [] a) (b.take i)).map ah),.Uf i],[])) (λ_=>True) trivial rfl rfl ?_;intro j hj _;dsimp only;refine vw ?_;have S:=y6 (b.take j) (puts [] a);have O:(b.take j).length<=b.length:=by rw[List.length_take];exact Nat.min_le_right _ _
  rcases Fn j b.length with D|D
  .have M:=aW D;have Z:=ao (f:=ah) D;have hp:=Hd (puts (puts [] a) (b.take j)) b[j] Ua
   repeat' (first|refine st ?_|(refine pf 126 ?_;refine pm (hp) ?_)|refine sb λB u=>?_|refine s2 (λh=>?_) λh=>?_|fail)
   exact⟨j+1,Ua,Ua,trivial,df (by rw[ax D Ua,Sw D,By]<;>rfl) rfl⟩
  .have M:=aX D;rw[SX D,<-Ks,Mh]
   repeat' (first|refine st ?_|refine sb λB u=>?_|refine s2 (λh=>?_) λh=>?_|fail)
   subst hQ;exact⟨_,[],az.all (.refl _),rfl,rfl⟩
end Go.Proofs.YtbofdbhnbodbiaaGreatDoor.Am
