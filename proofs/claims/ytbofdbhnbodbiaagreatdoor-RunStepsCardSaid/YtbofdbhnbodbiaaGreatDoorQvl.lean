/- A part of the proof; the statement is proved in the last part. -/
import Derived.Test.YtbofdbhnbodbiaaGreatDoorQvk
set_option linter.all false
set_option maxRecDepth 100000
set_option maxHeartbeats 20000000
namespace Go.Proofs.YtbofdbhnbodbiaaGreatDoor.Am
def ss:RF:=nv (bO Tryz.prog Tryz.f175 [] [])
abbrev Cn(a:AV)(L:SH)(Q:R):Prop:=Pc ss 20 Q 0 [] [a] L
def z8(j:AV)(L:SH)(Q:R)(h:Cn j L Q):ac Tryz.prog 175 [j] L Q:=
 fv ss Tryz.func175 h
def su:RF:=nv (bO Tryz.prog Tryz.f147 [] [])
abbrev Co(a b:AV)(L:SH)(Q:R):Prop:=Pc su 20 Q 0 [] [a,b] L
def Aa(j t1:AV)(L:SH)(Q:R)(h:Co j t1 L Q):ac Tryz.prog 147 [j,t1] L Q:=
 fv su Tryz.func147 h
def pY:RF:=nv (bO Tryz.prog Tryz.f148 [] [])
abbrev Ab(a b c:AV)(L:SH)(Q:R):Prop:=Pc pY 20 Q 0 [] [a,b,c] L
def yk(j t1 t2:AV)(L:SH)(Q:R)(h:Ab j t1 t2 L Q):ac Tryz.prog 148 [j,t1,t2] L Q:=
 fv pY Tryz.func148 h
def nK:RF:=nv (bO Tryz.prog Tryz.f164 [] [])
abbrev yl(a b:AV)(L:SH)(Q:R):Prop:=Pc nK 20 Q 0 [] [a,b] L
def wm(j t1:AV)(L:SH)(Q:R)(h:yl j t1 L Q):ac Tryz.prog 164 [j,t1] L Q:=
 fv nK Tryz.func164 h
def iX:RF:=nv (bO Tryz.prog Tryz.f122 [(12,⟨[1,2,3,15,16,17],[],true,[]⟩)] [])
abbrev wo(Q:R):Vs->SH->Kn->Prop:=Lp iX 19 Q 12 []
abbrev ym(a:AV)(L:SH)(Q:R):Prop:=Pc iX 20 Q 0 [] [a] L
def wq(j:AV)(L:SH)(Q:R)(h:ym j L Q):ac Tryz.prog 122 [j] L Q:=
 fv iX Tryz.func122 h
def iY:RF:=nv (bO Tryz.prog Tryz.f163 [] [])
abbrev qP(a b:AV)(L:SH)(Q:R):Prop:=Pc iY 20 Q 0 [] [a,b] L
def pe(j t1:AV)(L:SH)(Q:R)(h:qP j t1 L Q):ac Tryz.prog 163 [j,t1] L Q:=
 fv iY Tryz.func163 h
def kT:RF:=nv (bO Tryz.prog Tryz.f123 [(78073,⟨[2,4,6],[],true,[]⟩),(73,⟨[2,4,6],[],true,[]⟩)] [(0,[2,3])])
abbrev uf(a b:AV)(L:SH)(Q:R):Prop:=Pc kT 20 Q 0 [] [a,b] L
def dB(j t1:AV)(L:SH)(Q:R)(h:uf j t1 L Q):ac Tryz.prog 123 [j,t1] L Q:=
 fv kT Tryz.func123 h
def ij:RF:=nv (bO Tryz.prog Tryz.f75 [(18,⟨[2,3,4,6],[],true,[]⟩)] [(0,[2]),(8,[7])])
abbrev ug(Q:R):Vs->SH->Kn->Prop:=Lp ij 19 Q 18 []
abbrev wu(a b:AV)(L:SH)(Q:R):Prop:=Pc ij 20 Q 0 [] [a,b] L
def uh(j t1:AV)(L:SH)(Q:R)(h:wu j t1 L Q):ac Tryz.prog 75 [j,t1] L Q:=
 fv ij Tryz.func75 h
def oX(xs:List Int)(B:xs.length*8<=140737488355328):ac Tryz.prog 121 [.lst (xs.map ah)] [] λv L=>∃o,v=aJ o xs.length/\L=ab o 1 (xs.map ah)/\(o=none->xs=[]):=by refine(tV (λA n c xs w D G u E=>cloneJ_any A n c xs w D G u E) ⟨_,_,Tryz.func121,rfl⟩ (xs.map ah) (by simp[ah,AV.one]) (λr j=>by obtain⟨x,_,rfl⟩:=Tl.1 j;rfl) (by simpa using B)).mono ?_;rintro v L ⟨o,rfl,rfl,h⟩;exact⟨o,Ud,rfl,λe=>by simpa using h e⟩
def cZ(xs:List Int)(B:xs.length*8<=140737488355328):aq Tryz.prog 113 [.lst (xs.map ah)] (.lst (xs.map ah)):=by refine ac.fz ((Be xs B).mono ?_);rintro v L ⟨o,rfl,rfl,u⟩;exact⟨_,[],az.all (Fz.slot (f:=ah) rfl (λe=>by rw[u e];rfl) Ue (λy _=>rfl) (λy _ q a E D j=>by rw[D]at j;cases j;exact .refl _)),rfl,rfl⟩
def xc(s:aC)(v:AV)(L:SH):Prop:=
 ∃(o t:Option Nat),v=.agg [.Uf s.pc,aJ o s.regs.length,aJ t s.taint.length,.Uf s.ev]/\L=ab o 1 (s.regs.map ah)++ab t 1 (s.taint.map bz)/\(o=none->s.regs=[])/\(t=none->s.taint=[])
def mn(t:List (List Int))(k:Nat):List (List AV):=(t.take k).map bz++List.replicate (t.length-k) [.nils]
def HX(t:List (List Int))(k:Nat)(j:k<=t.length):(mn t k).length=t.length:=by simp[mn];omega
def JW(t:List (List Int))(k:Nat)(B:k<t.length):(mn t k)[k]? =some [.nils]:=by
 unfold mn;have u:((t.take k).map bz).length=k:=by simp;omega
 rw[SA Ua,u,T7];obtain⟨m,j⟩:∃m,t.length-k=m+1:=⟨t.length-k-1,Ua⟩;rw[j];rfl
def Br(t:List (List Int))(k:Nat)(B:k<t.length):(mn t k).set k (bz t[k])=mn t (k+1):=by
 unfold mn;have u:((t.take k).map bz).length=k:=by simp;omega
 rw[List.set_append_right _ _ Ua,u,T7];obtain⟨m,j⟩:∃m,t.length-k=m+1:=⟨t.length-k-1,Ua⟩;rw[j,List.replicate_succ,List.set_cons_zero,Sw B,show t.length-(k+1)=m by omega,LT,S3];rfl
def FO(s:aC)(h1:s.regs.length<2^40)(h2:s.taint.length<2^40)(h3:∀l∈s.taint,l.length<=2^30):ac Tryz.prog 122 [.agg s.enc] [] (xc s):=by
 refine ac.fz (wq _ _ _ ?_);refine vw ?_;generalize hQ:(λ(v:AV) (L:SH)=>∃O Y,az [v] L [O] Y/\xc s O Y)=Q
 repeat' (first|refine st ?_|refine sb λu j=>?_|refine s2 (λh=>?_) λh=>?_|fail)
 rename_i G _;revert u;intro E _;refine nD (oX s.regs Ua) ?_;rintro v K ⟨o,rfl,rfl,ho⟩;refine vw ?_;have fin:∀(B:Nat) (L:SH),(∃x y:Blk,L=(B,⟨1,s.taint.map bz⟩)::(E,x)::(G,y)::ab o 1 (s.regs.map ah))->Q (.agg [.Uf s.pc,aJ o s.regs.length,.sl B 0 s.taint.length,.Uf s.ev]) L:=by rintro B L ⟨x,y,rfl⟩;subst hQ;refine⟨_,_,az.forget (K:=[(E,x),(G,y)]) (R:=ab o 1 (s.regs.map ah)++[(B,⟨1,s.taint.map bz⟩)]) ?_,o,some B,rfl,rfl,ho,nofun⟩;refine(List.Perm.trans (List.Perm.swap _ _ _) ?_);refine List.Perm.cons _ ((List.Perm.swap _ _ _).trans (List.Perm.cons _ ?_));exact(SG (l₁:=[(B,(⟨1,s.taint.map bz⟩:Blk))]) (l₂:=ab o 1 (s.regs.map ah)))
 have loop:∀(B:Nat) (y:Blk),y=⟨4,[[.Uf s.pc,aJ o s.regs.length,.lst (s.taint.map bz),.Uf s.ev]]⟩->W.loop (wo Q) [.ptr G 0 0,.ptr E 0 0,.sl B 0 s.taint.length,.lst (s.taint.map bz),.Uf s.taint.length,.Uf (0:Nat)] ((B,⟨1,List.replicate s.taint.length [.nils]⟩)::(E,⟨4,[[.Uf 0,.nils,.nils,.Uf 0]]⟩)::(G,y)::ab o 1 (s.regs.map ah)):=by
  intro B y Z;subst Z;refine bD s.taint.length (λk (_:Unit)=>([.ptr G 0 0,.ptr E 0 0,.sl B 0 s.taint.length,.lst (s.taint.map bz),.Uf s.taint.length,.Uf k],(B,⟨1,mn s.taint k⟩)::(E,⟨4,[[.Uf 0,.nils,.nils,.Uf 0]]⟩)::(G,⟨4,[[.Uf s.pc,aJ o s.regs.length,.lst (s.taint.map bz),.Uf s.ev]]⟩)::ab o 1 (s.regs.map ah))) (λ_ _=>True) () trivial (df rfl (by simp[mn])) ?_;intro k _ hk _;dsimp only;refine vw ?_;rcases Nat.lt_or_ge k s.taint.length with D|D
  .have hd:=aW D;have hx:=ao (f:=bz) D;have hz:=JW s.taint k D;have hkl:k<(mn s.taint k).length:=by rw[HX _ _ hk];exact D
   have M:(s.taint[k]).length*8<=140737488355328:=by have:=h3 _ (Sy D);omega
   cases o with
   |none=>
    dsimp only[ab,aJ]
    repeat' (first|refine st ?_|(refine pf 113 ?_;refine pm (cZ _ M) ?_)|refine vw ?_|refine sb λu j=>?_|refine s2 (λh=>?_) λh=>?_|fail)
    exact⟨k+1,(),Ua,Ua,trivial,df (by rw[ax D Ua]<;>rfl) (by rw[<-Br _ _ D];rfl)⟩
   |some S=>
    dsimp only[ab,aJ]
    repeat' (first|refine st ?_|(refine pf 113 ?_;refine pm (cZ _ M) ?_)|refine vw ?_|refine sb λu j=>?_|refine s2 (λh=>?_) λh=>?_|fail)
    exact⟨k+1,(),Ua,Ua,trivial,df (by rw[ax D Ua]<;>rfl) (by rw[<-Br _ _ D];rfl)⟩
  .have hd:=aX D;have N:k=s.taint.length:=by omega
   subst N;have e:mn s.taint s.taint.length=s.taint.map bz:=by simp[mn]
   rw[e];cases o with
   |none=>
    dsimp only[ab,aJ]at fin ⊢
    repeat' (first|refine st ?_|refine sb λu j=>?_|refine s2 (λh=>?_) λh=>?_|fail)
    exact fin _ _ ⟨_,_,rfl⟩
   |some S=>
    dsimp only[ab,aJ]at fin ⊢
    repeat' (first|refine st ?_|refine sb λu j=>?_|refine s2 (λh=>?_) λh=>?_|fail)
    exact fin _ _ ⟨_,_,rfl⟩
 cases o with
 |none=>
  dsimp only[ab,aJ]at loop ⊢
  repeat' (first|refine st ?_|refine sb λu j=>?_|refine s2 (λh=>?_) λh=>?_|fail)
  exact loop _ _ rfl
 |some S=>
  dsimp only[ab,aJ]at loop ⊢
  repeat' (first|refine st ?_|refine sb λu j=>?_|refine s2 (λh=>?_) λh=>?_|fail)
  exact loop _ _ rfl
def JX(a b:List Int)(ha:a.length<=2^30)(Z:b.length<=2^30):aq Tryz.prog 164 [.lst (a.map ah),.lst (b.map ah)] (.lst ((z7 (a++b)).map ah)):=by
 refine ac.fz (wm _ _ _ _ ?_);refine vw ?_;generalize S:(λ(v:AV) (L:SH)=>∃E N,az [v] L [E] N/\E=AV.lst ((z7 (a++b)).map ah)/\N=[])=Q;have G:IntKind.i64.wrap ((a.length:Int)+b.length)=((a.length+b.length:Nat):Int):=by rw[Te _ Ua];omega
 have fin:∀(D:Nat) (L:SH),(D,(⟨1,(Lib.compact (tX (a++b))++List.replicate ((a++b).length-(Lib.compact (tX (a++b))).length) 0).map ah⟩:Blk))∈L->Q (.sl D 0 (Lib.compact (tX (a++b))).length) L:=λD L O=>by subst S;refine⟨_,[],az.all ?_,rfl,rfl⟩;show Fz _ (.sl D 0 (z7 (a++b)).length) (.lst ((z7 (a++b)).map ah));rw[show(z7 (a++b)).map ah=((((Lib.compact (tX (a++b))++List.replicate ((a++b).length-(Lib.compact (tX (a++b))).length) 0).map ah).drop 0).take (z7 (a++b)).length)from(xV (List.take_left' rfl)).symm];exact Fz.rows (x:=⟨1,_⟩) O Ud (by simp[z7])
 have Y:=λD:Nat=>GV D (a++b) (by simp;omega)
 have M:=λD:Nat=>xW D (tX (a++b)) (by rw[oV];simp;omega)
 simp only[oV]at M
 repeat' (first|refine st ?_|refine sb λB u=>?_|refine s2 (λh=>?_) λh=>?_|fail)
 refine ft (i:=0) (j:=a.length+b.length) Ua Ua Ua (λB u=>?_)
 repeat' (first|refine st ?_|refine ga rp (λ_=>rfl) Ud (by simp;omega) (by simp;omega) (λ_=>rfl) (λB u=>?_)|refine sb λB u=>?_|refine s2 (λh=>?_) λh=>?_|fail)
 simp only[List.replicate,Tu,<-LT,Tm,<-SD]
 repeat' (first|refine st ?_|((with_reducible refine bb 115 ?_);(refine fE (Y _) (.here _) ?_;rintro _ _ ⟨rfl,rfl⟩))|((with_reducible refine bb 116 ?_);(refine fE (M _) (.here _) ?_;rintro _ _ ⟨rfl,rfl⟩))|refine sb λB u=>?_|refine s2 (λh=>?_) λh=>?_|fail)
 exact fin _ _ rp
def qQ(p:Int×Bool):AV:=.tup [.Uf p.1,.bool p.2]
def D5(b:Bool):aq Tryz.prog 175 [.bool b] (.Uf (iW b)):=by
 refine z8 _ _ _ ?_;refine vw ?_;cases b
 all_goals
  repeat' (first|refine st ?_|refine sb λu j=>?_|refine s2 (λh=>?_) λh=>?_|fail)
  exact⟨rfl,rfl⟩
def D6(op a:Int):aq Tryz.prog 147 [.Uf op,.Uf a] (qQ (x9 op a)):=by
 refine Aa _ _ _ _ ?_;refine vw ?_;generalize D:(λ(u:AV) (K:SH)=>u=qQ (x9 op a)/\K=[])=Q
 repeat' (first|refine st ?_|(refine pf 175 ?_;refine pm (D5 _) ?_)|refine sb λB j=>?_|refine s2 (λh=>?_) λh=>?_|fail)
 all_goals
  subst D;refine⟨?_,rfl⟩;simp_all[x9,qQ]
def Bs(op a b:Int):aq Tryz.prog 148 [.Uf op,.Uf a,.Uf b] (qQ (iI op a b)):=by
 refine yk _ _ _ _ _ ?_;refine vw ?_;generalize D:(λ(u:AV) (K:SH)=>u=qQ (iI op a b)/\K=[])=Q
 repeat' (first|refine st ?_|(refine pf 175 ?_;refine pm (D5 _) ?_)|refine sb λB j=>?_|refine s2 (λh=>?_) λh=>?_|fail)
 all_goals
  subst D;refine⟨?_,rfl⟩;simp_all[iI,qQ]
section
theorem fG{P:Program}{KL:AV->SH->Prop}{g:FuncId}{cs args:List AV}{L j:SH}{b:Nat}{x:Blk}{R:AV->SH->Prop}(h:ac P g (args++cs) [(b,x)] R)(E:eJ b x L j)(D:∀v K,R v K->KL v (K++j)):W.call P (.fn g cs) args L KL:=
 ⟨h.frame (K:=[(b,x)]) (R:=j) E.perm λu K B=>D u K B⟩
def cV(s:aC)(o t:Option Nat):List AV:=[.Uf s.pc,aJ o s.regs.length,aJ t s.taint.length,.Uf s.ev]
def iZ(s:aC)(bs:Nat)(o t:Option Nat):SH:=(bs,⟨4,[cV s o t]⟩)::(ab o 1 (s.regs.map ah)++ab t 1 (s.taint.map bz))
def uj(r:Option aC)(bs:Nat)(o t:Option Nat)(v:AV)(L:SH):Prop:=
 match r with
 |none=>v=.bool false
 |some s2=>v=.bool true/\L=iZ s2 bs o t
theorem G5(s:aC)(bs:Nat)(o t:Option Nat)(ho:o=none->s.regs=[])(r:Int):ac Tryz.prog 163 [.Uf r,.pptr [[.ptr bs 0 0]] 0 0] [(bs,⟨4,[cV s o t]⟩)] λv L=>v=.bool (s.has r)/\L=[(bs,⟨4,[cV s o t]⟩)]:=by
 refine pe _ _ _ _ ?_;refine vw ?_;generalize j:(λ(v:AV) (L:SH)=>v=.bool (s.has r)/\L=[(bs,(⟨4,[cV s o t]⟩:Blk))])=Q;cases o with
 |none=>
  have D:=ho rfl;unfold cV at j ⊢;dsimp only[aJ]at j ⊢
  repeat' (first|refine st ?_|refine sb λB u=>?_|refine s2 (λh=>?_) λh=>?_|fail)
  all_goals
   subst j;refine⟨?_,rfl⟩;simp_all[aC.has,inB]<;>omega
 |some b=>
  unfold cV at j ⊢;dsimp only[aJ]at j ⊢
  repeat' (first|refine st ?_|refine sb λB u=>?_|refine s2 (λh=>?_) λh=>?_|fail)
  all_goals
   subst j;refine⟨?_,rfl⟩;simp_all[aC.has,inB]<;>omega
theorem dK{s:aC}{r:Int}:s.has r=true↔∃k:Nat,r=k/\k<s.regs.length:=by unfold aC.has;rw[av];exact⟨λ⟨u,j⟩=>⟨r.toNat,Ua,Ua⟩,λ⟨k,u,j⟩=>by omega⟩
theorem dL{o:Option Nat}{α:Type}{l:List α}{k:Nat}(h:o=none->l=[])(j:k<l.length):∃b,o=some b:=by
 cases o with
 |none=>rw[h rfl]at j;simp at j
 |some b=>exact⟨b,rfl⟩
section
variable (s:aC) (bs:Nat) (o t:Option Nat) (ho:o=none->s.regs=[]) (ht:t=none->s.taint=[]) (hlen:s.taint.length=s.regs.length) (hsm:s.regs.length<2^40) (hsh:∀l∈s.taint,l.length<=2^30) (ia ib ic n site:Int)
include ho ht hlen hsm hsh
theorem Oa:ac Tryz.prog 123 [.ptr bs 0 0,.agg (aS.mk 5 ia ib ic n site).enc] (iZ s bs o t) (uj (aL ⟨5,ia,ib,ic,n,site⟩ s) bs o t):=by
 refine dB _ _ _ _ ?_;refine vw ?_;generalize B:uj (aL ⟨5,ia,ib,ic,n,site⟩ s) bs o t=Q;unfold iZ
 repeat' (first|refine st ?_|refine sb λu j=>?_|refine s2 (λh=>?_) λh=>?_|fail)
 subst B;exact⟨rfl,rfl⟩
theorem Ob:ac Tryz.prog 123 [.ptr bs 0 0,.agg (aS.mk 1 ia ib ic n site).enc] (iZ s bs o t) (uj (aL ⟨1,ia,ib,ic,n,site⟩ s) bs o t):=by
 have E:=λr=>G5 s bs o t ho r
 refine ac.fz (dB _ _ _ _ ?_);refine vw ?_;generalize S:(λ(v:AV) (L:SH)=>∃v2 L2,az [v] L [v2] L2/\uj (aL ⟨1,ia,ib,ic,n,site⟩ s) bs o t v2 L2)=Q;cases N:s.has ia with
 |false=>
  have e:aL ⟨1,ia,ib,ic,n,site⟩ s=none:=by simp[aL,N]
  unfold iZ
  repeat' (first|refine st ?_|(refine nA (fG (E _) (.here _) ?_);rintro _ _ ⟨rfl,rfl⟩;(try rw[N]))|refine sb λO D=>?_|refine s2 (λh=>?_) λh=>?_|fail)
  subst S;rw[e];exact⟨_,[],az.all (.refl _),rfl⟩
 |true=>
  have e:aL ⟨1,ia,ib,ic,n,site⟩ s=some (s.put ia n []):=by simp[aL,N]
  rw[e]at S;obtain⟨a,rfl,M⟩:=dK.1 N;obtain⟨Z,rfl⟩:=dL ho M;obtain⟨Y,rfl⟩:=dL ht (k:=a) Ua;have G:a<s.taint.length:=by omega
  have hxa:=ao (f:=ah) M;have hya:=ao (f:=bz) G;unfold iZ;dsimp only[ab,List.cons_append,List.nil_append]
  repeat' (first|refine st ?_|(refine nA (fG (E _) (.here _) ?_);rintro _ _ ⟨rfl,rfl⟩;first|rw[N])|refine sb λO D=>?_|refine s2 (λh=>?_) λh=>?_|fail)
  subst S;refine⟨_,_,?_,rfl,rfl⟩;have e1:(s.put a n []).regs.map ah=(s.regs.map ah).set a [.Uf n]:=by simp[aC.put,To,ah]
  have e2:(s.put a n []).taint.map bz=(s.taint.map bz).set a [.lst []]:=by simp[aC.put,To,bz]
  have e3:cV (s.put a n []) (some Z) (some Y)=[.Uf (IntKind.i64.wrap (s.pc+1)),.sl Z 0 s.regs.length,.sl Y 0 s.taint.length,.Uf s.ev]:=by simp[cV,aC.put,aJ]
  unfold iZ;rw[e1,e2,e3];dsimp only[ab,List.cons_append,List.nil_append];refine az.rowA (K:=[]) (A:=[(bs,_),(Z,_)]) (b:=Y) (R:=[]) (rows:=(s.taint.map bz).set a [.nils]) (rows':=(s.taint.map bz).set a [.lst []]) rp Ud (λj r r' B u=>?_) rfl;rw[List.getElem?_set]at B u;by_cases hj:a=j
  .rw[if_pos hj]at B u;rw[if_pos (by simp;omega)]at B u;cases B;cases u;exact .cons .nils .nil
  .rw[if_neg hj]at B u;rw[B]at u;cases u;exact fU.refl _ _
theorem Oc:ac Tryz.prog 123 [.ptr bs 0 0,.agg (aS.mk 2 ia ib ic n site).enc] (iZ s bs o t) (uj (aL ⟨2,ia,ib,ic,n,site⟩ s) bs o t):=by
 have B:=λr=>G5 s bs o t ho r
 refine dB _ _ _ _ ?_;refine vw ?_;generalize S:uj (aL ⟨2,ia,ib,ic,n,site⟩ s) bs o t=Q;cases D:s.has ia with
 |false=>
  have e:aL ⟨2,ia,ib,ic,n,site⟩ s=none:=by simp[aL,D]
  unfold iZ
  repeat' (first|refine st ?_|(refine nA (fG (B _) (.here _) ?_);rintro _ _ ⟨rfl,rfl⟩;first|rw[D])|refine sb λE u=>?_|refine s2 (λh=>?_) λh=>?_|fail)
  subst S;rw[e];rfl
 |true=>
  cases M:s.has ib with
  |false=>
   have e:aL ⟨2,ia,ib,ic,n,site⟩ s=none:=by simp[aL,M]
   unfold iZ
   repeat' (first|refine st ?_|(refine nA (fG (B _) (.here _) ?_);rintro _ _ ⟨rfl,rfl⟩;first|rw[D]|rw[M])|refine sb λE u=>?_|refine s2 (λh=>?_) λh=>?_|fail)
   subst S;rw[e];rfl
  |true=>
   have e:aL ⟨2,ia,ib,ic,n,site⟩ s=some (s.put ia (s.reg ib) (s.tnt ib)):=by simp[aL,D,M]
   rw[e]at S;obtain⟨a,rfl,O⟩:=dK.1 D;obtain⟨b,rfl,G⟩:=dK.1 M;obtain⟨b1,rfl⟩:=dL ho O;obtain⟨b2,rfl⟩:=dL ht (k:=a) Ua;have N:a<s.taint.length:=by omega
   have hxa:=ao (f:=ah) O;have hya:=ao (f:=bz) N;have j:b<s.taint.length:=by omega
   have hxb:=ao (f:=ah) G;have Z:=ao (f:=bz) j;have Y:=cZ s.taint[b] (by have:=hsh _ (List.getElem_mem j);omega);unfold iZ;dsimp only[ab,List.cons_append,List.nil_append]
   repeat' (first|refine st ?_|(refine nA (fG (B _) (.here _) ?_);rintro _ _ ⟨rfl,rfl⟩;first|rw[D]|rw[M])|(refine pf 113 ?_;refine pm (Y) ?_)|refine sb λE u=>?_|refine s2 (λh=>?_) λh=>?_|fail)
   subst S;refine⟨rfl,?_⟩;simp[iZ,aC.put,cV,aC.reg,aC.tnt,ab,List.getD,G,j,To,ah,bz]
theorem Od:ac Tryz.prog 123 [.ptr bs 0 0,.agg (aS.mk 3 ia ib ic n site).enc] (iZ s bs o t) (uj (aL ⟨3,ia,ib,ic,n,site⟩ s) bs o t):=by
 have D:=λr=>G5 s bs o t ho r
 refine dB _ _ _ _ ?_;refine vw ?_;generalize G:uj (aL ⟨3,ia,ib,ic,n,site⟩ s) bs o t=Q;cases E:s.has ia with
 |false=>
  have e:aL ⟨3,ia,ib,ic,n,site⟩ s=none:=by simp[aL,E]
  unfold iZ
  repeat' (first|refine st ?_|(refine nA (fG (D _) (.here _) ?_);rintro _ _ ⟨rfl,rfl⟩;first|rw[E])|refine sb λM u=>?_|refine s2 (λh=>?_) λh=>?_|fail)
  subst G;rw[e];rfl
 |true=>
  cases O:s.has ib with
  |false=>
   have e:aL ⟨3,ia,ib,ic,n,site⟩ s=none:=by simp[aL,O]
   unfold iZ
   repeat' (first|refine st ?_|(refine nA (fG (D _) (.here _) ?_);rintro _ _ ⟨rfl,rfl⟩;first|rw[E]|rw[O])|refine sb λM u=>?_|refine s2 (λh=>?_) λh=>?_|fail)
   subst G;rw[e];rfl
  |true=>
   have e:aL ⟨3,ia,ib,ic,n,site⟩ s=if(x9 n (s.reg ib)).2 then some (s.put ia (x9 n (s.reg ib)).1 (s.tnt ib))else none:=by simp[aL,E,O]
   rw[e]at G;obtain⟨a,rfl,Y⟩:=dK.1 E;obtain⟨b,rfl,N⟩:=dK.1 O;obtain⟨b1,rfl⟩:=dL ho Y;obtain⟨b2,rfl⟩:=dL ht (k:=a) Ua;have S:a<s.taint.length:=by omega
   have hxa:=ao (f:=ah) Y;have hya:=ao (f:=bz) S;have j:b<s.taint.length:=by omega
   have hxb:=ao (f:=ah) N;have hyb:=ao (f:=bz) j;have hcl:=cZ s.taint[b] (by have:=hsh _ (Sy j);omega);have B:=D6 n s.regs[b];have hrb:s.reg b=s.regs[b]:=by simp[aC.reg,List.getD,N]
   have Z:s.tnt b=s.taint[b]:=by simp[aC.tnt,List.getD,j]
   rw[hrb,Z]at G;generalize x9 n s.regs[b]=p at B G;unfold qQ at B;unfold iZ;dsimp only[ab,List.cons_append,List.nil_append]
   repeat' (first|refine st ?_|(refine nA (fG (D _) (.here _) ?_);rintro _ _ ⟨rfl,rfl⟩;first|rw[E]|rw[O])|(refine pf 113 ?_;refine pm (hcl) ?_)|(refine pf 147 ?_;refine pm (B) ?_)|refine sb λM u=>?_|refine s2 (λh=>?_) λh=>?_|fail)
   subst G;unfold uj;cases hp:p.2 with
   |false=>rfl
   |true=>refine⟨rfl,?_⟩;simp[iZ,aC.put,cV,ab,To,ah,bz]
theorem Oe:ac Tryz.prog 123 [.ptr bs 0 0,.agg (aS.mk 4 ia ib ic n site).enc] (iZ s bs o t) (uj (aL ⟨4,ia,ib,ic,n,site⟩ s) bs o t):=by
 have E:=λr=>G5 s bs o t ho r
 refine dB _ _ _ _ ?_;refine vw ?_;generalize M:uj (aL ⟨4,ia,ib,ic,n,site⟩ s) bs o t=Q;cases S:s.has ia with
 |false=>
  have e:aL ⟨4,ia,ib,ic,n,site⟩ s=none:=by simp[aL,S]
  unfold iZ
  repeat' (first|refine st ?_|(refine nA (fG (E _) (.here _) ?_);rintro _ _ ⟨rfl,rfl⟩;first|rw[S])|refine sb λN j=>?_|refine s2 (λh=>?_) λh=>?_|fail)
  subst M;rw[e];rfl
 |true=>
  cases Y:s.has ib with
  |false=>
   have e:aL ⟨4,ia,ib,ic,n,site⟩ s=none:=by simp[aL,Y]
   unfold iZ
   repeat' (first|refine st ?_|(refine nA (fG (E _) (.here _) ?_);rintro _ _ ⟨rfl,rfl⟩;first|rw[S]|rw[Y])|refine sb λN j=>?_|refine s2 (λh=>?_) λh=>?_|fail)
   subst M;rw[e];rfl
  |true=>
   cases hc:s.has ic with
   |false=>
    have e:aL ⟨4,ia,ib,ic,n,site⟩ s=none:=by simp[aL,hc]
    unfold iZ
    repeat' (first|refine st ?_|(refine nA (fG (E _) (.here _) ?_);rintro _ _ ⟨rfl,rfl⟩;first|rw[S]|rw[Y]|rw[hc])|refine sb λN j=>?_|refine s2 (λh=>?_) λh=>?_|fail)
    subst M;rw[e];rfl
   |true=>
    have e:aL ⟨4,ia,ib,ic,n,site⟩ s=if(iI n (s.reg ib) (s.reg ic)).2 then some (s.put ia (iI n (s.reg ib) (s.reg ic)).1 (z7 (s.tnt ib++s.tnt ic)))else none:=by simp[aL,S,Y,hc]
    rw[e]at M;obtain⟨a,rfl,hal⟩:=dK.1 S;obtain⟨b,rfl,hbl⟩:=dK.1 Y;obtain⟨c,rfl,Z⟩:=dK.1 hc;obtain⟨b1,rfl⟩:=dL ho hal;obtain⟨b2,rfl⟩:=dL ht (k:=a) Ua;have hal2:a<s.taint.length:=by omega
    have hxa:=ao (f:=ah) hal;have hya:=ao (f:=bz) hal2;have D:b<s.taint.length:=by omega
    have hxb:=ao (f:=ah) hbl;have hyb:=ao (f:=bz) D;have B:c<s.taint.length:=by omega
    have hxc:=ao (f:=ah) Z;have hyc:=ao (f:=bz) B;have G:=JX s.taint[b] s.taint[c] (hsh _ (Sy D)) (hsh _ (Sy B));have O:=Bs n s.regs[b] s.regs[c];have hrb:s.reg b=s.regs[b]:=by simp[aC.reg,List.getD,hbl]
    have htb:s.tnt b=s.taint[b]:=by simp[aC.tnt,List.getD,D]
    have hrc:s.reg c=s.regs[c]:=by simp[aC.reg,List.getD,Z]
    have htc:s.tnt c=s.taint[c]:=by simp[aC.tnt,List.getD,B]
    rw[hrb,htb,hrc,htc]at M;generalize iI n s.regs[b] s.regs[c]=p at O M;generalize z7 (s.taint[b]++s.taint[c])=u at G M;unfold qQ at O;unfold iZ;dsimp only[ab,List.cons_append,List.nil_append]
    repeat' (first|refine st ?_|(refine nA (fG (E _) (.here _) ?_);rintro _ _ ⟨rfl,rfl⟩;first|rw[S]|rw[Y]|rw[hc])|(refine pf 164 ?_;refine pm (G) ?_)|(refine pf 148 ?_;refine pm (O) ?_)|refine sb λN j=>?_|refine s2 (λh=>?_) λh=>?_|fail)
    subst M;unfold uj;cases hp:p.2 with
    |false=>rfl
    |true=>refine⟨rfl,?_⟩;simp[iZ,aC.put,cV,ab,To,ah,bz]
end
end
end Go.Proofs.YtbofdbhnbodbiaaGreatDoor.Am
