/- A part of the proof; the statement is proved in the last part. -/
import Derived.Test.YtbofdbhnbodbiaaGreatDoorQuk
set_option linter.all false
set_option maxRecDepth 100000
set_option maxHeartbeats 20000000
namespace Go.Proofs.YtbofdbhnbodbiaaGreatDoor.Am
def sM:RF:=nv (bO Tryz.prog Tryz.f175 [] [])
abbrev CO(a:AV)(L:SH)(Q:R):Prop:=Pc sM 20 Q 0 [] [a] L
def Ar(j:AV)(L:SH)(Q:R)(h:CO j L Q):ac Tryz.prog 175 [j] L Q:=
 fv sM Tryz.func175 h
def sN:RF:=nv (bO Tryz.prog Tryz.f147 [] [])
abbrev CP(a b:AV)(L:SH)(Q:R):Prop:=Pc sN 20 Q 0 [] [a,b] L
def As(j t1:AV)(L:SH)(Q:R)(h:CP j t1 L Q):ac Tryz.prog 147 [j,t1] L Q:=
 fv sN Tryz.func147 h
def qj:RF:=nv (bO Tryz.prog Tryz.f148 [] [])
abbrev At(a b c:AV)(L:SH)(Q:R):Prop:=Pc qj 20 Q 0 [] [a,b,c] L
def yF(j t1 t2:AV)(L:SH)(Q:R)(h:At j t1 t2 L Q):ac Tryz.prog 148 [j,t1,t2] L Q:=
 fv qj Tryz.func148 h
def nV:RF:=nv (bO Tryz.prog Tryz.f164 [] [])
abbrev yG(a b:AV)(L:SH)(Q:R):Prop:=Pc nV 20 Q 0 [] [a,b] L
def wM(j t1:AV)(L:SH)(Q:R)(h:yG j t1 L Q):ac Tryz.prog 164 [j,t1] L Q:=
 fv nV Tryz.func164 h
def i8:RF:=nv (bO Tryz.prog Tryz.f122 [(12,⟨[1,2,3,15,16,17],[],true,[]⟩)] [])
abbrev wN(Q:R):Vs->SH->Kn->Prop:=Lp i8 19 Q 12 []
abbrev yH(a:AV)(L:SH)(Q:R):Prop:=Pc i8 20 Q 0 [] [a] L
def wO(j:AV)(L:SH)(Q:R)(h:yH j L Q):ac Tryz.prog 122 [j] L Q:=
 fv i8 Tryz.func122 h
def i9:RF:=nv (bO Tryz.prog Tryz.f163 [] [])
abbrev qZ(a b:AV)(L:SH)(Q:R):Prop:=Pc i9 20 Q 0 [] [a,b] L
def pw(j t1:AV)(L:SH)(Q:R)(h:qZ j t1 L Q):ac Tryz.prog 163 [j,t1] L Q:=
 fv i9 Tryz.func163 h
def lf:RF:=nv (bO Tryz.prog Tryz.f123 [(78073,⟨[2,4,6],[],true,[]⟩),(73,⟨[2,4,6],[],true,[]⟩)] [(0,[2,3])])
abbrev uz(a b:AV)(L:SH)(Q:R):Prop:=Pc lf 20 Q 0 [] [a,b] L
def dF(j t1:AV)(L:SH)(Q:R)(h:uz j t1 L Q):ac Tryz.prog 123 [j,t1] L Q:=
 fv lf Tryz.func123 h
def iw:RF:=nv (bO Tryz.prog Tryz.f75 [(18,⟨[2,3,4,6],[],true,[]⟩)] [(0,[2]),(8,[7])])
abbrev uA(Q:R):Vs->SH->Kn->Prop:=Lp iw 19 Q 18 []
abbrev wP(a b:AV)(L:SH)(Q:R):Prop:=Pc iw 20 Q 0 [] [a,b] L
def uB(j t1:AV)(L:SH)(Q:R)(h:wP j t1 L Q):ac Tryz.prog 75 [j,t1] L Q:=
 fv iw Tryz.func75 h
def pi(xs:List Int)(B:xs.length*8<=140737488355328):ac Tryz.prog 121 [.lst (xs.map ah)] [] λv L=>∃o,v=aK o xs.length/\L=ab o 1 (xs.map ah)/\(o=none->xs=[]):=by refine(fV (λA n c xs w D G u E=>cloneJ_any A n c xs w D G u E) ⟨_,_,Tryz.func121,rfl⟩ (xs.map ah) (by simp[ah,AV.one]) (λr j=>by obtain⟨x,_,rfl⟩:=TR.1 j;rfl) (by simpa using B)).mono ?_;rintro v L ⟨o,rfl,rfl,h⟩;exact⟨o,UZ,rfl,λe=>by simpa using h e⟩
def da(xs:List Int)(B:xs.length*8<=140737488355328):aq Tryz.prog 113 [.lst (xs.map ah)] (.lst (xs.map ah)):=by refine ac.fz ((BB xs B).mono ?_);rintro v L ⟨o,rfl,rfl,u⟩;exact⟨_,[],az.all (Fz.slot (f:=ah) rfl (λe=>by rw[u e];rfl) U0 (λy _=>rfl) (λy _ q a E D j=>by rw[D]at j;cases j;exact .refl _)),rfl,rfl⟩
def xw(s:aD)(v:AV)(L:SH):Prop:=
 ∃(o t:Option Nat),v=.agg [.U1 s.pc,aK o s.regs.length,aK t s.taint.length,.U1 s.ev]/\L=ab o 1 (s.regs.map ah)++ab t 1 (s.taint.map bC)/\(o=none->s.regs=[])/\(t=none->s.taint=[])
def mD(t:List (List Int))(k:Nat):List (List AV):=(t.take k).map bC++List.replicate (t.length-k) [.nils]
def Ir(t:List (List Int))(k:Nat)(j:k<=t.length):(mD t k).length=t.length:=by simp[mD];omega
def Kv(t:List (List Int))(k:Nat)(B:k<t.length):(mD t k)[k]? =some [.nils]:=by
 unfold mD;have u:((t.take k).map bC).length=k:=by simp;omega
 rw[Tm UW,u,UT];obtain⟨m,j⟩:∃m,t.length-k=m+1:=⟨t.length-k-1,UW⟩;rw[j];rfl
def BO(t:List (List Int))(k:Nat)(B:k<t.length):(mD t k).set k (bC t[k])=mD t (k+1):=by
 unfold mD;have u:((t.take k).map bC).length=k:=by simp;omega
 rw[List.set_append_right _ _ UW,u,UT];obtain⟨m,j⟩:∃m,t.length-k=m+1:=⟨t.length-k-1,UW⟩;rw[j,List.replicate_succ,List.set_cons_zero,Th B,show t.length-(k+1)=m by omega,Ti,TS];rfl
def Gf(s:aD)(h1:s.regs.length<2^40)(h2:s.taint.length<2^40)(h3:∀l∈s.taint,l.length<=2^30):ac Tryz.prog 122 [.agg s.enc] [] (xw s):=by
 refine ac.fz (wO _ _ _ ?_);refine vw ?_;generalize hQ:(λ(v:AV) (L:SH)=>∃O Y,az [v] L [O] Y/\xw s O Y)=Q
 repeat' (first|refine st ?_|refine sb λu j=>?_|refine s2 (λh=>?_) λh=>?_|fail)
 rename_i G _;revert u;intro E _;refine nO (pi s.regs UW) ?_;rintro v K ⟨o,rfl,rfl,ho⟩;refine vw ?_;have fin:∀(B:Nat) (L:SH),(∃x y:Blk,L=(B,⟨1,s.taint.map bC⟩)::(E,x)::(G,y)::ab o 1 (s.regs.map ah))->Q (.agg [.U1 s.pc,aK o s.regs.length,.sl B 0 s.taint.length,.U1 s.ev]) L:=by rintro B L ⟨x,y,rfl⟩;subst hQ;refine⟨_,_,az.forget (K:=[(E,x),(G,y)]) (R:=ab o 1 (s.regs.map ah)++[(B,⟨1,s.taint.map bC⟩)]) ?_,o,some B,rfl,rfl,ho,nofun⟩;refine(List.Perm.trans (List.Perm.swap _ _ _) ?_);refine List.Perm.cons _ ((List.Perm.swap _ _ _).trans (List.Perm.cons _ ?_));exact(Tt (l₁:=[(B,(⟨1,s.taint.map bC⟩:Blk))]) (l₂:=ab o 1 (s.regs.map ah)))
 have loop:∀(B:Nat) (y:Blk),y=⟨4,[[.U1 s.pc,aK o s.regs.length,.lst (s.taint.map bC),.U1 s.ev]]⟩->W.loop (wN Q) [.ptr G 0 0,.ptr E 0 0,.sl B 0 s.taint.length,.lst (s.taint.map bC),.U1 s.taint.length,.U1 (0:Nat)] ((B,⟨1,List.replicate s.taint.length [.nils]⟩)::(E,⟨4,[[.U1 0,.nils,.nils,.U1 0]]⟩)::(G,y)::ab o 1 (s.regs.map ah)):=by
  intro B y Z;subst Z;refine bz s.taint.length (λk (_:Unit)=>([.ptr G 0 0,.ptr E 0 0,.sl B 0 s.taint.length,.lst (s.taint.map bC),.U1 s.taint.length,.U1 k],(B,⟨1,mD s.taint k⟩)::(E,⟨4,[[.U1 0,.nils,.nils,.U1 0]]⟩)::(G,⟨4,[[.U1 s.pc,aK o s.regs.length,.lst (s.taint.map bC),.U1 s.ev]]⟩)::ab o 1 (s.regs.map ah))) (λ_ _=>True) () trivial (dq rfl (by simp[mD])) ?_;intro k _ hk _;dsimp only;refine vw ?_;rcases Nat.lt_or_ge k s.taint.length with D|D
  .have hd:=aS D;have hx:=am (f:=bC) D;have hz:=Kv s.taint k D;have hkl:k<(mD s.taint k).length:=by rw[Ir _ _ hk];exact D
   have M:(s.taint[k]).length*8<=140737488355328:=by have:=h3 _ (Tk D);omega
   cases o with
   |none=>
    dsimp only[ab,aK]
    repeat' (first|refine st ?_|(refine pf 113 ?_;refine pm (da _ M) ?_)|refine vw ?_|refine sb λu j=>?_|refine s2 (λh=>?_) λh=>?_|fail)
    exact⟨k+1,(),UW,UW,trivial,dq (by rw[aw D UW]<;>rfl) (by rw[<-BO _ _ D];rfl)⟩
   |some S=>
    dsimp only[ab,aK]
    repeat' (first|refine st ?_|(refine pf 113 ?_;refine pm (da _ M) ?_)|refine vw ?_|refine sb λu j=>?_|refine s2 (λh=>?_) λh=>?_|fail)
    exact⟨k+1,(),UW,UW,trivial,dq (by rw[aw D UW]<;>rfl) (by rw[<-BO _ _ D];rfl)⟩
  .have hd:=aX D;have N:k=s.taint.length:=by omega
   subst N;have e:mD s.taint s.taint.length=s.taint.map bC:=by simp[mD]
   rw[e];cases o with
   |none=>
    dsimp only[ab,aK]at fin ⊢
    repeat' (first|refine st ?_|refine sb λu j=>?_|refine s2 (λh=>?_) λh=>?_|fail)
    exact fin _ _ ⟨_,_,rfl⟩
   |some S=>
    dsimp only[ab,aK]at fin ⊢
    repeat' (first|refine st ?_|refine sb λu j=>?_|refine s2 (λh=>?_) λh=>?_|fail)
    exact fin _ _ ⟨_,_,rfl⟩
 cases o with
 |none=>
  dsimp only[ab,aK]at loop ⊢
  repeat' (first|refine st ?_|refine sb λu j=>?_|refine s2 (λh=>?_) λh=>?_|fail)
  exact loop _ _ rfl
 |some S=>
  dsimp only[ab,aK]at loop ⊢
  repeat' (first|refine st ?_|refine sb λu j=>?_|refine s2 (λh=>?_) λh=>?_|fail)
  exact loop _ _ rfl
def Kw(a b:List Int)(ha:a.length<=2^30)(Z:b.length<=2^30):aq Tryz.prog 164 [.lst (a.map ah),.lst (b.map ah)] (.lst ((Aq (a++b)).map ah)):=by
 refine ac.fz (wM _ _ _ _ ?_);refine vw ?_;generalize S:(λ(v:AV) (L:SH)=>∃E N,az [v] L [E] N/\E=AV.lst ((Aq (a++b)).map ah)/\N=[])=Q;have G:IntKind.i64.wrap ((a.length:Int)+b.length)=((a.length+b.length:Nat):Int):=by rw[TY _ UW];omega
 have fin:∀(D:Nat) (L:SH),(D,(⟨1,(Lib.compact (uq (a++b))++List.replicate ((a++b).length-(Lib.compact (uq (a++b))).length) 0).map ah⟩:Blk))∈L->Q (.sl D 0 (Lib.compact (uq (a++b))).length) L:=λD L O=>by subst S;refine⟨_,[],az.all ?_,rfl,rfl⟩;show Fz _ (.sl D 0 (Aq (a++b)).length) (.lst ((Aq (a++b)).map ah));rw[show(Aq (a++b)).map ah=((((Lib.compact (uq (a++b))++List.replicate ((a++b).length-(Lib.compact (uq (a++b))).length) 0).map ah).drop 0).take (Aq (a++b)).length)from(yo (List.take_left' rfl)).symm];exact Fz.rows (x:=⟨1,_⟩) O UZ (by simp[Aq])
 have Y:=λD:Nat=>Hv D (a++b) (by simp;omega)
 have M:=λD:Nat=>yp D (uq (a++b)) (by rw[pg];simp;omega)
 simp only[pg]at M
 repeat' (first|refine st ?_|refine sb λB u=>?_|refine s2 (λh=>?_) λh=>?_|fail)
 refine fD (i:=0) (j:=a.length+b.length) UW UW UW (λB u=>?_)
 repeat' (first|refine st ?_|refine gp rp (λ_=>rfl) UZ (by simp;omega) (by simp;omega) (λ_=>rfl) (λB u=>?_)|refine sb λB u=>?_|refine s2 (λh=>?_) λh=>?_|fail)
 simp only[List.replicate,Ui,<-Ti,Uc,<-Tp]
 repeat' (first|refine st ?_|((with_reducible refine bb 115 ?_);(refine fM (Y _) (.here _) ?_;rintro _ _ ⟨rfl,rfl⟩))|((with_reducible refine bb 116 ?_);(refine fM (M _) (.here _) ?_;rintro _ _ ⟨rfl,rfl⟩))|refine sb λB u=>?_|refine s2 (λh=>?_) λh=>?_|fail)
 exact fin _ _ rp
def re(p:Int×Bool):AV:=.tup [.U1 p.1,.bool p.2]
def EE(b:Bool):aq Tryz.prog 175 [.bool b] (.U1 (i7 b)):=by
 refine Ar _ _ _ ?_;refine vw ?_;cases b
 all_goals
  repeat' (first|refine st ?_|refine sb λu j=>?_|refine s2 (λh=>?_) λh=>?_|fail)
  exact⟨rfl,rfl⟩
def EF(op a:Int):aq Tryz.prog 147 [.U1 op,.U1 a] (re (yw op a)):=by
 refine As _ _ _ _ ?_;refine vw ?_;generalize D:(λ(u:AV) (K:SH)=>u=re (yw op a)/\K=[])=Q
 repeat' (first|refine st ?_|(refine pf 175 ?_;refine pm (EE _) ?_)|refine sb λB j=>?_|refine s2 (λh=>?_) λh=>?_|fail)
 all_goals
  subst D;refine⟨?_,rfl⟩;simp_all[yw,re]
def BP(op a b:Int):aq Tryz.prog 148 [.U1 op,.U1 a,.U1 b] (re (iQ op a b)):=by
 refine yF _ _ _ _ _ ?_;refine vw ?_;generalize D:(λ(u:AV) (K:SH)=>u=re (iQ op a b)/\K=[])=Q
 repeat' (first|refine st ?_|(refine pf 175 ?_;refine pm (EE _) ?_)|refine sb λB j=>?_|refine s2 (λh=>?_) λh=>?_|fail)
 all_goals
  subst D;refine⟨?_,rfl⟩;simp_all[iQ,re]
section
theorem fO{P:Program}{KL:AV->SH->Prop}{g:FuncId}{cs args:List AV}{L j:SH}{b:Nat}{x:Blk}{R:AV->SH->Prop}(h:ac P g (args++cs) [(b,x)] R)(E:eO b x L j)(D:∀v K,R v K->KL v (K++j)):W.call P (.fn g cs) args L KL:=
 ⟨h.frame (K:=[(b,x)]) (R:=j) E.perm λu K B=>D u K B⟩
def cY(s:aD)(o t:Option Nat):List AV:=[.U1 s.pc,aK o s.regs.length,aK t s.taint.length,.U1 s.ev]
def jc(s:aD)(bs:Nat)(o t:Option Nat):SH:=(bs,⟨4,[cY s o t]⟩)::(ab o 1 (s.regs.map ah)++ab t 1 (s.taint.map bC))
def uC(r:Option aD)(bs:Nat)(o t:Option Nat)(v:AV)(L:SH):Prop:=
 match r with
 |none=>v=.bool false
 |some s2=>v=.bool true/\L=jc s2 bs o t
theorem HE(s:aD)(bs:Nat)(o t:Option Nat)(ho:o=none->s.regs=[])(r:Int):ac Tryz.prog 163 [.U1 r,.pptr [[.ptr bs 0 0]] 0 0] [(bs,⟨4,[cY s o t]⟩)] λv L=>v=.bool (s.has r)/\L=[(bs,⟨4,[cY s o t]⟩)]:=by
 refine pw _ _ _ _ ?_;refine vw ?_;generalize j:(λ(v:AV) (L:SH)=>v=.bool (s.has r)/\L=[(bs,(⟨4,[cY s o t]⟩:Blk))])=Q;cases o with
 |none=>
  have D:=ho rfl;unfold cY at j ⊢;dsimp only[aK]at j ⊢
  repeat' (first|refine st ?_|refine sb λB u=>?_|refine s2 (λh=>?_) λh=>?_|fail)
  all_goals
   subst j;refine⟨?_,rfl⟩;simp_all[aD.has,inB]<;>omega
 |some b=>
  unfold cY at j ⊢;dsimp only[aK]at j ⊢
  repeat' (first|refine st ?_|refine sb λB u=>?_|refine s2 (λh=>?_) λh=>?_|fail)
  all_goals
   subst j;refine⟨?_,rfl⟩;simp_all[aD.has,inB]<;>omega
theorem dN{s:aD}{r:Int}:s.has r=true↔∃k:Nat,r=k/\k<s.regs.length:=by unfold aD.has;rw[av];exact⟨λ⟨u,j⟩=>⟨r.toNat,UW,UW⟩,λ⟨k,u,j⟩=>by omega⟩
theorem dO{o:Option Nat}{α:Type}{l:List α}{k:Nat}(h:o=none->l=[])(j:k<l.length):∃b,o=some b:=by
 cases o with
 |none=>rw[h rfl]at j;simp at j
 |some b=>exact⟨b,rfl⟩
section
variable (s:aD) (bs:Nat) (o t:Option Nat) (ho:o=none->s.regs=[]) (ht:t=none->s.taint=[]) (hlen:s.taint.length=s.regs.length) (hsm:s.regs.length<2^40) (hsh:∀l∈s.taint,l.length<=2^30) (ia ib ic n site:Int)
include ho ht hlen hsm hsh
theorem OO:ac Tryz.prog 123 [.ptr bs 0 0,.agg (aT.mk 5 ia ib ic n site).enc] (jc s bs o t) (uC (aM ⟨5,ia,ib,ic,n,site⟩ s) bs o t):=by
 refine dF _ _ _ _ ?_;refine vw ?_;generalize B:uC (aM ⟨5,ia,ib,ic,n,site⟩ s) bs o t=Q;unfold jc
 repeat' (first|refine st ?_|refine sb λu j=>?_|refine s2 (λh=>?_) λh=>?_|fail)
 subst B;exact⟨rfl,rfl⟩
theorem OP:ac Tryz.prog 123 [.ptr bs 0 0,.agg (aT.mk 1 ia ib ic n site).enc] (jc s bs o t) (uC (aM ⟨1,ia,ib,ic,n,site⟩ s) bs o t):=by
 have E:=λr=>HE s bs o t ho r
 refine ac.fz (dF _ _ _ _ ?_);refine vw ?_;generalize S:(λ(v:AV) (L:SH)=>∃v2 L2,az [v] L [v2] L2/\uC (aM ⟨1,ia,ib,ic,n,site⟩ s) bs o t v2 L2)=Q;cases N:s.has ia with
 |false=>
  have e:aM ⟨1,ia,ib,ic,n,site⟩ s=none:=by simp[aM,N]
  unfold jc
  repeat' (first|refine st ?_|(refine nL (fO (E _) (.here _) ?_);rintro _ _ ⟨rfl,rfl⟩;(try rw[N]))|refine sb λO D=>?_|refine s2 (λh=>?_) λh=>?_|fail)
  subst S;rw[e];exact⟨_,[],az.all (.refl _),rfl⟩
 |true=>
  have e:aM ⟨1,ia,ib,ic,n,site⟩ s=some (s.put ia n []):=by simp[aM,N]
  rw[e]at S;obtain⟨a,rfl,M⟩:=dN.1 N;obtain⟨Z,rfl⟩:=dO ho M;obtain⟨Y,rfl⟩:=dO ht (k:=a) UW;have G:a<s.taint.length:=by omega
  have hxa:=am (f:=ah) M;have hya:=am (f:=bC) G;unfold jc;dsimp only[ab,List.cons_append,List.nil_append]
  repeat' (first|refine st ?_|(refine nL (fO (E _) (.here _) ?_);rintro _ _ ⟨rfl,rfl⟩;first|rw[N])|refine sb λO D=>?_|refine s2 (λh=>?_) λh=>?_|fail)
  subst S;refine⟨_,_,?_,rfl,rfl⟩;have e1:(s.put a n []).regs.map ah=(s.regs.map ah).set a [.U1 n]:=by simp[aD.put,Ue,ah]
  have e2:(s.put a n []).taint.map bC=(s.taint.map bC).set a [.lst []]:=by simp[aD.put,Ue,bC]
  have e3:cY (s.put a n []) (some Z) (some Y)=[.U1 (IntKind.i64.wrap (s.pc+1)),.sl Z 0 s.regs.length,.sl Y 0 s.taint.length,.U1 s.ev]:=by simp[cY,aD.put,aK]
  unfold jc;rw[e1,e2,e3];dsimp only[ab,List.cons_append,List.nil_append];refine az.rowA (K:=[]) (A:=[(bs,_),(Z,_)]) (b:=Y) (R:=[]) (rows:=(s.taint.map bC).set a [.nils]) (rows':=(s.taint.map bC).set a [.lst []]) rp UZ (λj r r' B u=>?_) rfl;rw[List.getElem?_set]at B u;by_cases hj:a=j
  .rw[if_pos hj]at B u;rw[if_pos (by simp;omega)]at B u;cases B;cases u;exact .cons .nils .nil
  .rw[if_neg hj]at B u;rw[B]at u;cases u;exact eP.refl _ _
theorem OQ:ac Tryz.prog 123 [.ptr bs 0 0,.agg (aT.mk 2 ia ib ic n site).enc] (jc s bs o t) (uC (aM ⟨2,ia,ib,ic,n,site⟩ s) bs o t):=by
 have B:=λr=>HE s bs o t ho r
 refine dF _ _ _ _ ?_;refine vw ?_;generalize S:uC (aM ⟨2,ia,ib,ic,n,site⟩ s) bs o t=Q;cases D:s.has ia with
 |false=>
  have e:aM ⟨2,ia,ib,ic,n,site⟩ s=none:=by simp[aM,D]
  unfold jc
  repeat' (first|refine st ?_|(refine nL (fO (B _) (.here _) ?_);rintro _ _ ⟨rfl,rfl⟩;first|rw[D])|refine sb λE u=>?_|refine s2 (λh=>?_) λh=>?_|fail)
  subst S;rw[e];rfl
 |true=>
  cases M:s.has ib with
  |false=>
   have e:aM ⟨2,ia,ib,ic,n,site⟩ s=none:=by simp[aM,M]
   unfold jc
   repeat' (first|refine st ?_|(refine nL (fO (B _) (.here _) ?_);rintro _ _ ⟨rfl,rfl⟩;first|rw[D]|rw[M])|refine sb λE u=>?_|refine s2 (λh=>?_) λh=>?_|fail)
   subst S;rw[e];rfl
  |true=>
   have e:aM ⟨2,ia,ib,ic,n,site⟩ s=some (s.put ia (s.reg ib) (s.tnt ib)):=by simp[aM,D,M]
   rw[e]at S;obtain⟨a,rfl,O⟩:=dN.1 D;obtain⟨b,rfl,G⟩:=dN.1 M;obtain⟨b1,rfl⟩:=dO ho O;obtain⟨b2,rfl⟩:=dO ht (k:=a) UW;have N:a<s.taint.length:=by omega
   have hxa:=am (f:=ah) O;have hya:=am (f:=bC) N;have j:b<s.taint.length:=by omega
   have hxb:=am (f:=ah) G;have Z:=am (f:=bC) j;have Y:=da s.taint[b] (by have:=hsh _ (List.getElem_mem j);omega);unfold jc;dsimp only[ab,List.cons_append,List.nil_append]
   repeat' (first|refine st ?_|(refine nL (fO (B _) (.here _) ?_);rintro _ _ ⟨rfl,rfl⟩;first|rw[D]|rw[M])|(refine pf 113 ?_;refine pm (Y) ?_)|refine sb λE u=>?_|refine s2 (λh=>?_) λh=>?_|fail)
   subst S;refine⟨rfl,?_⟩;simp[jc,aD.put,cY,aD.reg,aD.tnt,ab,List.getD,G,j,Ue,ah,bC]
theorem OR:ac Tryz.prog 123 [.ptr bs 0 0,.agg (aT.mk 3 ia ib ic n site).enc] (jc s bs o t) (uC (aM ⟨3,ia,ib,ic,n,site⟩ s) bs o t):=by
 have D:=λr=>HE s bs o t ho r
 refine dF _ _ _ _ ?_;refine vw ?_;generalize G:uC (aM ⟨3,ia,ib,ic,n,site⟩ s) bs o t=Q;cases E:s.has ia with
 |false=>
  have e:aM ⟨3,ia,ib,ic,n,site⟩ s=none:=by simp[aM,E]
  unfold jc
  repeat' (first|refine st ?_|(refine nL (fO (D _) (.here _) ?_);rintro _ _ ⟨rfl,rfl⟩;first|rw[E])|refine sb λM u=>?_|refine s2 (λh=>?_) λh=>?_|fail)
  subst G;rw[e];rfl
 |true=>
  cases O:s.has ib with
  |false=>
   have e:aM ⟨3,ia,ib,ic,n,site⟩ s=none:=by simp[aM,O]
   unfold jc
   repeat' (first|refine st ?_|(refine nL (fO (D _) (.here _) ?_);rintro _ _ ⟨rfl,rfl⟩;first|rw[E]|rw[O])|refine sb λM u=>?_|refine s2 (λh=>?_) λh=>?_|fail)
   subst G;rw[e];rfl
  |true=>
   have e:aM ⟨3,ia,ib,ic,n,site⟩ s=if(yw n (s.reg ib)).2 then some (s.put ia (yw n (s.reg ib)).1 (s.tnt ib))else none:=by simp[aM,E,O]
   rw[e]at G;obtain⟨a,rfl,Y⟩:=dN.1 E;obtain⟨b,rfl,N⟩:=dN.1 O;obtain⟨b1,rfl⟩:=dO ho Y;obtain⟨b2,rfl⟩:=dO ht (k:=a) UW;have S:a<s.taint.length:=by omega
   have hxa:=am (f:=ah) Y;have hya:=am (f:=bC) S;have j:b<s.taint.length:=by omega
   have hxb:=am (f:=ah) N;have hyb:=am (f:=bC) j;have hcl:=da s.taint[b] (by have:=hsh _ (Tk j);omega);have B:=EF n s.regs[b];have hrb:s.reg b=s.regs[b]:=by simp[aD.reg,List.getD,N]
   have Z:s.tnt b=s.taint[b]:=by simp[aD.tnt,List.getD,j]
   rw[hrb,Z]at G;generalize yw n s.regs[b]=p at B G;unfold re at B;unfold jc;dsimp only[ab,List.cons_append,List.nil_append]
   repeat' (first|refine st ?_|(refine nL (fO (D _) (.here _) ?_);rintro _ _ ⟨rfl,rfl⟩;first|rw[E]|rw[O])|(refine pf 113 ?_;refine pm (hcl) ?_)|(refine pf 147 ?_;refine pm (B) ?_)|refine sb λM u=>?_|refine s2 (λh=>?_) λh=>?_|fail)
   subst G;unfold uC;cases hp:p.2 with
   |false=>rfl
   |true=>refine⟨rfl,?_⟩;simp[jc,aD.put,cY,ab,Ue,ah,bC]
theorem OS:ac Tryz.prog 123 [.ptr bs 0 0,.agg (aT.mk 4 ia ib ic n site).enc] (jc s bs o t) (uC (aM ⟨4,ia,ib,ic,n,site⟩ s) bs o t):=by
 have E:=λr=>HE s bs o t ho r
 refine dF _ _ _ _ ?_;refine vw ?_;generalize M:uC (aM ⟨4,ia,ib,ic,n,site⟩ s) bs o t=Q;cases S:s.has ia with
 |false=>
  have e:aM ⟨4,ia,ib,ic,n,site⟩ s=none:=by simp[aM,S]
  unfold jc
  repeat' (first|refine st ?_|(refine nL (fO (E _) (.here _) ?_);rintro _ _ ⟨rfl,rfl⟩;first|rw[S])|refine sb λN j=>?_|refine s2 (λh=>?_) λh=>?_|fail)
  subst M;rw[e];rfl
 |true=>
  cases Y:s.has ib with
  |false=>
   have e:aM ⟨4,ia,ib,ic,n,site⟩ s=none:=by simp[aM,Y]
   unfold jc
   repeat' (first|refine st ?_|(refine nL (fO (E _) (.here _) ?_);rintro _ _ ⟨rfl,rfl⟩;first|rw[S]|rw[Y])|refine sb λN j=>?_|refine s2 (λh=>?_) λh=>?_|fail)
   subst M;rw[e];rfl
  |true=>
   cases hc:s.has ic with
   |false=>
    have e:aM ⟨4,ia,ib,ic,n,site⟩ s=none:=by simp[aM,hc]
    unfold jc
    repeat' (first|refine st ?_|(refine nL (fO (E _) (.here _) ?_);rintro _ _ ⟨rfl,rfl⟩;first|rw[S]|rw[Y]|rw[hc])|refine sb λN j=>?_|refine s2 (λh=>?_) λh=>?_|fail)
    subst M;rw[e];rfl
   |true=>
    have e:aM ⟨4,ia,ib,ic,n,site⟩ s=if(iQ n (s.reg ib) (s.reg ic)).2 then some (s.put ia (iQ n (s.reg ib) (s.reg ic)).1 (Aq (s.tnt ib++s.tnt ic)))else none:=by simp[aM,S,Y,hc]
    rw[e]at M;obtain⟨a,rfl,hal⟩:=dN.1 S;obtain⟨b,rfl,hbl⟩:=dN.1 Y;obtain⟨c,rfl,Z⟩:=dN.1 hc;obtain⟨b1,rfl⟩:=dO ho hal;obtain⟨b2,rfl⟩:=dO ht (k:=a) UW;have hal2:a<s.taint.length:=by omega
    have hxa:=am (f:=ah) hal;have hya:=am (f:=bC) hal2;have D:b<s.taint.length:=by omega
    have hxb:=am (f:=ah) hbl;have hyb:=am (f:=bC) D;have B:c<s.taint.length:=by omega
    have hxc:=am (f:=ah) Z;have hyc:=am (f:=bC) B;have G:=Kw s.taint[b] s.taint[c] (hsh _ (Tk D)) (hsh _ (Tk B));have O:=BP n s.regs[b] s.regs[c];have hrb:s.reg b=s.regs[b]:=by simp[aD.reg,List.getD,hbl]
    have htb:s.tnt b=s.taint[b]:=by simp[aD.tnt,List.getD,D]
    have hrc:s.reg c=s.regs[c]:=by simp[aD.reg,List.getD,Z]
    have htc:s.tnt c=s.taint[c]:=by simp[aD.tnt,List.getD,B]
    rw[hrb,htb,hrc,htc]at M;generalize iQ n s.regs[b] s.regs[c]=p at O M;generalize Aq (s.taint[b]++s.taint[c])=u at G M;unfold re at O;unfold jc;dsimp only[ab,List.cons_append,List.nil_append]
    repeat' (first|refine st ?_|(refine nL (fO (E _) (.here _) ?_);rintro _ _ ⟨rfl,rfl⟩;first|rw[S]|rw[Y]|rw[hc])|(refine pf 164 ?_;refine pm (G) ?_)|(refine pf 148 ?_;refine pm (O) ?_)|refine sb λN j=>?_|refine s2 (λh=>?_) λh=>?_|fail)
    subst M;unfold uC;cases hp:p.2 with
    |false=>rfl
    |true=>refine⟨rfl,?_⟩;simp[jc,aD.put,cY,ab,Ue,ah,bC]
end
end
end Go.Proofs.YtbofdbhnbodbiaaGreatDoor.Am
