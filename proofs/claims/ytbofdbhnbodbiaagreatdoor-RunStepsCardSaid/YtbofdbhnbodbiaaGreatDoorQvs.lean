/- A part of the proof; the statement is proved in the last part. -/
import Derived.Test.YtbofdbhnbodbiaaGreatDoorQvr
set_option linter.all false
set_option maxRecDepth 100000
set_option maxHeartbeats 20000000
namespace Go.Proofs.YtbofdbhnbodbiaaGreatDoor.Am
def qp:RF:=nv (bO Tryz.prog Tryz.f165 [] [])
abbrev AC(a:AV)(L:SH)(Q:R):Prop:=Pc qp 20 Q 0 [] [a] L
def y7(j:AV)(L:SH)(Q:R)(h:AC j L Q):ac Tryz.prog 165 [j] L Q:=
 fv qp Tryz.func165 h
def qq:RF:=nv (bO Tryz.prog Tryz.f127 [] [])
abbrev AD(a b:AV)(L:SH)(Q:R):Prop:=Pc qq 20 Q 0 [] [a,b] L
def y8(j t1:AV)(L:SH)(Q:R)(h:AD j t1 L Q):ac Tryz.prog 127 [j,t1] L Q:=
 fv qq Tryz.func127 h
def oC:RF:=nv (bO Tryz.prog Tryz.f129 [] [])
abbrev y9(a b c:AV)(L:SH)(Q:R):Prop:=Pc oC 20 Q 0 [] [a,b,c] L
def wL(j t1 t2:AV)(L:SH)(Q:R)(h:y9 j t1 t2 L Q):ac Tryz.prog 129 [j,t1,t2] L Q:=
 fv oC Tryz.func129 h
def s6:RF:=nv (bO Tryz.prog Tryz.f82 [(9,⟨[1,2,3,4],[],true,[]⟩)] [(0,[1])])
abbrev CO(a:AV)(L:SH)(Q:R):Prop:=Pc s6 20 Q 0 [] [a] L
def AE(j:AV)(L:SH)(Q:R)(h:CO j L Q):ac Tryz.prog 82 [j] L Q:=
 fv s6 Tryz.func82 h
def lh:RF:=nv (bO Tryz.prog Tryz.f128 [] [])
abbrev uH(a:AV)(L:SH)(Q:R):Prop:=Pc lh 20 Q 0 [] [a] L
def s7(j:AV)(L:SH)(Q:R)(h:uH j L Q):ac Tryz.prog 128 [j] L Q:=
 fv lh Tryz.func128 h
def gp:RF:=nv (bO Tryz.prog Tryz.f84 [(69034,⟨[2,3,4,8,9,10],[],true,[]⟩),(2102,⟨[2,3,4],[],true,[]⟩),(9,⟨[2,3,4,6,7],[],true,[]⟩)] [(0,[2])])
abbrev ko(Q:R):Vs->SH->Prop:=Jp gp 17 Q 69034 []
abbrev AF(Q:R)(a:SH)(b c d:AV):Prop:=Pc gp 18 Q 2102 [] [b,c,d] a
abbrev AG(Q:R):Vs->SH->Kn->Prop:=Lp gp 19 Q 9 []
abbrev CP(a b:AV)(L:SH)(Q:R):Prop:=Pc gp 20 Q 0 [] [a,b] L
def fC(j t1:AV)(L:SH)(Q:R)(h:CP j t1 L Q):ac Tryz.prog 84 [j,t1] L Q:=
 fv gp Tryz.func84 h
def jf:RF:=nv (bO Tryz.prog Tryz.f45 [(15,⟨[2,3,4,6],[],true,[]⟩)] [(0,[2]),(9,[7]),(14,[8])])
abbrev wM(Q:R):Vs->SH->Kn->Prop:=Lp jf 19 Q 15 []
abbrev zb(a b:AV)(L:SH)(Q:R):Prop:=Pc jf 20 Q 0 [] [a,b] L
def wN(j t1:AV)(L:SH)(Q:R)(h:zb j t1 L Q):ac Tryz.prog 45 [j,t1] L Q:=
 fv jf Tryz.func45 h
def jg:RF:=nv (bO Tryz.prog Tryz.f35 [(27,⟨[2,3,6],[],true,[]⟩),(12,⟨[2,3,5],[],true,[]⟩)] [(0,[2,3])])
abbrev rk(a b:AV)(L:SH)(Q:R):Prop:=Pc jg 20 Q 0 [] [a,b] L
def pF(j t1:AV)(L:SH)(Q:R)(h:rk j t1 L Q):ac Tryz.prog 35 [j,t1] L Q:=
 fv jg Tryz.func35 h
def BA(b:Bool):aq Tryz.prog 165 [.bool b] (.Uf (iW b)):=by
 refine y7 _ _ _ ?_;refine vw ?_;cases b
 all_goals
  repeat' (first|refine st ?_|refine sb λu j=>?_|refine s2 (λh=>?_) λh=>?_|fail)
  exact⟨rfl,rfl⟩
def If(op a:Int):aq Tryz.prog 127 [.Uf op,.Uf a] (qQ (x9 op a)):=by
 refine y8 _ _ _ _ ?_;refine vw ?_;generalize D:(λ(u:AV) (K:SH)=>u=qQ (x9 op a)/\K=[])=Q
 repeat' (first|refine st ?_|(refine pf 165 ?_;refine pm (BA _) ?_)|refine sb λB j=>?_|refine s2 (λh=>?_) λh=>?_|fail)
 all_goals
  subst D;refine⟨?_,rfl⟩;simp_all[x9,qQ]
def F1(op a b:Int):aq Tryz.prog 129 [.Uf op,.Uf a,.Uf b] (qQ (iI op a b)):=by
 refine wL _ _ _ _ _ ?_;refine vw ?_;generalize D:(λ(u:AV) (K:SH)=>u=qQ (iI op a b)/\K=[])=Q
 repeat' (first|refine st ?_|(refine pf 165 ?_;refine pm (BA _) ?_)|refine sb λB j=>?_|refine s2 (λh=>?_) λh=>?_|fail)
 all_goals
  subst D;refine⟨?_,rfl⟩;simp_all[iI,qQ]
def az.pickV{vs j:List AV}{L R:SH}(h:fV L R)(u:∀K,fU K vs j):az vs L j R:=by obtain⟨K,B⟩:=h.perm;exact az.drop B (u K).at_.1 (u K).at_.2
def EA(s:aC)(h1:s.regs.length<2^40)(h2:s.taint.length<2^40)(h3:∀l∈s.taint,l.length<=2^30):ac Tryz.prog 82 [.agg s.enc] [] (xc s):=by
 refine ac.fz (AE _ _ _ ?_);refine vw ?_;generalize hQ:(λ(v:AV) (L:SH)=>∃v2 L2,az [v] L [v2] L2/\xc s v2 L2)=Q
 repeat' (first|refine st ?_|refine ga rp (λ_=>rfl) Uc (by simp;omega) (by simp;omega) (λ_=>rfl) (λB u=>?_)|refine sb λB u=>?_|refine s2 (λh=>?_) λh=>?_|fail)
 rename_i _ _ b2 _ _ _ E _;rw[Nat.zero_add];revert B;intro Z _;refine bD s.taint.length (λi (o:Option Nat)=>([.pptr [s.enc] 0 0,.ptr b2 0 0,.ptr Z 0 0,.Uf i],(Z,⟨4,[[.Uf s.pc,.sl E 0 s.regs.length,aj o i,.Uf s.ev]]⟩)::(E,⟨1,s.regs.map ah⟩)::(b2,⟨4,[[.Uf 0,.nils,.nils,.Uf 0]]⟩)::ab o 1 ((s.taint.take i).map bz))) (λi o=>o=none->i=0) none (λ_=>rfl) (az.box (K:=[]) (.refl _) (.cons (.refl _) (.cons (.refl _) (.cons .nile (.cons (.refl _) .nil))))) ?_;intro i o hi ho;dsimp only;refine vw ?_;have D:((s.taint.take i).map bz).length=i:=by simp;omega
 have h0:o=none->(s.taint.take i).map bz=[]:=λe=>by rw[ho e];rfl
 rcases Fn i s.taint.length with M|M
 .have hd:=aW M;have hx:=ao (f:=bz) M;have hr:=h3 _ (Sy M)
  repeat' (first|refine st ?_|refine ga rp (λ_=>rfl) Uc (by simp;omega) (by simp;omega) (λ_=>rfl) (λB u=>?_)|refine bF rp rp D h0 Uc Ud (by simp;omega) (by simp;omega) Uc (λB u=>?_)|refine sb λB u=>?_|refine s2 (λh=>?_) λh=>?_|fail)
  rename_i br _ _ _;refine⟨i+1,some B,Ua,Ua,nofun,?_⟩;refine az.rowA (A:=[(Z,_),(E,_),(b2,_)]) (b:=B) (R:=[]) (rows':=(s.taint.take (i+1)).map bz) rp ?_ ?_ (by rw[ax M Ua]<;>rfl)
  .simp;omega
  .intro j r r' N G;rw[Sw M,LT]at G;rcases Fn j i with S|S
   .rw[SE (by rw[D];exact S)]at N G;rw[N]at G;cases G;exact fU.refl _ _
   .rw[SA (by rw[D];exact S),D]at N G;generalize j-i=k at N G
    match k with
    |0=>cases N;cases G;exact .cons (Fz.sls (l:=s.taint[i]) rp rfl Ue Ud) .nil
    |k+1=>simp at N
 .have hd:=aX M;have Y:i=s.taint.length:=by omega
  subst Y;rw[SX (Fd _)];have O:o=none->s.taint=[]:=λe=>Tp.1 (ho e)
  cases o with
  |none=>
   dsimp only[aj,ab]
   repeat' (first|refine st ?_|refine sb λB u=>?_|refine s2 (λh=>?_) λh=>?_|fail)
   subst hQ;exact⟨.agg [.Uf s.pc,.sl E 0 s.regs.length,.lst [],.Uf s.ev],_,az.pickV (R:=[(E,_)]) rp (λK=>.cons (Fz.aggs (.cons (.refl _) (.cons (.refl _) (.cons .emp (.cons (.refl _) .nil))))) .nil),some E,none,rfl,rfl,nofun,O⟩
  |some bl=>
   dsimp only[aj,ab]
   repeat' (first|refine st ?_|refine sb λB u=>?_|refine s2 (λh=>?_) λh=>?_|fail)
   subst hQ;exact⟨_,_,az.pick (R:=[(E,_),(bl,_)]) rp rfl,some E,some bl,rfl,rfl,nofun,O⟩
def jU:RF:=nv (bO Tryz.prog Tryz.f54 [(51046,⟨[1,4,37],[],true,[]⟩),(30025,⟨[1,4,13],[],true,[]⟩),(21016,⟨[1,4,5],[],true,[]⟩)] [(0,[1])])
abbrev s8(a:AV)(L:SH)(Q:R):Prop:=Pc jU 20 Q 0 [] [a] L
def rl(j:AV)(L:SH)(Q:R)(h:s8 j L Q):ac Tryz.prog 54 [j] L Q:=
 fv jU Tryz.func54 h
def l9(i:aS):aq Tryz.prog 54 [.agg i.enc] (.lst ((aN i).map ah)):=by
 obtain⟨op,u,j,D,n,B⟩:=i;refine ac.fz (rl _ _ _ ?_);refine vw ?_;generalize N:(λ(v:AV) (L:SH)=>∃G O,az [v] L [G] O/\G=AV.lst ((aN ⟨op,u,j,D,n,B⟩).map ah)/\O=[])=Q;have E:∀(l:List Int),aN ⟨op,u,j,D,n,B⟩=l->∀v L,Fz L v (.lst (l.map ah))->Q v L:=λl Y v L h=>by subst N;exact⟨_,[],az.all h,by rw[Y],rfl⟩
 clear N
 repeat' (first|refine st ?_|refine sb λS M=>?_|refine s2 (λh=>?_) λh=>?_|fail)
 all_goals first
  |exact E [u] (by simp_all[aN];done) _ _ (Fz.sls (l:=[u]) (f:=ah) (.head _) rfl Ue rfl)
  |exact E [j] (by simp_all[aN];done) _ _ (Fz.sls (l:=[j]) (f:=ah) (.head _) rfl Ue rfl)
  |exact E [u,j] (by simp_all[aN];done) _ _ (Fz.sls (l:=[u,j]) (f:=ah) (.head _) rfl Ue rfl)
  |exact E [u,D] (by simp_all[aN];done) _ _ (Fz.sls (l:=[u,D]) (f:=ah) (.head _) rfl Ue rfl)
  |exact E [j,D] (by simp_all[aN];done) _ _ (Fz.sls (l:=[j,D]) (f:=ah) (.head _) rfl Ue rfl)
  |exact E [u,j,D] (by simp_all[aN];done) _ _ (Fz.sls (l:=[u,j,D]) (f:=ah) (.head _) rfl Ue rfl)
  |exact E [] (by simp_all[aN];done) _ _ .nils
def vC(n:Int):aq Tryz.prog 128 [.Uf n] (.Uf (JV n)):=by
 refine s7 _ _ _ ?_;refine vw ?_;generalize D:(λ(u:AV) (K:SH)=>u=AV.Uf (JV n)/\K=[])=Q
 repeat' (first|refine st ?_|refine sb λB j=>?_|refine s2 (λh=>?_) λh=>?_|fail)
 all_goals
  subst D;refine⟨?_,rfl⟩;simp_all[JV]<;>omega
def F2(op:Int):Bool:=decide (1<=op)&&decide (op<=5)
def Ig(op:Int):aq Tryz.prog 83 [.Uf op] (.bool (F2 op)):=by
 refine mD _ _ _ ?_;refine vw ?_;generalize D:(λ(u:AV) (K:SH)=>u=AV.bool (F2 op)/\K=[])=Q
 repeat' (first|refine st ?_|refine sb λB j=>?_|refine s2 (λh=>?_) λh=>?_|fail)
 all_goals
  subst D;refine⟨?_,rfl⟩;simp_all[F2]<;>omega
def oD(r:Option aC)(o t:Option Nat)(v:AV)(L:SH):Prop:=
 match r with
 |none=>v=.tup [.agg jI,.bool false]\/∃s3:aC,v=.tup [.agg (cV s3 o t),.bool false]
 |some s2=>v=.tup [.agg (cV s2 o t),.bool true]/\L=ab o 1 (s2.regs.map ah)++ab t 1 (s2.taint.map bz)
def lj(s:aC)(o t:Option Nat)(ho:o=none->s.regs=[])(hsm:s.regs.length<2^40)(i:aS)(G E:Nat)(R:SH)(Q:AV->SH->Prop)(l:List Int)(hl:l.length<2^40)
  (B:l.all s.has=false->∀L,Q (.tup [.agg jI,.bool false]) L)
  (j:l.all s.has=true->AF Q ((E,⟨4,[jI]⟩)::(G,⟨4,[cV s o t]⟩)::R) (.pptr [i.enc] 0 0) (.ptr G 0 0) (.ptr E 0 0)) :
  W.loop (AG Q) [.pptr [i.enc] 0 0,.ptr G 0 0,.ptr E 0 0,.lst (l.map ah),.Uf (0:Nat)] ((E,⟨4,[jI]⟩)::(G,⟨4,[cV s o t]⟩)::R):=by
 refine iR l.length (λk=>([.pptr [i.enc] 0 0,.ptr G 0 0,.ptr E 0 0,.lst (l.map ah),.Uf k],(E,⟨4,[jI]⟩)::(G,⟨4,[cV s o t]⟩)::R)) (λk=>∀x∈l.take k,s.has x=true) Ud rfl rfl ?_;intro k hk hG;dsimp only;refine vw ?_;rcases Nat.lt_or_ge k l.length with D|D
 .have hd:=aW D;have S:=ao (f:=ah) D;have Z:l.take (k+1)=l.take k++[l[k]]:=Sw D;have no:s.has l[k]=false->l.all s.has=false:=λh=>by rw[List.all_eq_false];exact⟨_,Sy D,by simp[h]⟩
  have M:s.has l[k]=true->∀x∈l.take (k+1),s.has x=true:=λh x S=>by
   rw[Z]at S;rcases SC.1 S with Y|Y
   .exact hG x Y
   .simp at Y;rw[Y];exact h
  cases o with
  |none=>
   have h0:=ho rfl;have h00:s.has l[k]=false:=by simp[aC.has,inB,h0]
   unfold cV;dsimp only[aJ]
   repeat' (first|refine st ?_|refine sb λN u=>?_|refine s2 (λh=>?_) λh=>?_|fail)
   all_goals first|exact B (no h00) _|skip
   all_goals
    exfalso;simp_all
    try omega
  |some b1=>
   have O:s.has l[k]=(decide (0<=l[k])&&decide (l[k]<(s.regs.length:Int))):=rfl;unfold cV;dsimp only[aJ]
   repeat' (first|refine st ?_|refine sb λN u=>?_|refine s2 (λh=>?_) λh=>?_|fail)
   all_goals first|exact B (no (by rw[O];simp_all<;>omega)) _|exact⟨k+1,Ua,Ua,M (by rw[O];simp_all<;>omega),df (by rw[ax D Ua]<;>rfl) rfl⟩
 .have hd:=aX D;have hk0:k=l.length:=by omega
  subst hk0;have j:=j (SM.2 λx S=>hG x (by simpa using S))
  repeat' (first|exact j|refine st ?_|refine sb λN u=>?_|refine s2 (λh=>?_) λh=>?_|fail)
def Mi{b i n by_:Nat}{rows:List (List AV)}{L B:SH}{KL:AV->SH->Prop}(u:eJ b ⟨n,rows⟩ L B)(D:rows.length=i)(h2:2*i*by_<=2^48)(G:2*i<=2^62)(h:∀j,j∉L.names->KL (.sl j 0 i) ((j,⟨n,rows⟩)::B)):W.append n by_ (.sl b 0 i) .nils L KL:=by subst D;exact jF (y:=⟨n,rows⟩) (l:=rows) (m:=[]) u.mem' rfl Ud Ud rfl (by simpa using h2) (by simpa using G) rfl u (λj E=>by simpa using h j E)
def xe(s:aC)(op a ib ic n site v:Int)(k:Nat)(u:List Int)(hu:u.length<=2^31)(E b2 S b4:Nat)(Y:Bool)(ha:a=k)(hal:k<s.regs.length)(O:k<s.taint.length)(h13:S≠E)(h23:S≠b2)(x:AV)(hx:x=.nils/\u=[]\/x=.lst (u.map ah))(Q:AV->SH->Prop)
  (hq:∀vv L,(∃v2 L2,az [vv] L [v2] L2/\oD (if Y then some (s.put a v u)else none) (some E) (some b2) v2 L2)->Q vv L) :
  ko Q [.pptr [(aS.mk op a ib ic n site).enc] 0 0,.ptr S 0 0,.ptr b4 0 0,.Uf v,.bool Y,x] [(b4,⟨4,[jI]⟩),(S,⟨4,[cV s (some E) (some b2)]⟩),(E,⟨1,s.regs.map ah⟩),(b2,⟨1,s.taint.map bz⟩)]:=by
 subst ha;have hxa:=ao (f:=ah) hal;have hya:=ao (f:=bz) O;have e1:(s.put k v u).regs.map ah=(s.regs.map ah).set k [.Uf v]:=by simp[aC.put,To,ah]
 have e2:(s.put k v u).taint.map bz=(s.taint.map bz).set k [.lst (u.map ah)]:=by simp[aC.put,To,bz]
 have e3:cV (s.put k v u) (some E) (some b2)=[.Uf (IntKind.i64.wrap (s.pc+1)),.sl E 0 s.regs.length,.sl b2 0 s.taint.length,.Uf s.ev]:=by simp[cV,aC.put,aJ]
 have fin:∀(Z m:Nat) (L:SH) (c3 c4:Blk) (r:List AV),r=[.sl Z 0 m]->m=u.length->tW L ([(E,⟨1,(s.regs.map ah).set k [.Uf v]⟩)]++(b2,⟨1,(s.taint.map bz).set k r⟩)::[]) [(Z,⟨1,u.map ah⟩),(b4,c4),(S,c3)]->Q (.tup [.agg [.Uf (IntKind.i64.wrap (s.pc+1)),.sl E 0 s.regs.length,.sl b2 0 s.taint.length,.Uf s.ev],.bool Y]) L:=by
  intro Z m L c3 c4 r hr hm M;subst hr;refine hq _ _ ?_;cases Y with
  |false=>exact⟨_,[],az.all (.refl _),.inr ⟨s.put k v u,by rw[e3]⟩⟩
  |true=>
   refine⟨.tup [.agg (cV (s.put k v u) (some E) (some b2)),.bool true],[(E,⟨1,(s.regs.map ah).set k [.Uf v]⟩),(b2,⟨1,(s.taint.map bz).set k [.lst (u.map ah)]⟩)],?_,rfl,?_⟩
   .refine az.rowA (A:=[(E,_)]) (b:=b2) (R:=[]) (rows':=(s.taint.map bz).set k [.lst (u.map ah)]) M Ud (λj r r' N G=>?_) (by rw[e3]);rw[SS]at N G;by_cases hj:k=j
    .rw[if_pos hj]at N G;rw[if_pos (by simp;omega)]at N G;cases N;cases G;exact .cons (Fz.sls (l:=u) (.head _) rfl Ue hm) .nil
    .rw[if_neg hj]at N G;rw[N]at G;cases G;exact fU.refl _ _
   .rw[e1,e2];rfl
 refine vw ?_;rcases hx with⟨rfl,rfl⟩|rfl
 .repeat' (first|refine st ?_|refine Mi rp rfl Ue Ue (λB D=>?_)|refine sb λB D=>?_|refine s2 (λh=>?_) λh=>?_|fail)
  exact fin B 0 _ _ _ _ rfl rfl rp
 .repeat' (first|refine st ?_|refine ga rp (λ_=>rfl) Uc (by simp;omega) (by simp;omega) (λ_=>rfl) (λB D=>?_)|refine sb λB D=>?_|refine s2 (λh=>?_) λh=>?_|fail)
  exact fin B (0+u.length) _ _ _ _ rfl Ud rp
section
structure Sg(P:Prop):Prop where
 h:P
theorem He{Q:AV->SH->Prop}{vs:List AV}{L:SH}(h:Sg (ko Q vs L)):ko Q vs L:=h.h
theorem F3(o:Option Nat)(n:Nat):(aJ o n).one=true:=by cases o<;>rfl
theorem oE(s:aC)(o t:Option Nat):(cV s o t).all AV.one=true:=by unfold cV;simp[F3];exact⟨rfl,rfl⟩
theorem Ss(n a:Int):aq Tryz.prog 127 [.Uf (JV n),.Uf a] (.tup [.Uf (x9 n a).1,.bool (x9 n a).2]):=by
 have:=If (JV n) a
 rwa [QB]at this
theorem Sh(n a b:Int):aq Tryz.prog 129 [.Uf (JV n),.Uf a,.Uf b] (.tup [.Uf (iI n a b).1,.bool (iI n a b).2]):=by
 have:=F1 (JV n) a b
 rwa [N9]at this
section
variable (s:aC) (o t:Option Nat) (ho:o=none->s.regs=[]) (ht:t=none->s.taint=[]) (hlen:s.taint.length=s.regs.length) (hsm:s.regs.length<2^40) (hsh:∀l∈s.taint,l.length<=2^30) (ia ib ic n site:Int)
include ho ht hlen hsm hsh
theorem Oz:ac Tryz.prog 84 [.agg (aS.mk 5 ia ib ic n site).enc,.agg (cV s o t)] (ab o 1 (s.regs.map ah)++ab t 1 (s.taint.map bz)) (oD (aL ⟨5,ia,ib,ic,n,site⟩ s) o t):=by
 have N:aq Tryz.prog 54 [.agg (aS.mk 5 ia ib ic n site).enc] (.lst (([]:List Int).map ah)):=by have:=l9 ⟨5,ia,ib,ic,n,site⟩;simpa[aN]using this
 refine ac.fz (fC _ _ _ _ ?_);refine vw ?_;generalize G:(λ(v:AV) (L:SH)=>∃B E,az [v] L [B] E/\oD (aL ⟨5,ia,ib,ic,n,site⟩ s) o t B E)=Q;have D:∀vv L,(∃B E,az [vv] L [B] E/\oD (aL ⟨5,ia,ib,ic,n,site⟩ s) o t B E)->Q vv L:=by subst G;exact λ_ _ h=>h
 clear G
 repeat' (first|refine st ?_|refine xQ (cs:=cV s o t) rfl (oE s o t) (λj u=>?_)|(refine pf 54 ?_;refine pm (N) ?_)|refine sb λj u=>?_|refine s2 (λh=>?_) λh=>?_|fail)
 rename_i M O;refine lj s o t ho hsm (aS.mk 5 ia ib ic n site) M j _ Q [] Ud (λh L=>?_) (λh=>?_)
 .simp at h
 .have e:aL ⟨5,ia,ib,ic,n,site⟩ s=some {s with pc:=ia}:=by simp[aL]
  rw[e]at D;refine vw ?_;rcases o with _|Y<;>rcases t with _|S
  all_goals
   dsimp only[ab,List.cons_append,List.nil_append]
   repeat' (first|refine st ?_|refine sb λj u=>?_|refine s2 (λh=>?_) λh=>?_|fail)
   exact D _ _ ⟨_,_,az.forget (K:=[(j,_),(M,_)]) (List.Perm.refl _),rfl,rfl⟩
theorem OA:ac Tryz.prog 84 [.agg (aS.mk 1 ia ib ic n site).enc,.agg (cV s o t)] (ab o 1 (s.regs.map ah)++ab t 1 (s.taint.map bz)) (oD (aL ⟨1,ia,ib,ic,n,site⟩ s) o t):=by
 have hr:aq Tryz.prog 54 [.agg (aS.mk 1 ia ib ic n site).enc] (.lst ([ia].map ah)):=by have:=l9 ⟨1,ia,ib,ic,n,site⟩;simpa[aN]using this
 refine ac.fz (fC _ _ _ _ ?_);refine vw ?_;generalize hQ:(λ(v:AV) (L:SH)=>∃G N,az [v] L [G] N/\oD (aL ⟨1,ia,ib,ic,n,site⟩ s) o t G N)=Q;have u:∀vv L,(∃G N,az [vv] L [G] N/\oD (aL ⟨1,ia,ib,ic,n,site⟩ s) o t G N)->Q vv L:=by subst hQ;exact λ_ _ h=>h
 clear hQ
 repeat' (first|refine st ?_|refine xQ (cs:=cV s o t) rfl (oE s o t) (λj B=>?_)|(refine pf 54 ?_;refine pm (hr) ?_)|refine sb λj B=>?_|refine s2 (λh=>?_) λh=>?_|fail)
 rename_i O M;refine lj s o t ho hsm (aS.mk 1 ia ib ic n site) O j _ Q [ia] Ud (λh L=>?_) (λh=>?_)
 .have e:aL ⟨1,ia,ib,ic,n,site⟩ s=none:=by simp at h;simp_all[aL]
  rw[e]at u;exact u _ _ ⟨_,[],az.all (.refl _),.inl rfl⟩
 .have Z:s.has ia=true:=by simpa using h
  have e:aL ⟨1,ia,ib,ic,n,site⟩ s=if true then some (s.put ia n [])else none:=by simp[aL,Z]
  rw[e]at u;obtain⟨a,rfl,E⟩:=dK.1 Z;obtain⟨b1,rfl⟩:=dL ho E;obtain⟨b2,rfl⟩:=dL ht (k:=a) Ua;have Y:O≠b1:=λe=>M (by simp[SH.names,ab,e])
  have S:O≠b2:=λe=>M (by simp[SH.names,ab,e])
  have D:a<s.taint.length:=by omega
  have hxa:=ao (f:=ah) E;have hya:=ao (f:=bz) D;refine vw ?_;dsimp only[ab,List.cons_append,List.nil_append]
  repeat' (first|(with_reducible refine He ?_)|refine st ?_|refine sb λj B=>?_|refine s2 (λh=>?_) λh=>?_|fail)
  exact⟨xe s 1 a _ _ n site n a [] Ue b1 b2 O j true rfl E D Y S _ (.inl ⟨rfl,rfl⟩) Q u⟩
theorem OB:ac Tryz.prog 84 [.agg (aS.mk 2 ia ib ic n site).enc,.agg (cV s o t)] (ab o 1 (s.regs.map ah)++ab t 1 (s.taint.map bz)) (oD (aL ⟨2,ia,ib,ic,n,site⟩ s) o t):=by
 have hr:aq Tryz.prog 54 [.agg (aS.mk 2 ia ib ic n site).enc] (.lst ([ia,ib].map ah)):=by have:=l9 ⟨2,ia,ib,ic,n,site⟩;simpa[aN]using this
 refine ac.fz (fC _ _ _ _ ?_);refine vw ?_;generalize hQ:(λ(v:AV) (L:SH)=>∃M S,az [v] L [M] S/\oD (aL ⟨2,ia,ib,ic,n,site⟩ s) o t M S)=Q;have j:∀vv L,(∃M S,az [vv] L [M] S/\oD (aL ⟨2,ia,ib,ic,n,site⟩ s) o t M S)->Q vv L:=by subst hQ;exact λ_ _ h=>h
 clear hQ
 repeat' (first|refine st ?_|refine xQ (cs:=cV s o t) rfl (oE s o t) (λB D=>?_)|(refine pf 54 ?_;refine pm (hr) ?_)|refine sb λB D=>?_|refine s2 (λh=>?_) λh=>?_|fail)
 rename_i Y O;refine lj s o t ho hsm (aS.mk 2 ia ib ic n site) Y B _ Q [ia,ib] Ud (λh L=>?_) (λh=>?_)
 .have e:aL ⟨2,ia,ib,ic,n,site⟩ s=none:=by simp at h;simp_all[aL]
  rw[e]at j;exact j _ _ ⟨_,[],az.all (.refl _),.inl rfl⟩
 .obtain⟨ha,hb⟩:s.has ia=true/\s.has ib=true:=by simpa using h
  have e:aL ⟨2,ia,ib,ic,n,site⟩ s=if true then some (s.put ia (s.reg ib) (s.tnt ib))else none:=by simp[aL,ha,hb]
  rw[e]at j;obtain⟨a,rfl,G⟩:=dK.1 ha;obtain⟨b,rfl,N⟩:=dK.1 hb;obtain⟨b1,rfl⟩:=dL ho G;obtain⟨b2,rfl⟩:=dL ht (k:=a) Ua;have h13:Y≠b1:=λe=>O (by simp[SH.names,ab,e])
  have h23:Y≠b2:=λe=>O (by simp[SH.names,ab,e])
  have E:a<s.taint.length:=by omega
  have hxa:=ao (f:=ah) G;have hya:=ao (f:=bz) E;have u:b<s.taint.length:=by omega
  have hxb:=ao (f:=ah) N;have hyb:=ao (f:=bz) u;have Z:s.taint[b].length<=2^31:=by have:=hsh _ (Sy u);omega
  have hrb:s.reg b=s.regs[b]:=by simp[aC.reg,List.getD,N]
  have htb:s.tnt b=s.taint[b]:=by simp[aC.tnt,List.getD,u]
  rw[hrb,htb]at j;refine vw ?_;dsimp only[ab,List.cons_append,List.nil_append]
  repeat' (first|(with_reducible refine He ?_)|refine st ?_|refine sb λB D=>?_|refine s2 (λh=>?_) λh=>?_|fail)
  exact⟨xe s 2 a _ _ n site _ a _ Z b1 b2 Y B true rfl G E h13 h23 _ (.inr rfl) Q j⟩
theorem OC:ac Tryz.prog 84 [.agg (aS.mk 3 ia ib ic n site).enc,.agg (cV s o t)] (ab o 1 (s.regs.map ah)++ab t 1 (s.taint.map bz)) (oD (aL ⟨3,ia,ib,ic,n,site⟩ s) o t):=by
 have hr:aq Tryz.prog 54 [.agg (aS.mk 3 ia ib ic n site).enc] (.lst ([ia,ib].map ah)):=by have:=l9 ⟨3,ia,ib,ic,n,site⟩;simpa[aN]using this
 refine ac.fz (fC _ _ _ _ ?_);refine vw ?_;generalize hQ:(λ(v:AV) (L:SH)=>∃M Y,az [v] L [M] Y/\oD (aL ⟨3,ia,ib,ic,n,site⟩ s) o t M Y)=Q;have j:∀vv L,(∃M Y,az [vv] L [M] Y/\oD (aL ⟨3,ia,ib,ic,n,site⟩ s) o t M Y)->Q vv L:=by subst hQ;exact λ_ _ h=>h
 clear hQ
 repeat' (first|refine st ?_|refine xQ (cs:=cV s o t) rfl (oE s o t) (λB D=>?_)|(refine pf 54 ?_;refine pm (hr) ?_)|refine sb λB D=>?_|refine s2 (λh=>?_) λh=>?_|fail)
 rename_i Z S;refine lj s o t ho hsm (aS.mk 3 ia ib ic n site) Z B _ Q [ia,ib] Ud (λh L=>?_) (λh=>?_)
 .have e:aL ⟨3,ia,ib,ic,n,site⟩ s=none:=by simp at h;simp_all[aL]
  rw[e]at j;exact j _ _ ⟨_,[],az.all (.refl _),.inl rfl⟩
 .obtain⟨ha,hb⟩:s.has ia=true/\s.has ib=true:=by simpa using h
  have e:aL ⟨3,ia,ib,ic,n,site⟩ s=if(x9 n (s.reg ib)).2 then some (s.put ia (x9 n (s.reg ib)).1 (s.tnt ib))else none:=by simp[aL,ha,hb]
  rw[e]at j;obtain⟨a,rfl,G⟩:=dK.1 ha;obtain⟨b,rfl,O⟩:=dK.1 hb;obtain⟨b1,rfl⟩:=dL ho G;obtain⟨b2,rfl⟩:=dL ht (k:=a) Ua;have h13:Z≠b1:=λe=>S (by simp[SH.names,ab,e])
  have h23:Z≠b2:=λe=>S (by simp[SH.names,ab,e])
  have E:a<s.taint.length:=by omega
  have hxa:=ao (f:=ah) G;have hya:=ao (f:=bz) E;have u:b<s.taint.length:=by omega
  have hxb:=ao (f:=ah) O;have hyb:=ao (f:=bz) u;have hub:s.taint[b].length<=2^31:=by have:=hsh _ (Sy u);omega
  have hrb:s.reg b=s.regs[b]:=by simp[aC.reg,List.getD,O]
  have htb:s.tnt b=s.taint[b]:=by simp[aC.tnt,List.getD,u]
  have hop:=vC n;have N:=Ss n s.regs[b];rw[hrb,htb]at j;generalize x9 n s.regs[b]=p at N j;refine vw ?_;dsimp only[ab,List.cons_append,List.nil_append]
  repeat' (first|(with_reducible refine He ?_)|refine st ?_|(refine pf 128 ?_;refine pm (hop) ?_)|(refine pf 127 ?_;refine pm (N) ?_)|(refine B7 ?_ ?_;focus (simp[rm,rc,rz,W.free,af,fk,cF,SH.names,aJ];done))|refine sb λB D=>?_|refine s2 (λh=>?_) λh=>?_|fail)
  exact⟨xe s 3 a _ _ n site p.1 a _ hub b1 b2 Z B p.2 rfl G E h13 h23 _ (.inr rfl) Q j⟩
theorem OD:ac Tryz.prog 84 [.agg (aS.mk 4 ia ib ic n site).enc,.agg (cV s o t)] (ab o 1 (s.regs.map ah)++ab t 1 (s.taint.map bz)) (oD (aL ⟨4,ia,ib,ic,n,site⟩ s) o t):=by
 have hr:aq Tryz.prog 54 [.agg (aS.mk 4 ia ib ic n site).enc] (.lst ([ia,ib,ic].map ah)):=by have:=l9 ⟨4,ia,ib,ic,n,site⟩;simpa[aN]using this
 refine ac.fz (fC _ _ _ _ ?_);refine vw ?_;generalize hQ:(λ(v:AV) (L:SH)=>∃O L2,az [v] L [O] L2/\oD (aL ⟨4,ia,ib,ic,n,site⟩ s) o t O L2)=Q;have j:∀vv L,(∃O L2,az [vv] L [O] L2/\oD (aL ⟨4,ia,ib,ic,n,site⟩ s) o t O L2)->Q vv L:=by subst hQ;exact λ_ _ h=>h
 clear hQ
 repeat' (first|refine st ?_|refine xQ (cs:=cV s o t) rfl (oE s o t) (λE G=>?_)|(refine pf 54 ?_;refine pm (hr) ?_)|refine sb λE G=>?_|refine s2 (λh=>?_) λh=>?_|fail)
 rename_i b3 hb3;refine lj s o t ho hsm (aS.mk 4 ia ib ic n site) b3 E _ Q [ia,ib,ic] Ud (λh L=>?_) (λh=>?_)
 .have e:aL ⟨4,ia,ib,ic,n,site⟩ s=none:=by simp at h;simp_all[aL]
  rw[e]at j;exact j _ _ ⟨_,[],az.all (.refl _),.inl rfl⟩
 .obtain⟨ha,hb,hc⟩:s.has ia=true/\s.has ib=true/\s.has ic=true:=by simpa using h
  have e:aL ⟨4,ia,ib,ic,n,site⟩ s=if(iI n (s.reg ib) (s.reg ic)).2 then some (s.put ia (iI n (s.reg ib) (s.reg ic)).1 (z7 (s.tnt ib++s.tnt ic)))else none:=by simp[aL,ha,hb,hc]
  rw[e]at j;obtain⟨a,rfl,N⟩:=dK.1 ha;obtain⟨b,rfl,hbl⟩:=dK.1 hb;obtain⟨c,rfl,hcl⟩:=dK.1 hc;obtain⟨b1,rfl⟩:=dL ho N;obtain⟨b2,rfl⟩:=dL ht (k:=a) Ua;have h13:b3≠b1:=λe=>hb3 (by simp[SH.names,ab,e])
  have h23:b3≠b2:=λe=>hb3 (by simp[SH.names,ab,e])
  have M:a<s.taint.length:=by omega
  have hxa:=ao (f:=ah) N;have hya:=ao (f:=bz) M;have D:b<s.taint.length:=by omega
  have hxb:=ao (f:=ah) hbl;have hyb:=ao (f:=bz) D;have B:c<s.taint.length:=by omega
  have hxc:=ao (f:=ah) hcl;have hyc:=ao (f:=bz) B;have hub:s.taint[b].length<=2^31:=by have:=hsh _ (Sy D);omega
  have huc:s.taint[c].length<=2^31:=by have:=hsh _ (Sy B);omega
  have hrb:s.reg b=s.regs[b]:=by simp[aC.reg,List.getD,hbl]
  have htb:s.tnt b=s.taint[b]:=by simp[aC.tnt,List.getD,D]
  have hrc:s.reg c=s.regs[c]:=by simp[aC.reg,List.getD,hcl]
  have htc:s.tnt c=s.taint[c]:=by simp[aC.tnt,List.getD,B]
  have hop:=vC n;have S:=Sh n s.regs[b] s.regs[c];have Y:=Bz s.taint[b] s.taint[c] Ua Ua;have Z:(z7 (s.taint[b]++s.taint[c])).length<=2^31:=Nat.le_trans (Bq (U:=s.taint[b]++s.taint[c]) λx hx=>hx) (by have h1:=hsh _ (List.getElem_mem D);have h2:=hsh _ (List.getElem_mem B);simp;omega);rw[hrb,htb,hrc,htc]at j;generalize iI n s.regs[b] s.regs[c]=p at S j;generalize z7 (s.taint[b]++s.taint[c])=u at Y j Z;refine vw ?_;dsimp only[ab,List.cons_append,List.nil_append]
  repeat' (first|(with_reducible refine He ?_)|refine st ?_|(refine pf 128 ?_;refine pm (hop) ?_)|(refine pf 129 ?_;refine pm (S) ?_)|(refine pf 78 ?_;refine pm (Y) ?_)|(refine B7 ?_ ?_;focus (simp[rm,rc,rz,W.free,af,fk,cF,SH.names,aJ];done))|refine sb λE G=>?_|refine s2 (λh=>?_) λh=>?_|fail)
  exact⟨xe s 4 a _ _ n site p.1 a u Z b1 b2 b3 E p.2 rfl N M h13 h23 _ (.inr rfl) Q j⟩
end
end
end Go.Proofs.YtbofdbhnbodbiaaGreatDoor.Am
