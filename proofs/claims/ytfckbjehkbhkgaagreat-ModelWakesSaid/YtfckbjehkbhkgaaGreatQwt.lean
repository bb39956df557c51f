/- part -/
import Derived.Test.YtfckbjehkbhkgaaGreatQwr
import Derived.Test.YtfckbjehkbhkgaaGreatQws
set_option linter.all false
set_option maxRecDepth 100000
set_option maxHeartbeats 0
namespace Go.Proofs.YtfckbjehkbhkgaaGreat.Am
section
theorem KA{α β:Type}(f:α->β)(l:List α)(q k:Nat)(r:β)(u:k<l.length):((l.take (k+1)).map f).set q r=((l.take k).map f).set q r++[if k=q then r else f l[k]]:=by
 rw[Fn u,ST];have j:((l.take k).map f).length=k:=by simp;omega
 by_cases h:q<k
 .rw[List.set_append_left _ _ acN,if_neg acN];rfl
 .rw[List.set_append_right _ _ acN,j,List.set_eq_of_length_le (l:=(l.take k).map f) acN];by_cases e:k=q
  .subst e;simp
  .rw[if_neg e,List.set_eq_of_length_le acS];rfl
theorem KB{α:Type}(l:List α)(q:Nat)(r:α)(h:l.length<=q):l.set q r=l:=List.set_eq_of_length_le h
theorem ax.rowP{vs:List AV}{L A R K:SH}{b n:Nat}{rows rows':List (List AV)}(h:L.Perm (K++(A++(b,⟨n,rows⟩)::R)))(D:rows.length=rows'.length)(hr:∀(j:Nat) (r G:List AV),rows[j]? =some r->rows'[j]? =some G->fy K r G):ax vs L vs (A++(b,⟨n,rows'⟩)::R):=by
 refine⟨K,_,h,⟨rfl,λi a M h1 u=>by rw[h1]at u;cases u;exact .refl _⟩,acQ,λi p q h1 u=>?_⟩;have B:p=q->p.1=q.1/\p.2.size=q.2.size/\p.2.rows.length=q.2.rows.length/\∀(j:Nat) (r E:List AV),p.2.rows[j]? =some r->q.2.rows[j]? =some E->r.length=E.length/\∀(k:Nat) (a M:AV),r[k]? =some a->E[k]? =some M->Fz K a M:=λe=>by subst e;exact⟨rfl,rfl,rfl,λj r E Z S=>by rw[Z]at S;cases S;exact⟨rfl,λk a M Y O=>by rw[Y]at O;cases O;exact .refl _⟩⟩
 rcases LE i A.length with N|N
 .rw[aaW N]at h1 u;rw[h1]at u;cases u;exact B rfl
 .rw[aaL N]at h1 u;generalize i-A.length=k at h1 u
  match k with
  |0=>cases h1;cases u;exact⟨rfl,rfl,D,λj r G g1 g2=>(hr j r G g1 g2).at_⟩
  |k+1=>simp only[acj]at h1 u;rw[h1]at u;cases u;exact B rfl
theorem W7{α:Type}(u j b3 b2:α)(N T:List α):(u::j::(N++(b3::b2::T))).Perm ((j::N)++([b3,b2]++u::T)):=by
 refine(List.Perm.swap _ _ _).trans (List.Perm.cons _ ?_);refine List.perm_middle.symm.trans ?_ |>.trans (List.Perm.refl _)
 refine List.Perm.append_left N ?_;exact((List.Perm.swap _ _ _).trans ((List.Perm.swap _ _ _).cons _))
theorem Uq{α:Type}(j b3 b2:α)(N T:List α):(j::(N++(b3::b2::T))).Perm (b3::b2::j::(N++T)):=
 ((List.perm_middle.trans (List.perm_middle.cons _)).cons _).trans ((List.Perm.swap _ _ _).trans ((List.Perm.swap _ _ _).cons _))
def jS(s:eE)(bc bf:Nat)(x:AV):List AV:=[.lst (s.sync.locks.map LockD.enc),.acU s.sync.tx,.lst (s.sync.done.map au),.lst (s.sync.threads.map ThrD.enc),.sl bc 0 s.cells.length,.sl bf 0 s.futures.length,x]
theorem Gw(s:eE)(bc bf:Nat)(o:Option Nat)(n:Nat):(jS s bc bf (af o n)).all AV.one=true:=by show(true&&(true&&(true&&(true&&(true&&(true&&((af o n).one&&true)))))))=true;rw[Gv];rfl
def sO(s:bI)(o t:Option Nat):List AV:=[.acU s.pc,cU o s.regs.length,cU t s.taint.length,.acU s.ev]
def oU(s:bI)(o t:Option Nat):SH:=ab o 1 (s.regs.map aa)++ab t 1 (s.taint.map eX)
section
variable (s:eE) (q b2 b3 bc bf:Nat) (h1:s.threads.length<=2^30) (hr:∀e∈s.threads,e.regs.length<2^40/\e.taint.length<=2^30/\∀r∈e.taint,r.length<=2^30) (Q:R)
include h1 hr
theorem RQ(E L0:SH)(hL0:L0.Perm ((b3,⟨7,[jS s bc bf .nils]⟩)::(b2,⟨7,[ca]⟩)::E))
  (u:∀(G o t:Option Nat) (z:List AV),(G=none->s.threads=[])->(o=none->q<s.threads.length->(s.threads.getD q bI.zero).regs=[])->(t=none->q<s.threads.length->(s.threads.getD q bI.zero).taint=[])->Q (.agg (jS s bc bf (af G s.threads.length))) ((b3,⟨7,[jS s bc bf (af G s.threads.length)]⟩)::((b2,⟨7,[z]⟩)::(ab G 4 ((s.threads.map bI.enc).set q (sO (s.threads.getD q bI.zero) o t))++((if q<s.threads.length then oU (s.threads.getD q bI.zero) o t else [])++E))))) :
  W.loop (tH Q) [.pptr [s.enc] 0 0,.ptr b2 0 0,.ptr b3 0 0,.acU (0:Nat)] L0:=by
 generalize hth:s.threads.getD q bI.zero=th at *;refine aL s.threads.length (λk (p:Option Nat×Option Nat×Option Nat)=>([.pptr [s.enc] 0 0,.ptr b2 0 0,.ptr b3 0 0,.acU k],(b3,⟨7,[jS s bc bf (af p.1 k)]⟩)::((b2,⟨7,[ca]⟩)::(ab p.1 4 (((s.threads.take k).map bI.enc).set q (sO th p.2.1 p.2.2))++((if q<k then oU th p.2.1 p.2.2 else [])++E)))))
  (λk p=>(p.1=none->k=0)/\(p.2.1=none->q<k->th.regs=[])/\(p.2.2=none->q<k->th.taint=[])) (none,none,none) ⟨λ_=>rfl,λ_ h=>by omega,λ_ h=>by omega⟩ (ax.box (K:=[]) hL0 (by unfold jS;exact .cons (.refl _) (.cons (.refl _) (.cons (.refl _) (.cons (.refl _) (.cons (.refl _) (.cons (.refl _) (.cons .nile .nil)))))))) ?_
 rintro k ⟨G,o,t⟩ hk ⟨i1,i2,i3⟩;dsimp only at i1 i2 i3 ⊢;refine vw ?_;rcases Nat.lt_or_ge k s.threads.length with D|D
 .have hd:=aS D;have hx:=aj (f:=bI.enc) D;obtain⟨r1,r2,r3⟩:=hr _ (LT D);have hcp:=Kz s.threads[k] r1 acN r3;generalize hT:(if q<k then oU th o t else [])++E=T;have hlen:(((s.threads.take k).map bI.enc).set q (sO th o t)).length=k:=by simp;omega
  have h0:G=none->((s.threads.take k).map bI.enc).set q (sO th o t)=[]:=λe=>by rw[i1 e];rfl
  have hss:=KA bI.enc s.threads q k (sO th o t) D;generalize hX:((s.threads.take k).map bI.enc).set q (sO th o t)=X at *;unfold jS ca;rw[show s.enc=[.lst (s.sync.locks.map LockD.enc),.acU s.sync.tx,.lst (s.sync.done.map au),.lst (s.sync.threads.map ThrD.enc),.lst (s.cells.map aa),.lst (s.futures.map aa),.lst (s.threads.map bI.enc)]from rfl];clear u hr
  repeat' (first|refine sy ?_|intro)
  refine HO hcp (by simp[rm,rz,W.free,ai]) ?_;rintro v K ⟨S,N,rfl,rfl,ho',Z⟩
  skip
  have fin:∀(Y nt:Nat) (B:Blk),∃(j:Nat) (p:Option Nat×Option Nat×Option Nat),k<j/\j<=s.threads.length/\((p.1=none->j=0)/\(p.2.1=none->q<j->th.regs=[])/\(p.2.2=none->q<j->th.taint=[]))/\ax [.pptr [[.lst (s.sync.locks.map LockD.enc),.acU s.sync.tx,.lst (s.sync.done.map au),.lst (s.sync.threads.map ThrD.enc),.lst (s.cells.map aa),.lst (s.futures.map aa),.lst (s.threads.map bI.enc)]] 0 0,.ptr b2 0 0,.ptr b3 0 0,.acU (IntKind.i64.wrap ((k:Int)+1))]
    ((Y,⟨4,X++[sO s.threads[k] S N]⟩)::(nt,B)::(oU s.threads[k] S N++((b3,⟨7,[jS s bc bf (.sl Y 0 (k+1))]⟩)::(b2,⟨7,[ca]⟩)::T)))
    [.pptr [[.lst (s.sync.locks.map LockD.enc),.acU s.sync.tx,.lst (s.sync.done.map au),.lst (s.sync.threads.map ThrD.enc),.lst (s.cells.map aa),.lst (s.futures.map aa),.lst (s.threads.map bI.enc)]] 0 0,.ptr b2 0 0,.ptr b3 0 0,.acU j]
    ((b3,⟨7,[jS s bc bf (af p.1 j)]⟩)::((b2,⟨7,[ca]⟩)::(ab p.1 4 (((s.threads.take j).map bI.enc).set q (sO th p.2.1 p.2.2))++((if q<j then oU th p.2.1 p.2.2 else [])++E)))):=by
   intro Y nt B;rw[av D acN];by_cases hkq:k=q
   .subst hkq;have eth:th=s.threads[k]:=by rw[<-hth];simp[D]
    subst eth;refine⟨k+1,(some Y,S,N),acN,acN,⟨nofun,λe _=>ho' e,λe _=>Z e⟩,?_⟩;dsimp only;rw[KA bI.enc s.threads k k (sO s.threads[k] S N) D,KB _ _ _ acS,if_pos rfl,if_pos (Nat.lt_succ_self k)];rw[<-hX,KB _ _ _ acS,<-hT,if_neg (Nat.lt_irrefl k),List.nil_append];refine ax.forget (K:=[(nt,B)]) ((List.Perm.swap _ _ _).trans (List.Perm.cons _ ?_));exact Uq _ _ _ _ _
   .refine⟨k+1,(some Y,o,t),acN,acN,⟨nofun,λe h=>i2 e acN,λe h=>i3 e acN⟩,?_⟩;dsimp only;rw[hss,if_neg hkq,<-hT];have e1:(if q<k+1 then oU th o t else [])=(if q<k then oU th o t else []):=by
     by_cases hq:q<k
     .rw[if_pos hq,if_pos acN]
     .rw[if_neg hq,if_neg acN]
    rw[e1];refine ax.rowP (K:=(nt,B)::oU s.threads[k] S N) (A:=[(b3,_),(b2,_)]) (W7 _ _ _ _ _ _) acQ ?_;intro j r r' M O;rcases LE j X.length with hj|hj
    .rw[aaW hj]at M O;rw[M]at O;cases O;exact fy.refl _ _
    .rw[aaL hj]at M O;rcases hm:j-X.length with _|m
     .rw[hm]at M O;cases M;cases O;refine .cons (.refl _) (.cons ?_ (.cons ?_ (.cons (.refl _) .nil)))
      .exact nu rfl ho' λb e=>by subst e;simp[oU,ab]
      .exact nu rfl Z λb e=>by subst e;simp[oU,ab]
     .rw[hm]at M;simp at M
  rcases S with _|c'<;>rcases N with _|d'
  all_goals
   dsimp only[cU,ab,List.nil_append,List.cons_append]
   repeat' (first|refine sy ?_|refine aM rp rp hlen h0 acP acQ acS acS acP (λnb_ hnb_=>?_)|intro)
   exact fin _ _ _
 .have hd:=aW D;have hk0:k=s.threads.length:=by omega
  subst hk0;rw[aaT (Fd _)];have he:=λz=>u G o t z (λe=>abU.1 (i1 e)) i2 i3
  unfold jS ca at *;rw[show s.enc=[.lst (s.sync.locks.map LockD.enc),.acU s.sync.tx,.lst (s.sync.done.map au),.lst (s.sync.threads.map ThrD.enc),.lst (s.cells.map aa),.lst (s.futures.map aa),.lst (s.threads.map bI.enc)]from rfl];have hb:=Gw s bc bf G s.threads.length;unfold jS at hb;clear u hr
  repeat' (first|refine sy ?_|refine bD rp rfl rfl hb rfl ?_|intro)
  exact he _
end
theorem uL(s:SyncD)(h1:s.locks.length<2^40)(h2:s.done.length<=140737488351232)(B:s.threads.length<2^40)(j:∀l∈s.locks,l.readers.length<2^40):aq Tryz.prog 43 [.agg s.enc] (.agg s.enc):=by refine ac.fz ((Kt s h1 h2 B j).mono ?_);rintro v L ⟨D,G,E,rfl,rfl,u⟩;exact⟨.agg s.enc,[],ax.all (Fz.aggs (.cons (zF u λp hp=>by simp[hp]) (.cons (.refl _) (.cons (Fz.sls (size:=1) acQ rfl acR rfl) (.cons (Fz.sls (size:=3) acQ rfl acR rfl) .nil))))),rfl,rfl⟩
structure W8(s:eE)(q:Nat)(v:AV)(L:SH):Prop where
 ex:∃(bc bf:Nat) (ot o t:Option Nat),v=.agg (jS s bc bf (af ot s.threads.length))/\
  L=ab ot 4 ((s.threads.map bI.enc).set q (sO (s.threads.getD q bI.zero) o t))++((if q<s.threads.length then oU (s.threads.getD q bI.zero) o t else [])++[(bf,⟨1,s.futures.map aa⟩),(bc,⟨1,s.cells.map aa⟩)])/\
  (ot=none->s.threads=[])/\(o=none->q<s.threads.length->(s.threads.getD q bI.zero).regs=[])/\(t=none->q<s.threads.length->(s.threads.getD q bI.zero).taint=[])
theorem RS(s:eE)(q:Nat)(h1:s.threads.length<=2^30)(hc:s.cells.length<2^40)(hf:s.futures.length<2^40)(hr:∀e∈s.threads,e.regs.length<2^40/\e.taint.length<=2^30/\∀r∈e.taint,r.length<=2^30)
  (Z:s.sync.locks.length<2^40) (Y:s.sync.done.length<=140737488351232) (S:s.sync.threads.length<2^40) (O:∀l∈s.sync.locks,l.readers.length<2^40):ac Tryz.prog 151 [.agg s.enc] [] (W8 s q):=by
 have h8:=uL s.sync Z Y S O;refine ac.fz (EY _ _ _ ?_);refine vw ?_;generalize B:(λ(v:AV) (L:SH)=>∃j D,ax [v] L [j] D/\W8 s q j D)=Q;have N:∀(b2 b3 bc bf:Nat) (L:SH),CF L ((b3,⟨7,[jS s bc bf .nils]⟩)::(b2,⟨7,[ca]⟩)::[(bf,⟨1,s.futures.map aa⟩),(bc,⟨1,s.cells.map aa⟩)]) []->W.loop (tH Q) [.pptr [s.enc] 0 0,.ptr b2 0 0,.ptr b3 0 0,.acU (0:Nat)] L:=by intro b2 b3 bc bf L M;refine RQ s q b2 b3 bc bf h1 hr Q [(bf,⟨1,s.futures.map aa⟩),(bc,⟨1,s.cells.map aa⟩)] L (by simpa using M.perm) ?_;intro E o t z a1 a2 a3;subst B;exact⟨_,_,ax.forget (K:=[(b3,_),(b2,_)]) (.refl _),⟨bc,bf,E,o,t,rfl,rfl,a1,a2,a3⟩⟩
 clear B hr;unfold eE.enc SyncD.enc jS ca at *
 repeat' (first|refine sy ?_|refine dJ rp (λ_=>rfl) acP acS acS (λ_=>rfl) (λG u=>?_)|intro)
 rw[abI,abI];exact N _ _ _ _ _ rp
end
section
theorem Mv(s:SyncD):s.enc=[.lst (s.locks.map LockD.enc),.acU s.tx,.lst (s.done.map au),.lst (s.threads.map ThrD.enc)]:=rfl
def Dg(v:Int):eu:=⟨v,true⟩
def wY(s:SyncD)(x y f k:AV):List AV:=[.lst (s.locks.map LockD.enc),.acU s.tx,.lst (s.done.map au),.lst (s.threads.map ThrD.enc),x,y,.nils,f,k]
def cP:List AV:=[.nils,.acU 0,.nils,.nils,.nils,.nils,.nils,.nils,.nils]
def RU(w:aG):AV:=.lst ((List.replicate w.ev.length false).map au)
def RV(w:aG):AV:=.lst ((List.replicate w.ev.length (0:Int)).map aa)
section
variable (w:aG) (b2 b3:Nat) (Q:R) (hq:∀v L,Fz L v (.agg (bN w).enc)->Q v L)
include hq
theorem Ur(h5:w.init.futures.length<2^40)(Y:AV)(K L:SH)(u:Fz K Y (.lst ((w.init.cells.map Dg).map eu.enc)))(O:L.Perm (K++[(b3,⟨9,[wY w.init.sync Y .nils (RU w) (RV w)]⟩),(b2,⟨9,[cP]⟩)])):
  W.loop (B9 Q) [.pptr [w.enc] 0 0,.ptr b2 0 0,.ptr b3 0 0,.acU (0:Nat)] L:=by
 refine aL w.init.futures.length (λk (o:Option Nat)=>([.pptr [w.enc] 0 0,.ptr b2 0 0,.ptr b3 0 0,.acU k],(b3,⟨9,[wY w.init.sync (.lst ((w.init.cells.map Dg).map eu.enc)) (af o k) (RU w) (RV w)]⟩)::(b2,⟨9,[cP]⟩)::ab o 2 (((w.init.futures.take k).map Dg).map eu.enc))) (λk o=>o=none->k=0) none (λ_=>rfl) (ax.box O (by unfold wY;exact .cons (.refl _) (.cons (.refl _) (.cons (.refl _) (.cons (.refl _) (.cons u (.cons .nile (.cons (.refl _) (.cons (.refl _) (.cons (.refl _) .nil)))))))))) ?_;intro k o hk Z;dsimp only;refine vw ?_;have E:(((w.init.futures.take k).map Dg).map eu.enc).length=k:=by simp;omega
 have S:o=none->((w.init.futures.take k).map Dg).map eu.enc=[]:=λe=>by rw[Z e];rfl
 rcases LE k w.init.futures.length with B|B
 .have hd:=aS B;have M:=aj (f:=aa) B;have N:w.init.futures.take (k+1)=w.init.futures.take k++[w.init.futures[k]]:=Fn B;generalize hT:w.init.futures[k]=ck at *;rw[show aa ck=[.acU ck]from rfl]at M;clear hq O u;generalize RU w=fx at *;generalize RV w=wk at *;generalize(w.init.cells.map Dg).map eu.enc=gce at *;unfold wY cP;rw[bj]at *
  repeat' (first|refine sx ?_|refine aM rp rp E S acP acQ acS acS acP (λj D=>?_)|refine sb λj D=>?_|refine s2 ?_ ?_|intro)
  exact⟨k+1,some j,acN,acN,nofun,ax.pickE (R:=[(b3,_),(b2,_),(j,_)]) rp (by rw[av B acN]) (by rw[N];simp[ab,af,eu.enc,Dg,aR])⟩
 .have hd:=aW B;obtain rfl:k=w.init.futures.length:=by omega
  rw[aaT (Fd _)]at *;have G:∀L,(∀q∈ab o 2 ((w.init.futures.map Dg).map eu.enc),q∈L)->Q (.agg (wY w.init.sync (.lst ((w.init.cells.map Dg).map eu.enc)) (af o w.init.futures.length) (RU w) (RV w))) L:=λL hm=>by
   refine hq _ _ (Fz.aggs (m:=(bN w).enc) ?_);rw[cG];unfold wY;refine .cons (.refl _) (.cons (.refl _) (.cons (.refl _) (.cons (.refl _) (.cons (.refl _) (.cons ?_ (.cons .nils (.cons (.refl _) (.cons (.refl _) .nil))))))));cases o with
   |none=>show Fz L .emp (.lst ((w.init.futures.map Dg).map eu.enc));rw[S rfl];exact .emp
   |some b=>exact Fz.sls (l:=w.init.futures.map Dg) (hm _ (.head _)) rfl acR acQ
  clear hq O u;unfold RU RV at G;unfold RU RV;generalize(List.replicate w.ev.length false).map au=fx at *;generalize(List.replicate w.ev.length (0:Int)).map aa=wk at *;generalize(w.init.cells.map Dg).map eu.enc=gce at *;unfold wY at G;unfold wY cP;rw[bj]at *;cases o
  all_goals
   dsimp only[af,ab]at *
   repeat' (first|refine sy ?_|refine s2 ?_ ?_|intro)
   exact G _ acQ
theorem Us(h4:w.init.cells.length<2^40)(h5:w.init.futures.length<2^40)(Z Y:AV)(K L:SH)(B:Fz K Z (RU w))(u:Fz K Y (RV w))(O:L.Perm (K++[(b3,⟨9,[wY w.init.sync .nils .nils Z Y]⟩),(b2,⟨9,[cP]⟩)])):
  W.loop (Ca Q) [.pptr [w.enc] 0 0,.ptr b2 0 0,.ptr b3 0 0,.acU (0:Nat)] L:=by
 refine aL w.init.cells.length (λk (o:Option Nat)=>([.pptr [w.enc] 0 0,.ptr b2 0 0,.ptr b3 0 0,.acU k],(b3,⟨9,[wY w.init.sync (af o k) .nils (RU w) (RV w)]⟩)::(b2,⟨9,[cP]⟩)::ab o 2 (((w.init.cells.take k).map Dg).map eu.enc))) (λk o=>o=none->k=0) none (λ_=>rfl) (ax.box O (by unfold wY;exact .cons (.refl _) (.cons (.refl _) (.cons (.refl _) (.cons (.refl _) (.cons .nile (.cons (.refl _) (.cons (.refl _) (.cons B (.cons u .nil)))))))))) ?_;intro k o hk ho;dsimp only;refine vw ?_;have G:(((w.init.cells.take k).map Dg).map eu.enc).length=k:=by simp;omega
 have S:o=none->((w.init.cells.take k).map Dg).map eu.enc=[]:=λe=>by rw[ho e];rfl
 rcases LE k w.init.cells.length with D|D
 .have hd:=aS D;have M:=aj (f:=aa) D;have N:w.init.cells.take (k+1)=w.init.cells.take k++[w.init.cells[k]]:=Fn D;generalize hT:w.init.cells[k]=ck at *;rw[show aa ck=[.acU ck]from rfl]at M;clear hq O B u;generalize RU w=fx at *;generalize RV w=wk at *;unfold wY cP;rw[bj]at *
  repeat' (first|refine sx ?_|refine aM rp rp G S acP acQ acS acS acP (λj E=>?_)|refine sb λj E=>?_|refine s2 ?_ ?_|intro)
  exact⟨k+1,some j,acN,acN,nofun,ax.pickE (R:=[(b3,_),(b2,_),(j,_)]) rp (by rw[av D acN]) (by rw[N];simp[ab,af,eu.enc,Dg,aR])⟩
 .have hd:=aW D;obtain rfl:k=w.init.cells.length:=by omega
  rw[aaT (Fd _)]at *;have lp:=Ur w b2 b3 Q hq h5 (af o w.init.cells.length) (ab o 2 ((w.init.cells.map Dg).map eu.enc)) _ (by
   cases o with
   |none=>rw[S rfl];exact .emp
   |some b=>exact Fz.sls (l:=w.init.cells.map Dg) (.head _) rfl acR acQ) (aar (l₁:=[(b3,(⟨9,[wY w.init.sync (af o w.init.cells.length) .nils (RU w) (RV w)]⟩:Blk)),(b2,⟨9,[cP]⟩)]))
  clear hq O B u;rw[bj]at *
  repeat' (first|exact lp|refine sy ?_|refine s2 ?_ ?_|intro)
end
theorem Mw(w:aG)(W0:Av w)(Z:w.init.sync.locks.length<2^40)(h2:w.init.sync.done.length<=2^40)(Y:w.init.sync.threads.length<2^40)(N:∀l∈w.init.sync.locks,l.readers.length<2^40)(h4:w.init.cells.length<2^40)(S:w.init.futures.length<2^40):
  aq Tryz.prog 13 [.agg w.enc] (.agg (bN w).enc):=by
 have B:=uL w.init.sync Z acN Y N;refine OY λQ hq=>Cb _ _ _ ?_
 refine vw ?_;have hl:=W0.lw;have D:=λb2 b3 gf gw K L u j O=>Us w b2 b3 Q hq h4 S gf gw K L u j O
 clear hq;rw[Mv]at B;unfold wY cP at D;rw[bj]at *
 repeat' (first|refine sx ?_|refine sb λM E=>?_|refine s2 (λh=>?_) λh=>?_|fail)
 rename_i b2 _ bf _ G _ b3 _;refine D _ _ (.sl G 0 w.ev.length) (.sl b3 0 w.ev.length) [(b3,⟨1,List.replicate w.ev.length [.acU 0]⟩),(G,⟨1,List.replicate w.ev.length [.bool false]⟩)] _ ?_ ?_ ?_
 .unfold RU;exact Fz.sls (l:=List.replicate w.ev.length false) (.tail _ (.head _)) (by simp[au]) acR acQ
 .unfold RV;exact Fz.sls (l:=List.replicate w.ev.length (0:Int)) (.head _) (by simp[aa]) acR acQ
 .exact aar (l₁:=[_]) |>.trans (by simp;exact List.Perm.swap _ _ _)
end
def Dh(xs:List Int)(u:xs.length*8<=140737488355328):aq Tryz.prog 52 [.lst (xs.map aa)] (.lst (xs.map aa)):=by
 refine ac.fz ((rP xs u).mono ?_);rintro v L ⟨o,rfl,rfl,j⟩;refine⟨_,[],ax.all (v2:=.lst (xs.map aa)) ?_,rfl,rfl⟩;cases o with
 |none=>rw[j rfl];exact .emp
 |some b=>exact Fz.sls (.head _) rfl acR rfl
def KC(xs:List Bool)(u:xs.length<=140737488355328):aq Tryz.prog 51 [.lst (xs.map au)] (.lst (xs.map au)):=by
 refine ac.fz ((rQ xs u).mono ?_);rintro v L ⟨o,rfl,rfl,j⟩;refine⟨_,[],ax.all (v2:=.lst (xs.map au)) ?_,rfl,rfl⟩;cases o with
 |none=>rw[j rfl];exact .refl _
 |some b=>exact Fz.sls (.head _) rfl acR rfl
def RW(xs:List ThrD)(u:xs.length*24<=140737488355328):aq Tryz.prog 69 [.lst (xs.map ThrD.enc)] (.lst (xs.map ThrD.enc)):=by
 refine ac.fz ((yu xs u).mono ?_);rintro v L ⟨o,rfl,rfl,j⟩;refine⟨_,[],ax.all (v2:=.lst (xs.map ThrD.enc)) ?_,rfl,rfl⟩;cases o with
 |none=>rw[j rfl];exact .refl _
 |some b=>exact Fz.sls (.head _) rfl acR rfl
def Gx(l:List Int)(Z:l.length<2^40):aq Tryz.prog 42 [.lst (l.map aa)] (.lst ((l.map Dg).map eu.enc)):=by
 refine OY λQ G=>Ch _ _ _ ?_
 refine vw ?_;have O:∀b:Nat,W.loop (Cg Q) [.sl b 0 0,.lst (l.map aa),.acU l.length,.acU (0:Nat)] [(b,⟨2,[]⟩)]:=by
  intro b;refine aL l.length (λk (E:Nat)=>([.sl E 0 k,.lst (l.map aa),.acU l.length,.acU k],[(E,⟨2,((l.take k).map Dg).map eu.enc⟩)])) (λ_ _=>True) b trivial (ax.forget (K:=[]) (.refl _)) ?_;intro k E hk _;dsimp only;refine vw ?_;rcases Nat.lt_or_ge k l.length with D|D
  .have Y:=aS D;have M:=aj (f:=aa) D;have N:l.take (k+1)=l.take k++[l[k]]:=Fn D;generalize hT:l[k]=ck at *;rw[show aa ck=[.acU ck]from rfl]at M;clear G
   repeat' (first|refine sx ?_|refine fq rp rp acS rfl acS acS rfl (λB u=>?_)|refine sb λB u=>?_|refine s2 ?_ ?_|intro)
   refine⟨k+1,B,acN,acN,trivial,?_⟩;rw[av D acN,N,ST,ST];exact ax.forget (K:=[(_,_)]) (List.Perm.swap _ _ _)
  .have Y:=aW D;obtain rfl:k=l.length:=by omega
   rw[aaT (Fd _)];have S:=G (.sl E 0 l.length) [(E,⟨2,(l.map Dg).map eu.enc⟩)] (Fz.sls (.head _) rfl acR acQ);clear G
   repeat' (first|refine sy ?_|refine s2 ?_ ?_|intro)
   exact S
 clear G
 repeat' (first|exact O _|refine sy ?_|refine vF (i:=0) (j:=l.length) acN acN acN (λB u=>?_)|refine s2 ?_ ?_|intro)
def RX(s:SyncD)(h1:s.locks.length<2^40)(h2:s.done.length<=2^40)(h3:s.threads.length<2^40)(hr:∀l∈s.locks,l.readers.length<2^40):aq Tryz.prog 41 [.agg s.enc] (.agg s.enc):=by
 refine OY λQ M=>wj _ _ _ ?_
 refine vw ?_;have hb:=KC s.done acN;have ht:=RW s.threads acN;have Y:∀D B:Nat,W.loop (wh Q) [.ptr D 0 0,.ptr B 0 0,.lst (s.locks.map LockD.enc),.acU s.locks.length,.acU (0:Nat)] [(B,⟨4,[[.nils,.acU s.tx,.lst (s.done.map au),.lst (s.threads.map ThrD.enc)]]⟩),(D,⟨4,[[.nils,.acU 0,.nils,.nils]]⟩)]:=by
  intro D B;refine aL s.locks.length (λk (o:Option Nat)=>([.ptr D 0 0,.ptr B 0 0,.lst (s.locks.map LockD.enc),.acU s.locks.length,.acU k],(B,⟨4,[[af o k,.acU s.tx,.lst (s.done.map au),.lst (s.threads.map ThrD.enc)]]⟩)::(D,⟨4,[[.nils,.acU 0,.nils,.nils]]⟩)::ab o 2 ((s.locks.take k).map LockD.enc))) (λk o=>o=none->k=0) none (λ_=>rfl) (ax.box (K:=[]) (.refl _) (.cons .nile (.cons (.refl _) (.cons (.refl _) (.cons (.refl _) .nil))))) ?_;intro k o hk ho;dsimp only;refine vw ?_;have G:((s.locks.take k).map LockD.enc).length=k:=by simp;omega
  have S:o=none->(s.locks.take k).map LockD.enc=[]:=λe=>by rw[ho e];rfl
  rcases LE k s.locks.length with u|u
  .have hd:=aS u;have N:=aj (f:=LockD.enc) u;have O:s.locks.take (k+1)=s.locks.take k++[s.locks[k]]:=Fn u;have hci:=Dh s.locks[k].readers (by have:=hr _ (LT u);omega);generalize hT:s.locks[k]=ck at *;rw[show ck.enc=[.acU ck.owner,.lst (ck.readers.map aa)]from rfl]at N;clear M
   repeat' (first|refine sx ?_|refine aM rp rp G S acP acQ acS acS acP (λj E=>?_)|refine sb λj E=>?_|refine s2 ?_ ?_|intro)
   exact⟨k+1,some j,acN,acN,nofun,ax.pickE (R:=[(B,_),(D,_),(j,_)]) rp (by rw[av u acN]) (by rw[O];simp[ab,af,LockD.enc,aR])⟩
  .have hd:=aW u;obtain rfl:k=s.locks.length:=by omega
   rw[aaT (Fd _)]at *;have Z:∀L,(∀q∈ab o 2 (s.locks.map LockD.enc),q∈L)->Q (.agg [af o s.locks.length,.acU s.tx,.lst (s.done.map au),.lst (s.threads.map ThrD.enc)]) L:=λL hm=>by
    refine M _ _ (Fz.aggs (m:=s.enc) ?_);rw[Mv];refine .cons ?_ (.cons (.refl _) (.cons (.refl _) (.cons (.refl _) .nil)));cases o with
    |none=>show Fz L .emp (.lst (s.locks.map LockD.enc));rw[S rfl];exact .emp
    |some b=>exact Fz.sls (l:=s.locks) (hm _ (.head _)) rfl acR rfl
   clear M;cases o
   all_goals
    dsimp only[af,ab]at *
    repeat' (first|refine sy ?_|refine s2 ?_ ?_|intro)
    exact Z _ acQ
 clear M;rw[Mv]at *
 repeat' (first|refine sy ?_|refine s2 ?_ ?_|intro)
 exact Y _ _
def nH(r:Option aP):AV:=match r with
 |none=>.tup [.agg aP.zero.enc,.bool false]
 |some n=>.tup [.agg n.enc,.bool true]
def N9{w:aG}{c:aP}(j:oK w.w)(B:w.ev.length<=400)(H:jK w c):c.sync.locks.length<=4/\c.sync.done.length<=2/\c.sync.threads.length<=4/\c.cells.length<=12/\c.futures.length<=2/\c.order.length<=400/\c.fixed.length<=400/\c.woke.length<=400/\∀l∈c.sync.locks,l.readers.length<=800:=by
 have u:=cH.1 H.fit;have E:c.order.length<=w.ev.length:=by
  have:=List.Nodup.length_le_of_subset H.nodup (l₂:=(List.range w.ev.length).map λi:Nat=>(i:Int)) λx D=>by obtain⟨a,b⟩:=H.ord x D;exact abP.2 ⟨x.toNat,acd.2 acN,acN⟩
  simpa using this
 refine⟨by rw[u.locks];exact j.l4,by rw[u.done];exact j.f2,by rw[u.threads];exact j.t4,by rw[H.cells];exact j.c12,by rw[H.futures];exact j.f2,acN,by rw[H.fixed];exact B,by rw[H.woke];exact B,λl h=>by have:=H.rd l h;omega⟩
def wZ{n b m k:Nat}{kd:IntKind}{y:Blk}{L:SH}{K:AV->Prop}(u:k<m)(j:(b,y)∈L)(h2:y.size=n)(h:K (.ptr b k 0)):W.idx n (.sl b 0 m) (.int kd (k:Int)) L K:=
 aw acN acN j h2 (by rw[abw];exact h)
def R3{l:List Bool}{k:Nat}{x v:Bool}:(l.map au).set k ((au x).set 0 (.bool v))=(l.set k v).map au:=by rw[abT];rfl
def w4{l:List Int}{k:Nat}{x v:Int}:(l.map aa).set k ((aa x).set 0 (.acU v))=(l.set k v).map aa:=by rw[abT];rfl
def R4{l:List eu}{k:Nat}{v:Int}{b:Bool}:(l.map eu.enc).set k [.acU v,.bool b]=(l.set k ⟨v,b⟩).map eu.enc:=by rw[abT];rfl
def rW{w:aF}{k o:Int}(h:allowedS w k o=true)(j:k=3\/k=4):inB o w.cells.length=true:=by unfold allowedS at h;rw[if_neg acN,if_pos j]at h;exact h
def w6{w:aF}{k o:Int}(h:allowedS w k o=true)(j:k=22\/k=23):inB o w.futures.length=true:=by
 unfold allowedS at h
 iterate 6 rw[if_neg acN]at h
 rw[if_pos j]at h;exact h
def Ps(w:aG)(c:aP)(u:AV)(j:AV.one u=true)(h:jK w c):aq Tryz.prog 48 [.agg w.enc,.agg (gr c u)] (.bool true):=by
 refine L6 λQ B=>EH _ _ _ _ ?_
 refine vw ?_;have O:decide ((c.cells.length:Int)=w.w.cells.length)=true:=decide_eq_true (by have:=h.cells;omega);have N:decide ((c.futures.length:Int)=w.w.futures.length)=true:=decide_eq_true (by have:=h.futures;omega);have M:decide ((c.fixed.length:Int)=w.ev.length)=true:=decide_eq_true (by have:=h.fixed;omega);have G:decide ((c.woke.length:Int)=w.ev.length)=true:=decide_eq_true (by have:=h.woke;omega);rw[bj,dG]at *;rw[<-G]at B
 repeat' (first|refine sy ?_|refine lI rfl (oO j) (λE D=>?_)|refine s2 ?_ ?_|intro)
 exact B _
def Mx(w:aG)(W0:Av w)(h1:w.init.sync.locks.length<2^40)(h2:w.init.sync.done.length<=2^40)(Z:w.init.sync.threads.length<2^40)(N:∀l∈w.init.sync.locks,l.readers.length<2^40)(h4:w.init.cells.length<2^40)(Y:w.init.futures.length<2^40):
  aq Tryz.prog 12 [.agg w.enc] (.agg (gr (bN w) .nils)):=by
 have j:=RX w.init.sync h1 h2 Z N;have S:=Gx w.init.cells h4;have O:=Gx w.init.futures Y;refine OY λQ G=>Cd _ _ _ ?_
 refine vw ?_;have hl:=W0.lw;have M:∀E D L,(E,(⟨1,List.replicate w.ev.length [.bool false]⟩:Blk))∈L->(D,(⟨1,List.replicate w.ev.length [.acU 0]⟩:Blk))∈L->Q (.agg [.lst (w.init.sync.locks.map LockD.enc),.acU w.init.sync.tx,.lst (w.init.sync.done.map au),.lst (w.init.sync.threads.map ThrD.enc),.lst ((w.init.cells.map Dg).map eu.enc),.lst ((w.init.futures.map Dg).map eu.enc),.nils,.sl E 0 w.ev.length,.sl D 0 w.ev.length]) L:=λE D L B u=>by
  refine G _ _ (Fz.aggs (m:=gr (bN w) .nils) ?_);rw[dG];refine .cons (.refl _) (.cons (.refl _) (.cons (.refl _) (.cons (.refl _) (.cons (.refl _) (.cons (.refl _) (.cons (.refl _) (.cons ?_ (.cons ?_ .nil))))))))
  .exact Fz.sls (l:=List.replicate w.ev.length false) B (by simp[au]) acR acQ
  .exact Fz.sls (l:=List.replicate w.ev.length (0:Int)) u (by simp[aa]) acR acQ
 clear G;rw[Mv]at j;rw[bj]at *
 repeat' (first|refine sy ?_|refine s2 ?_ ?_|intro)
 exact M _ _ _ acQ acQ
def Dq:RF:=nv (bQ Tryz.prog Tryz.f89 [] [])
abbrev MJ(a b:AV)(L:SH)(Q:R):Prop:=Pc Dq 20 Q 0 [] [a,b] L
def KQ(u j:AV)(L:SH)(Q:R)(h:MJ u j L Q):ac Tryz.prog 89 [u,j] L Q:=
 fv Dq Tryz.func89 h
def w9:RF:=nv (bQ Tryz.prog Tryz.f88 [] [(0,[2,3])])
abbrev Iq(a b:AV)(L:SH)(Q:R):Prop:=Pc w9 20 Q 0 [] [a,b] L
def Fj(u j:AV)(L:SH)(Q:R)(h:Iq u j L Q):ac Tryz.prog 88 [u,j] L Q:=
 fv w9 Tryz.func88 h
def pC:RF:=nv (bQ Tryz.prog Tryz.f90 [(6,⟨[0,1,5],[],true,[]⟩)] [])
abbrev AD(a b:AV)(L:SH)(Q:R):Prop:=Pc pC 20 Q 0 [] [a,b] L
def yJ(u j:AV)(L:SH)(Q:R)(h:AD u j L Q):ac Tryz.prog 90 [u,j] L Q:=
 fv pC Tryz.func90 h
def tR:RF:=nv (bQ Tryz.prog Tryz.f91 [(57052,⟨[3,4],[],true,[]⟩),(52,⟨[3,4],[],true,[]⟩),(33028,⟨[2,3,7,40],[57052],true,[4]⟩)] [(0,[2,3])])
abbrev Fk(a b:AV)(L:SH)(Q:R):Prop:=Pc tR 20 Q 0 [] [a,b] L
def Dr(u j:AV)(L:SH)(Q:R)(h:Fk u j L Q):ac Tryz.prog 91 [u,j] L Q:=
 fv tR Tryz.func91 h
def mz:RF:=nv (bQ Tryz.prog Tryz.f63 [(9,⟨[1,2,3,4],[],true,[]⟩)] [(0,[1])])
abbrev rk(Q:R):Vs->SH->Kn->Prop:=Lp mz 19 Q 9 []
abbrev Fm(a:AV)(L:SH)(Q:R):Prop:=Pc mz 20 Q 0 [] [a] L
def rn(j:AV)(L:SH)(Q:R)(h:Fm j L Q):ac Tryz.prog 63 [j] L Q:=
 fv mz Tryz.func63 h
def gE:RF:=nv (bQ Tryz.prog Tryz.f58 [(75070,⟨[5,6,9],[],true,[]⟩),(69064,⟨[5,6,9],[],true,[]⟩),(60055,⟨[3,4,5,6,9,10],[],true,[]⟩),(4502,⟨[3,4,5,6],[],true,[]⟩),(3902,⟨[3,4,5,6],[],true,[]⟩),(3302,⟨[3,4,5,6],[],true,[]⟩),(27022,⟨[3,4,5,6,7],[],true,[]⟩),(22,⟨[3,4,5,6,7],[],true,[]⟩)] [(0,[3,4,5])])
abbrev Fo(Q:R)(a:SH)(b c d e:AV):Prop:=Pc gE 16 Q 4502 [] [d,b,c,e] a
abbrev Fq(Q:R)(a:SH)(b c d e:AV):Prop:=Pc gE 17 Q 3902 [] [e,c,b,d] a
abbrev Fs(Q:R)(a:SH)(b c d e:AV):Prop:=Pc gE 18 Q 3302 [] [e,d,b,c] a
abbrev Ft(Q:R):Vs->SH->Prop:=Jp gE 19 Q 27022 []
abbrev Ir(a b c:AV)(L:SH)(Q:R):Prop:=Pc gE 20 Q 0 [] [a,b,c] L
def Fu(B u j:AV)(L:SH)(Q:R)(h:Ir B u j L Q):ac Tryz.prog 58 [B,u,j] L Q:=
 fv gE Tryz.func58 h
def mA:RF:=nv (bQ Tryz.prog Tryz.f106 [(21,⟨[0,1,2,3,9,10,11,12],[6],true,[]⟩),(6,⟨[0,1,2,3,9],[],true,[]⟩)] [])
abbrev Ds(Q:R)(a:Kn):Vs->SH->Kn->Prop:=Lp mA 18 Q 21 [a]
abbrev Fv(a b c d:AV)(L:SH)(Q:R):Prop:=Pc mA 20 Q 0 [] [a,b,c,d] L
def Dt(D B u j:AV)(L:SH)(Q:R)(h:Fv D B u j L Q):ac Tryz.prog 106 [D,B,u,j] L Q:=
 fv mA Tryz.func106 h
def mB:RF:=nv (bQ Tryz.prog Tryz.f67 [(21,⟨[1,4,5],[],true,[]⟩)] [(0,[1]),(9,[6]),(10,[7])])
abbrev Du(Q:R):Vs->SH->Kn->Prop:=Lp mB 19 Q 21 []
abbrev Fw(a:AV)(L:SH)(Q:R):Prop:=Pc mB 20 Q 0 [] [a] L
def Dv(j:AV)(L:SH)(Q:R)(h:Fw j L Q):ac Tryz.prog 67 [j] L Q:=
 fv mB Tryz.func67 h
