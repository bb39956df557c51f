/- part -/
import Derived.Test.YtfcfhjadaknphaaGreatDoorQxAf
import Derived.Test.YtfcfhjadaknphaaGreatDoorQxAh
set_option linter.all false
set_option maxRecDepth 100000
set_option maxHeartbeats 0
namespace Go.Proofs.YtfcfhjadaknphaaGreatDoor.Am
section
theorem HM{α β:Type}(f:α->β)(l:List α)(q k:Nat)(r:β)(u:k<l.length):((l.take (k+1)).map f).set q r=((l.take k).map f).set q r++[if k=q then r else f l[k]]:=by
 rw[LE u,WL];have j:((l.take k).map f).length=k:=by simp;omega
 by_cases h:q<k
 .rw[List.set_append_left _ _ YC,if_neg YC];rfl
 .rw[Ys _ _ YC,j,List.set_eq_of_length_le (l:=(l.take k).map f) YC];by_cases e:k=q
  .subst e;simp
  .rw[if_neg e,List.set_eq_of_length_le YH];rfl
theorem HN{α:Type}(l:List α)(q:Nat)(r:α)(h:l.length<=q):l.set q r=l:=List.set_eq_of_length_le h
theorem aE.rowP{vs:List AV}{L A R K:SH}{b n:Nat}{rows rows':List (List AV)}(h:L.Perm (K++(A++(b,⟨n,rows⟩)::R)))(D:rows.length=rows'.length)(hr:∀(j:Nat) (r G:List AV),rows[j]? =some r->rows'[j]? =some G->fi K r G):aE vs L vs (A++(b,⟨n,rows'⟩)::R):=by
 refine⟨K,_,h,⟨rfl,λi a M h1 u=>by rw[h1]at u;cases u;exact .refl _⟩,YF,λi p q h1 u=>?_⟩;have B:p=q->p.1=q.1/\p.2.size=q.2.size/\p.2.rows.length=q.2.rows.length/\∀(j:Nat) (r E:List AV),p.2.rows[j]? =some r->q.2.rows[j]? =some E->r.length=E.length/\∀(k:Nat) (a M:AV),r[k]? =some a->E[k]? =some M->Fz K a M:=λe=>by subst e;exact⟨rfl,rfl,rfl,λj r E h3 Y=>by rw[h3]at Y;cases Y;exact⟨rfl,λk a M Z S=>by rw[Z]at S;cases S;exact .refl _⟩⟩
 rcases Fn i A.length with O|O
 .rw[WW O]at h1 u;rw[h1]at u;cases u;exact B rfl
 .rw[WQ O]at h1 u;generalize i-A.length=k at h1 u
  match k with
  |0=>cases h1;cases u;exact⟨rfl,rfl,D,λj r G g1 g2=>(hr j r G g1 g2).at_⟩
  |k+1=>simp only[X5]at h1 u;rw[h1]at u;cases u;exact B rfl
theorem S9{α:Type}(u j b3 b2:α)(N T:List α):(u::j::(N++(b3::b2::T))).Perm ((j::N)++([b3,b2]++u::T)):=by
 refine(List.Perm.swap _ _ _).trans (List.Perm.cons _ ?_);refine XV.symm.trans ?_ |>.trans (List.Perm.refl _)
 refine List.Perm.append_left N ?_;exact((List.Perm.swap _ _ _).trans ((List.Perm.swap _ _ _).cons _))
theorem Qj{α:Type}(j b3 b2:α)(N T:List α):(j::(N++(b3::b2::T))).Perm (b3::b2::j::(N++T)):=
 ((XV.trans (XV.cons _)).cons _).trans ((List.Perm.swap _ _ _).trans ((List.Perm.swap _ _ _).cons _))
def jP(s:bU)(bc bf:Nat)(x:AV):List AV:=[.lst (s.sync.locks.map LockD.enc),.YJ s.sync.tx,.lst (s.sync.done.map aD),.lst (s.sync.threads.map ThrD.enc),.sl bc 0 s.cells.length,.sl bf 0 s.futures.length,x]
theorem D8(s:bU)(bc bf:Nat)(o:Option Nat)(n:Nat):(jP s bc bf (ai o n)).all AV.one=true:=by show(true&&(true&&(true&&(true&&(true&&(true&&((ai o n).one&&true)))))))=true;rw[D7];rfl
def rN(s:aG)(o t:Option Nat):List AV:=[.YJ s.pc,aQ o s.regs.length,aQ t s.taint.length,.YJ s.ev]
def om(s:aG)(o t:Option Nat):SH:=ab o 1 (s.regs.map ah)++ab t 1 (s.taint.map bP)
section
variable (s:bU) (q b2 b3 bc bf:Nat) (h1:s.threads.length<=2^30) (hr:∀e∈s.threads,e.regs.length<2^40/\e.taint.length<=2^30/\∀r∈e.taint,r.length<=2^30) (Q:R)
include h1 hr
theorem Oe(E L0:SH)(hL0:L0.Perm ((b3,⟨7,[jP s bc bf .nils]⟩)::(b2,⟨7,[ay]⟩)::E))
  (u:∀(G o t:Option Nat) (z:List AV),(G=none->s.threads=[])->(o=none->q<s.threads.length->(s.threads.getD q aG.zero).regs=[])->(t=none->q<s.threads.length->(s.threads.getD q aG.zero).taint=[])->Q (.agg (jP s bc bf (ai G s.threads.length))) ((b3,⟨7,[jP s bc bf (ai G s.threads.length)]⟩)::((b2,⟨7,[z]⟩)::(ab G 4 ((s.threads.map aG.enc).set q (rN (s.threads.getD q aG.zero) o t))++((if q<s.threads.length then om (s.threads.getD q aG.zero) o t else [])++E))))) :
  W.loop (sE Q) [.pptr [s.enc] 0 0,.ptr b2 0 0,.ptr b3 0 0,.YJ (0:Nat)] L0:=by
 generalize hth:s.threads.getD q aG.zero=th at *;refine bF s.threads.length (λk (p:Option Nat×Option Nat×Option Nat)=>([.pptr [s.enc] 0 0,.ptr b2 0 0,.ptr b3 0 0,.YJ k],(b3,⟨7,[jP s bc bf (ai p.1 k)]⟩)::((b2,⟨7,[ay]⟩)::(ab p.1 4 (((s.threads.take k).map aG.enc).set q (rN th p.2.1 p.2.2))++((if q<k then om th p.2.1 p.2.2 else [])++E)))))
  (λk p=>(p.1=none->k=0)/\(p.2.1=none->q<k->th.regs=[])/\(p.2.2=none->q<k->th.taint=[])) (none,none,none) ⟨λ_=>rfl,λ_ h=>by omega,λ_ h=>by omega⟩ (aE.box (K:=[]) hL0 (by unfold jP;exact .cons (.refl _) (.cons (.refl _) (.cons (.refl _) (.cons (.refl _) (.cons (.refl _) (.cons (.refl _) (.cons .nile .nil)))))))) ?_
 rintro k ⟨G,o,t⟩ hk ⟨i1,i2,i3⟩;dsimp only at i1 i2 i3 ⊢;refine vw ?_;rcases Nat.lt_or_ge k s.threads.length with D|D
 .have hd:=a8 D;have hx:=aq (f:=aG.enc) D;obtain⟨r1,r2,r3⟩:=hr _ (WN D);have hcp:=HH s.threads[k] r1 YC r3;generalize hT:(if q<k then om th o t else [])++E=T;have hlen:(((s.threads.take k).map aG.enc).set q (rN th o t)).length=k:=by simp;omega
  have h0:G=none->((s.threads.take k).map aG.enc).set q (rN th o t)=[]:=λe=>by rw[i1 e];rfl
  have hss:=HM aG.enc s.threads q k (rN th o t) D;generalize hX:((s.threads.take k).map aG.enc).set q (rN th o t)=X at *;unfold jP ay;rw[show s.enc=[.lst (s.sync.locks.map LockD.enc),.YJ s.sync.tx,.lst (s.sync.done.map aD),.lst (s.sync.threads.map ThrD.enc),.lst (s.cells.map ah),.lst (s.futures.map ah),.lst (s.threads.map aG.enc)]from rfl];clear u hr
  repeat' (first|refine sy ?_|intro)
  refine AA hcp (by simp[rm,rz,W.free,am]) ?_;rintro v K ⟨Y,O,rfl,rfl,ho',ht'⟩
  skip
  have fin:∀(Z nt:Nat) (B:Blk),∃(j:Nat) (p:Option Nat×Option Nat×Option Nat),k<j/\j<=s.threads.length/\((p.1=none->j=0)/\(p.2.1=none->q<j->th.regs=[])/\(p.2.2=none->q<j->th.taint=[]))/\aE [.pptr [[.lst (s.sync.locks.map LockD.enc),.YJ s.sync.tx,.lst (s.sync.done.map aD),.lst (s.sync.threads.map ThrD.enc),.lst (s.cells.map ah),.lst (s.futures.map ah),.lst (s.threads.map aG.enc)]] 0 0,.ptr b2 0 0,.ptr b3 0 0,.YJ (IntKind.i64.wrap ((k:Int)+1))]
    ((Z,⟨4,X++[rN s.threads[k] Y O]⟩)::(nt,B)::(om s.threads[k] Y O++((b3,⟨7,[jP s bc bf (.sl Z 0 (k+1))]⟩)::(b2,⟨7,[ay]⟩)::T)))
    [.pptr [[.lst (s.sync.locks.map LockD.enc),.YJ s.sync.tx,.lst (s.sync.done.map aD),.lst (s.sync.threads.map ThrD.enc),.lst (s.cells.map ah),.lst (s.futures.map ah),.lst (s.threads.map aG.enc)]] 0 0,.ptr b2 0 0,.ptr b3 0 0,.YJ j]
    ((b3,⟨7,[jP s bc bf (ai p.1 j)]⟩)::((b2,⟨7,[ay]⟩)::(ab p.1 4 (((s.threads.take j).map aG.enc).set q (rN th p.2.1 p.2.2))++((if q<j then om th p.2.1 p.2.2 else [])++E)))):=by
   intro Z nt B;rw[ax D YC];by_cases hkq:k=q
   .subst hkq;have eth:th=s.threads[k]:=by rw[<-hth];simp[D]
    subst eth;refine⟨k+1,(some Z,Y,O),YC,YC,⟨nofun,λe _=>ho' e,λe _=>ht' e⟩,?_⟩;dsimp only;rw[HM aG.enc s.threads k k (rN s.threads[k] Y O) D,HN _ _ _ YH,if_pos rfl,if_pos (Nat.lt_succ_self k)];rw[<-hX,HN _ _ _ YH,<-hT,if_neg (Nat.lt_irrefl k),List.nil_append];refine aE.forget (K:=[(nt,B)]) ((List.Perm.swap _ _ _).trans (List.Perm.cons _ ?_));exact Qj _ _ _ _ _
   .refine⟨k+1,(some Z,o,t),YC,YC,⟨nofun,λe h=>i2 e YC,λe h=>i3 e YC⟩,?_⟩;dsimp only;rw[hss,if_neg hkq,<-hT];have e1:(if q<k+1 then om th o t else [])=(if q<k then om th o t else []):=by
     by_cases hq:q<k
     .rw[if_pos hq,if_pos YC]
     .rw[if_neg hq,if_neg YC]
    rw[e1];refine aE.rowP (K:=(nt,B)::om s.threads[k] Y O) (A:=[(b3,_),(b2,_)]) (S9 _ _ _ _ _ _) YF ?_;intro j r r' M S;rcases Fn j X.length with hj|hj
    .rw[WW hj]at M S;rw[M]at S;cases S;exact fi.refl _ _
    .rw[WQ hj]at M S;rcases hm:j-X.length with _|m
     .rw[hm]at M S;cases M;cases S;refine .cons (.refl _) (.cons ?_ (.cons ?_ (.cons (.refl _) .nil)))
      .exact gL rfl ho' λb e=>by subst e;simp[om,ab]
      .exact gL rfl ht' λb e=>by subst e;simp[om,ab]
     .rw[hm]at M;simp at M
  rcases Y with _|c'<;>rcases O with _|d'
  all_goals
   dsimp only[aQ,ab,List.nil_append,List.cons_append]
   repeat' (first|refine sy ?_|refine bG rp rp hlen h0 YE YF YH YH YE (λnb_ hnb_=>?_)|intro)
   exact fin _ _ _
 .have hd:=bq D;have hk0:k=s.threads.length:=by omega
  subst hk0;rw[W9 (Fd _)];have he:=λz=>u G o t z (λe=>XA.1 (i1 e)) i2 i3
  unfold jP ay at *;rw[show s.enc=[.lst (s.sync.locks.map LockD.enc),.YJ s.sync.tx,.lst (s.sync.done.map aD),.lst (s.sync.threads.map ThrD.enc),.lst (s.cells.map ah),.lst (s.futures.map ah),.lst (s.threads.map aG.enc)]from rfl];have hb:=D8 s bc bf G s.threads.length;unfold jP at hb;clear u hr
  repeat' (first|refine sy ?_|refine bI rp rfl rfl hb rfl ?_|intro)
  exact he _
end
theorem Jl(s:SyncD)(h1:s.locks.length<2^40)(h2:s.done.length<=140737488351232)(B:s.threads.length<2^40)(j:∀l∈s.locks,l.readers.length<2^40):ao Tryz.prog 168 [.agg s.enc] (.agg s.enc):=by refine ac.fz ((HK s h1 h2 B j).mono ?_);rintro v L ⟨D,G,E,rfl,rfl,u⟩;exact⟨.agg s.enc,[],aE.all (Fz.aggs (.cons (yh u λp hp=>by simp[hp]) (.cons (.refl _) (.cons (Fz.sls (size:=1) YF rfl YG rfl) (.cons (Fz.sls (size:=3) YF rfl YG rfl) .nil))))),rfl,rfl⟩
structure Ta(s:bU)(q:Nat)(v:AV)(L:SH):Prop where
 ex:∃(bc bf:Nat) (ot o t:Option Nat),v=.agg (jP s bc bf (ai ot s.threads.length))/\
  L=ab ot 4 ((s.threads.map aG.enc).set q (rN (s.threads.getD q aG.zero) o t))++((if q<s.threads.length then om (s.threads.getD q aG.zero) o t else [])++[(bf,⟨1,s.futures.map ah⟩),(bc,⟨1,s.cells.map ah⟩)])/\
  (ot=none->s.threads=[])/\(o=none->q<s.threads.length->(s.threads.getD q aG.zero).regs=[])/\(t=none->q<s.threads.length->(s.threads.getD q aG.zero).taint=[])
theorem Of(s:bU)(q:Nat)(h1:s.threads.length<=2^30)(hc:s.cells.length<2^40)(hf:s.futures.length<2^40)(hr:∀e∈s.threads,e.regs.length<2^40/\e.taint.length<=2^30/\∀r∈e.taint,r.length<=2^30)
  (g1:s.sync.locks.length<2^40) (Z:s.sync.done.length<=140737488351232) (Y:s.sync.threads.length<2^40) (S:∀l∈s.sync.locks,l.readers.length<2^40):ac Tryz.prog 122 [.agg s.enc] [] (Ta s q):=by
 have h8:=Jl s.sync g1 Z Y S;refine ac.fz (CO _ _ _ ?_);refine vw ?_;generalize B:(λ(v:AV) (L:SH)=>∃j D,aE [v] L [j] D/\Ta s q j D)=Q;have O:∀(b2 b3 bc bf:Nat) (L:SH),wq L ((b3,⟨7,[jP s bc bf .nils]⟩)::(b2,⟨7,[ay]⟩)::[(bf,⟨1,s.futures.map ah⟩),(bc,⟨1,s.cells.map ah⟩)]) []->W.loop (sE Q) [.pptr [s.enc] 0 0,.ptr b2 0 0,.ptr b3 0 0,.YJ (0:Nat)] L:=by intro b2 b3 bc bf L M;refine Oe s q b2 b3 bc bf h1 hr Q [(bf,⟨1,s.futures.map ah⟩),(bc,⟨1,s.cells.map ah⟩)] L (by simpa using M.perm) ?_;intro E o t z a1 a2 a3;subst B;exact⟨_,_,aE.forget (K:=[(b3,_),(b2,_)]) (.refl _),⟨bc,bf,E,o,t,rfl,rfl,a1,a2,a3⟩⟩
 clear B hr;unfold bU.enc SyncD.enc jP ay at *
 repeat' (first|refine sy ?_|refine iv rp (λ_=>rfl) YE YH YH (λ_=>rfl) (λG u=>?_)|intro)
 rw[Xn,Xn];exact O _ _ _ _ _ rp
end
section
def Dc(k:Nat):List ThrD:=(List.replicate k (⟨0,0,false⟩:ThrD)).set 0 ⟨1,0,false⟩
theorem HQ(k:Nat):(Dc k).length=k:=by simp[Dc]
theorem LP(k:Nat):Dc (k+1)=Dc k++[if k=0 then(⟨1,0,false⟩:ThrD)else⟨0,0,false⟩]:=by
 cases k with
 |zero=>rfl
 |succ k=>unfold Dc;rw[List.replicate_succ' (n:=k+1),List.set_append_left _ _ YF,if_neg YC]
theorem BI{α:Type}(k:Nat)(x:α):List.replicate (k+1) x=List.replicate k x++[x]:=List.replicate_succ'
section
variable (w:aK) (b2 b3:Nat) (Q:R) (hq:∀v L,Fz L v (.agg (bK w).enc)->Q v L)
def oW:List AV:=[.nils,.YJ 0,.nils,.nils]
include hq
theorem Tb(h3:w.threads.length<=100)(Z gd:AV)(K L:SH)(M:Fz K Z (.lst ((List.replicate w.locks.length (⟨-1,[]⟩:LockD)).map LockD.enc)))(O:Fz K gd (.lst ((List.replicate w.futures.length false).map aD)))(hL:L.Perm (K++[(b3,⟨4,[[Z,.YJ (-1),gd,.nils]]⟩),(b2,⟨4,[oW]⟩)])):
  W.loop (Bo Q) [.pptr [w.enc] 0 0,.ptr b2 0 0,.ptr b3 0 0,.YJ (0:Nat)] L:=by
 refine bF w.threads.length (λk (o:Option Nat)=>([.pptr [w.enc] 0 0,.ptr b2 0 0,.ptr b3 0 0,.YJ k],(b3,⟨4,[[.lst ((List.replicate w.locks.length (⟨-1,[]⟩:LockD)).map LockD.enc),.YJ (-1),.lst ((List.replicate w.futures.length false).map aD),ai o k]]⟩)::(b2,⟨4,[oW]⟩)::ab o 3 ((Dc k).map ThrD.enc))) (λk o=>o=none->k=0) none (λ_=>rfl) (aE.box hL (.cons M (.cons (.refl _) (.cons O (.cons .nile .nil))))) ?_;intro k o hk ho;dsimp only;unfold oW;refine vw ?_;have B:((Dc k).map ThrD.enc).length=k:=by simp[HQ]
 have S:o=none->(Dc k).map ThrD.enc=[]:=λe=>by rw[ho e];rfl
 rw[show w.enc=[.lst (w.cells.map aH.enc),.lst (w.locks.map bv.enc),.lst (w.conds.map bO.enc),.lst (w.futures.map av),.lst (w.threads.map av),.lst (w.sites.map bM.enc)]from rfl];rcases Fn k w.threads.length with D|D
 .have hd:=a8 D;have E:=LP k;clear hq;by_cases Y:k=0
  .have d0:decide ((k:Int)=0)=true:=decide_eq_true YC;rw[if_pos Y]at E
   repeat' (first|refine sx ?_|refine bG rp rp B S YE YF YH YH YE (λj u=>?_)|refine sb λj u=>?_|refine s2 ?_ ?_|intro)
   exact⟨k+1,some j,YC,YC,nofun,aE.pickE (R:=[(b3,_),(b2,_),(j,_)]) rp (by rw[ax D YC]) (by rw[E];simp[ab,ai,ThrD.enc,bL])⟩
  .have d0:decide ((k:Int)=0)=false:=decide_eq_false YC;rw[if_neg Y]at E
   repeat' (first|refine sx ?_|refine bG rp rp B S YE YF YH YH YE (λj u=>?_)|refine sb λj u=>?_|refine s2 ?_ ?_|intro)
   exact⟨k+1,some j,YC,YC,nofun,aE.pickE (R:=[(b3,_),(b2,_),(j,_)]) rp (by rw[ax D YC]) (by rw[E];simp[ab,ai,ThrD.enc,bL])⟩
 .have hd:=bq D;have G:k=w.threads.length:=by omega
  have fin:∀L,(∀q∈ab o 3 ((Dc k).map ThrD.enc),q∈L)->Q (.agg [.lst ((List.replicate w.locks.length (⟨-1,[]⟩:LockD)).map LockD.enc),.YJ (-1),.lst ((List.replicate w.futures.length false).map aD),ai o k]) L:=λL hm=>by
   refine hq _ _ (Fz.aggs (.cons (.refl _) (.cons (.refl _) (.cons (.refl _) (.cons ?_ .nil)))));subst G;cases o with
   |none=>rw[S rfl |> λh=>show(bK w).threads.map ThrD.enc=[]from h];exact .emp
   |some b=>exact Fz.sls (l:=Dc w.threads.length) (hm _ (.head _)) rfl YG (by rw[HQ])
  clear hq;cases o
  all_goals
   dsimp only[ai,ab]at *
   repeat' (first|refine sy ?_|refine s2 ?_ ?_|intro)
   exact fin _ YF
theorem Tc(h2:w.futures.length<=100)(h3:w.threads.length<=100)(O:AV)(K L:SH)(G:Fz K O (.lst ((List.replicate w.locks.length (⟨-1,[]⟩:LockD)).map LockD.enc)))(hL:L.Perm (K++[(b3,⟨4,[[O,.YJ (-1),.nils,.nils]]⟩),(b2,⟨4,[oW]⟩)])):
  W.loop (Bp Q) [.pptr [w.enc] 0 0,.ptr b2 0 0,.ptr b3 0 0,.YJ (0:Nat)] L:=by
 refine bF w.futures.length (λk (o:Option Nat)=>([.pptr [w.enc] 0 0,.ptr b2 0 0,.ptr b3 0 0,.YJ k],(b3,⟨4,[[.lst ((List.replicate w.locks.length (⟨-1,[]⟩:LockD)).map LockD.enc),.YJ (-1),ai o k,.nils]]⟩)::(b2,⟨4,[oW]⟩)::ab o 1 ((List.replicate k false).map aD))) (λk o=>o=none->k=0) none (λ_=>rfl) (aE.box hL (.cons G (.cons (.refl _) (.cons .nile (.cons (.refl _) .nil))))) ?_;intro k o hk Z;dsimp only;refine vw ?_;have B:((List.replicate k false).map aD).length=k:=by simp
 have M:o=none->(List.replicate k false).map aD=[]:=λe=>by rw[Z e];rfl
 rcases Fn k w.futures.length with D|D
 .have hd:=a8 D;have Y:=BI k false;clear hq;unfold oW;rw[show w.enc=[.lst (w.cells.map aH.enc),.lst (w.locks.map bv.enc),.lst (w.conds.map bO.enc),.lst (w.futures.map av),.lst (w.threads.map av),.lst (w.sites.map bM.enc)]from rfl]
  repeat' (first|refine sx ?_|refine bG rp rp B M YE YF YH YH YE (λj u=>?_)|refine sb λj u=>?_|refine s2 ?_ ?_|intro)
  exact⟨k+1,some j,YC,YC,nofun,aE.pickE (R:=[(b3,_),(b2,_),(j,_)]) rp (by rw[ax D YC]) (by rw[Y];simp[ab,ai,aD,bL])⟩
 .have hd:=bq D;have E:k=w.futures.length:=by omega
  subst E;have S:=Tb w b2 b3 Q hq h3 (.lst ((List.replicate w.locks.length (⟨-1,[]⟩:LockD)).map LockD.enc)) (ai o w.futures.length) (ab o 1 ((List.replicate w.futures.length false).map aD)) _ (.refl _) (by
   cases o with
   |none=>rw[M rfl];exact .emp
   |some b=>exact Fz.sls (l:=List.replicate w.futures.length false) (.head _) rfl YG YF) (W1 (l₁:=[(b3,(⟨4,[[.lst ((List.replicate w.locks.length (⟨-1,[]⟩:LockD)).map LockD.enc),.int .i64 (-1),ai o w.futures.length,.nils]]⟩:Blk)),(b2,⟨4,[oW]⟩)]))
  clear hq
  repeat' (first|exact S|refine sy ?_|refine s2 ?_ ?_|intro)
theorem Td(h1:w.locks.length<=100)(h2:w.futures.length<=100)(h3:w.threads.length<=100)(L:SH)(hL:L.Perm [(b3,⟨4,[[.nils,.YJ (-1),.nils,.nils]]⟩),(b2,⟨4,[oW]⟩)]):
  W.loop (Bq Q) [.pptr [w.enc] 0 0,.ptr b2 0 0,.ptr b3 0 0,.YJ (0:Nat)] L:=by
 refine bF w.locks.length (λk (o:Option Nat)=>([.pptr [w.enc] 0 0,.ptr b2 0 0,.ptr b3 0 0,.YJ k],(b3,⟨4,[[ai o k,.YJ (-1),.nils,.nils]]⟩)::(b2,⟨4,[oW]⟩)::ab o 2 ((List.replicate k (⟨-1,[]⟩:LockD)).map LockD.enc))) (λk o=>o=none->k=0) none (λ_=>rfl) (aE.box (K:=[]) hL (.cons .nile (.cons (.refl _) (.cons (.refl _) (.cons (.refl _) .nil))))) ?_;intro k o hk ho;dsimp only;refine vw ?_;have u:((List.replicate k (⟨-1,[]⟩:LockD)).map LockD.enc).length=k:=by simp
 have Y:o=none->(List.replicate k (⟨-1,[]⟩:LockD)).map LockD.enc=[]:=λe=>by rw[ho e];rfl
 rcases Fn k w.locks.length with M|M
 .have hd:=a8 M;clear hq;unfold oW;rw[show w.enc=[.lst (w.cells.map aH.enc),.lst (w.locks.map bv.enc),.lst (w.conds.map bO.enc),.lst (w.futures.map av),.lst (w.threads.map av),.lst (w.sites.map bM.enc)]from rfl]
  repeat' (first|refine sx ?_|refine bG rp rp u Y YE YF YH YH YE (λD G=>?_)|refine sb λD G=>?_|refine s2 ?_ ?_|intro)
  refine⟨k+1,some D,YC,YC,nofun,?_⟩;refine aE.rowA (A:=[(b3,_),(b2,_)]) (b:=D) (R:=[]) (rows':=(List.replicate (k+1) (⟨-1,[]⟩:LockD)).map LockD.enc) rp ?_ ?_ (by rw[ax M YC]<;>rfl)
  .simp
  .intro j r r' E B;rw[BI,WL]at B;rcases Fn j k with S|S
   .rw[WW (by rw[u];exact S)]at E B;rw[E]at B;cases B;exact fi.refl _ _
   .rw[WQ (by rw[u];exact S),u]at E B;generalize j-k=m at E B
    match m with
    |0=>cases E;cases B;exact .cons (.refl _) (.cons .nils .nil)
    |m+1=>simp at E
 .have hd:=bq M;have O:k=w.locks.length:=by omega
  subst O;have Z:=Tc w b2 b3 Q hq h2 h3 (ai o w.locks.length) (ab o 2 ((List.replicate w.locks.length (⟨-1,[]⟩:LockD)).map LockD.enc)) _ (by
   cases o with
   |none=>rw[Y rfl];exact .emp
   |some b=>exact Fz.sls (l:=List.replicate w.locks.length (⟨-1,[]⟩:LockD)) (.head _) rfl YG YF) (W1 (l₁:=[(b3,(⟨4,[[ai o w.locks.length,.int .i64 (-1),.nils,.nils]]⟩:Blk)),(b2,⟨4,[oW]⟩)]))
  clear hq
  repeat' (first|exact Z|refine sy ?_|refine s2 ?_ ?_|intro)
end
theorem LQ(w:aK)(D:w.locks.length<=100)(h2:w.futures.length<=100)(B:w.threads.length<=100):ao Tryz.prog 76 [.agg w.enc] (.agg (bK w).enc):=by
 refine Rm λQ hq=>Br _ _ _ ?_
 refine vw ?_;have j:=λb2 b3 L u=>Td w b2 b3 Q hq D h2 B L u
 clear hq;unfold oW at j
 repeat' (first|refine sy ?_|intro)
 exact j _ _ _ (.refl _)
end
section
section
variable (c:aL) (b2 b3:Nat) (Q:R) (hq:∀v L,Fz L v (.agg (bC c).enc)->Q v L)
def oo(sy_:SyncD)(x y z:AV):List AV:=[.lst (sy_.locks.map LockD.enc),.YJ sy_.tx,.lst (sy_.done.map aD),.lst (sy_.threads.map ThrD.enc),x,y,z]
include hq
theorem Te(h5:c.ts.length<=1000)(hr:∀t∈c.ts,0<=t.regs/\t.regs<=1000)(gc gf:AV)(K L:SH)(M:Fz K gc (.lst ((c.w.cells.map aH.init).map ah)))(G:Fz K gf (.lst ((List.replicate c.w.futures.length (0:Int)).map ah)))(hL:L.Perm (K++[(b3,⟨7,[oo (bK c.w) gc gf .nils]⟩),(b2,⟨7,[ay]⟩)])):
  W.loop (Bf Q) [.pptr [c.enc] 0 0,.ptr b2 0 0,.ptr b3 0 0,.YJ (0:Nat)] L:=by
 refine bF c.ts.length (λk (o:Option Nat)=>([.pptr [c.enc] 0 0,.ptr b2 0 0,.ptr b3 0 0,.YJ k],(b3,⟨7,[oo (bK c.w) (.lst ((c.w.cells.map aH.init).map ah)) (.lst ((List.replicate c.w.futures.length (0:Int)).map ah)) (ai o k)]⟩)::(b2,⟨7,[ay]⟩)::ab o 4 (((c.ts.take k).map qi).map aG.enc))) (λk o=>o=none->k=0) none (λ_=>rfl) (aE.box hL (by unfold oo;exact .cons (.refl _) (.cons (.refl _) (.cons (.refl _) (.cons (.refl _) (.cons M (.cons G (.cons .nile .nil)))))))) ?_;intro k o hk ho;dsimp only;refine vw ?_;have Y:(((c.ts.take k).map qi).map aG.enc).length=k:=by simp;omega
 have h0:o=none->((c.ts.take k).map qi).map aG.enc=[]:=λe=>by rw[ho e];rfl
 have he:(bC c).enc=oo (bK c.w) (.lst ((c.w.cells.map aH.init).map ah)) (.lst ((List.replicate c.w.futures.length (0:Int)).map ah)) (.lst ((c.ts.map qi).map aG.enc)):=by unfold bC bU.enc oo;rfl
 have fin:k=c.ts.length->∀L,(∀q∈ab o 4 (((c.ts.take k).map qi).map aG.enc),q∈L)->Q (.agg (oo (bK c.w) (.lst ((c.w.cells.map aH.init).map ah)) (.lst ((List.replicate c.w.futures.length (0:Int)).map ah)) (ai o k))) L:=λhk0 L S=>by
  subst hk0;rw[W9 (Fd _)]at S h0;refine hq _ _ ?_;rw[he];unfold oo;refine Fz.aggs (.cons (.refl _) (.cons (.refl _) (.cons (.refl _) (.cons (.refl _) (.cons (.refl _) (.cons (.refl _) (.cons ?_ .nil)))))));cases o with
  |none=>rw[h0 rfl];exact .emp
  |some b=>exact Fz.sls (S _ (.head _)) rfl YG YF
 clear hq he;generalize bK c.w=sy_ at *;generalize(c.w.cells.map aH.init).map ah=gce at *;generalize(List.replicate c.w.futures.length (0:Int)).map ah=gfe at *;rw[show c.enc=[.lst (c.w.cells.map aH.enc),.lst (c.w.locks.map bv.enc),.lst (c.w.conds.map bO.enc),.lst (c.w.futures.map av),.lst (c.w.threads.map av),.lst (c.w.sites.map bM.enc),.lst (c.ts.map eG.enc)]from rfl];unfold oo ay at *;rcases Fn k c.ts.length with O|O
 .have hd:=a8 O;have Z:=aq (f:=eG.enc) O;obtain⟨r1,r2⟩:=hr _ (WN O);have htk:c.ts.take (k+1)=c.ts.take k++[c.ts[k]]:=LE O;generalize hT:c.ts[k]=tk at *;obtain⟨m,S⟩:∃m:Nat,tk.regs=(m:Int):=⟨tk.regs.toNat,YC⟩;have hke:tk.enc=[.YJ (m:Int),.lst (tk.ins.map az.enc)]:=by rw[<-S];rfl
  have e:qi tk=⟨0,List.replicate m 0,List.replicate m [],0⟩:=by unfold qi;rw[S];rfl
  rw[hke]at Z;clear fin hL M G
  repeat' (first|refine sx ?_|refine fY (i:=m) (j:=m) YC YC YC (λD E=>?_)|refine bG rp rp Y h0 YE YF YH YH YE (λD E=>?_)|refine sb λD E=>?_|fail)
  refine⟨k+1,some D,YC,YC,nofun,?_⟩;refine aE.rowA (A:=[(b3,_),(b2,_)]) (b:=D) (R:=[]) (rows':=((c.ts.take (k+1)).map qi).map aG.enc) rp ?_ ?_ (by rw[ax O YC]<;>rfl)
  .simp;omega
  .intro j r r' B u;rw[htk,WL,WL]at u;rcases Fn j (((c.ts.take k).map qi).map aG.enc).length with hj|hj
   .rw[WW hj]at B u;rw[B]at u;cases u;exact fi.refl _ _
   .rw[WQ hj]at B u;rcases hmm:j-(((c.ts.take k).map qi).map aG.enc).length with _|mm
    .rw[hmm]at B u;cases B;cases u;rw[e];refine .cons (.refl _) (.cons ?_ (.cons ?_ (.cons (.refl _) .nil)))
     .exact Fz.sls (l:=List.replicate m 0) (f:=ah) mm (by simp[ah]) YG YF
     .refine Fz.slm (l:=List.replicate m []) (f:=λ_=>[.nils]) (g:=bP) mm YF YG YF (λy _=>rfl) (λy hy q a a2 B u=>?_);obtain rfl:=(List.mem_replicate.1 hy).2
      match q with
      |0=>cases B;cases u;exact .nils
    .rw[hmm]at B;simp at B
 .have hd:=bq O;have fin:=fin YC;clear hL M G;cases o
  all_goals
   dsimp only[ai,ab]at *
   repeat' (first|refine sy ?_|refine s2 ?_ ?_|intro)
   exact fin _ YF
theorem Tf(h3:c.w.futures.length<=100)(h5:c.ts.length<=1000)(hr:∀t∈c.ts,0<=t.regs/\t.regs<=1000)(S:AV)(K L:SH)(u:Fz K S (.lst ((c.w.cells.map aH.init).map ah)))(M:L.Perm (K++[(b3,⟨7,[oo (bK c.w) S .nils .nils]⟩),(b2,⟨7,[ay]⟩)])):
  W.loop (Bg Q) [.pptr [c.enc] 0 0,.ptr b2 0 0,.ptr b3 0 0,.YJ (0:Nat)] L:=by
 refine bF c.w.futures.length (λk (o:Option Nat)=>([.pptr [c.enc] 0 0,.ptr b2 0 0,.ptr b3 0 0,.YJ k],(b3,⟨7,[oo (bK c.w) (.lst ((c.w.cells.map aH.init).map ah)) (ai o k) .nils]⟩)::(b2,⟨7,[ay]⟩)::ab o 1 ((List.replicate k (0:Int)).map ah))) (λk o=>o=none->k=0) none (λ_=>rfl) (aE.box M (by unfold oo;exact .cons (.refl _) (.cons (.refl _) (.cons (.refl _) (.cons (.refl _) (.cons u (.cons .nile (.cons (.refl _) .nil)))))))) ?_;intro k o hk ho;dsimp only;refine vw ?_;have D:((List.replicate k (0:Int)).map ah).length=k:=by simp
 have O:o=none->(List.replicate k (0:Int)).map ah=[]:=λe=>by rw[ho e];rfl
 rcases Fn k c.w.futures.length with E|E
 .have hd:=a8 E;have Z:=BI k (0:Int);clear hq M u;generalize bK c.w=sy_ at *;generalize(c.w.cells.map aH.init).map ah=gce at *;rw[show c.enc=[.lst (c.w.cells.map aH.enc),.lst (c.w.locks.map bv.enc),.lst (c.w.conds.map bO.enc),.lst (c.w.futures.map av),.lst (c.w.threads.map av),.lst (c.w.sites.map bM.enc),.lst (c.ts.map eG.enc)]from rfl]at *;unfold oo ay
  repeat' (first|refine sx ?_|refine bG rp rp D O YE YF YH YH YE (λj B=>?_)|refine sb λj B=>?_|refine s2 ?_ ?_|intro)
  exact⟨k+1,some j,YC,YC,nofun,aE.pickE (R:=[(b3,_),(b2,_),(j,_)]) rp (by rw[ax E YC]) (by rw[Z];simp[ab,ai,ah,bL])⟩
 .have hd:=bq E;have G:k=c.w.futures.length:=by omega
  subst G;have Y:=Te c b2 b3 Q hq h5 hr (.lst ((c.w.cells.map aH.init).map ah)) (ai o c.w.futures.length) (ab o 1 ((List.replicate c.w.futures.length (0:Int)).map ah)) _ (.refl _) (by
   cases o with
   |none=>rw[O rfl];exact .emp
   |some b=>exact Fz.sls (l:=List.replicate c.w.futures.length (0:Int)) (.head _) rfl YG YF) (W1 (l₁:=[(b3,(⟨7,[oo (bK c.w) (.lst ((c.w.cells.map aH.init).map ah)) (ai o c.w.futures.length) .nils]⟩:Blk)),(b2,⟨7,[ay]⟩)]))
  clear hq M u;rw[show c.enc=[.lst (c.w.cells.map aH.enc),.lst (c.w.locks.map bv.enc),.lst (c.w.conds.map bO.enc),.lst (c.w.futures.map av),.lst (c.w.threads.map av),.lst (c.w.sites.map bM.enc),.lst (c.ts.map eG.enc)]from rfl]at *
  repeat' (first|exact Y|refine sy ?_|refine s2 ?_ ?_|intro)
theorem Tg(h1:c.w.cells.length<=100)(h3:c.w.futures.length<=100)(h5:c.ts.length<=1000)(hr:∀t∈c.ts,0<=t.regs/\t.regs<=1000)(L:SH)(S:L.Perm [(b3,⟨7,[oo (bK c.w) .nils .nils .nils]⟩),(b2,⟨7,[ay]⟩)]):
  W.loop (Bh Q) [.pptr [c.enc] 0 0,.ptr b2 0 0,.ptr b3 0 0,.YJ (0:Nat)] L:=by
 refine bF c.w.cells.length (λk (o:Option Nat)=>([.pptr [c.enc] 0 0,.ptr b2 0 0,.ptr b3 0 0,.YJ k],(b3,⟨7,[oo (bK c.w) (ai o k) .nils .nils]⟩)::(b2,⟨7,[ay]⟩)::ab o 1 (((c.w.cells.take k).map aH.init).map ah))) (λk o=>o=none->k=0) none (λ_=>rfl) (aE.box (K:=[]) S (by unfold oo;exact .cons (.refl _) (.cons (.refl _) (.cons (.refl _) (.cons (.refl _) (.cons .nile (.cons (.refl _) (.cons (.refl _) .nil)))))))) ?_;intro k o hk ho;dsimp only;refine vw ?_;have D:(((c.w.cells.take k).map aH.init).map ah).length=k:=by simp;omega
 have Y:o=none->((c.w.cells.take k).map aH.init).map ah=[]:=λe=>by rw[ho e];rfl
 rcases Fn k c.w.cells.length with u|u
 .have hd:=a8 u;have E:=aq (f:=aH.enc) u;have G:c.w.cells.take (k+1)=c.w.cells.take k++[c.w.cells[k]]:=LE u;generalize hT:c.w.cells[k]=ck at *;have O:ck.enc=[.str ck.name,.YJ ck.index,.YJ ck.size,.bool ck.vol,.YJ ck.init]:=rfl;rw[O]at E;clear hq S;generalize bK c.w=sy_ at *;rw[show c.enc=[.lst (c.w.cells.map aH.enc),.lst (c.w.locks.map bv.enc),.lst (c.w.conds.map bO.enc),.lst (c.w.futures.map av),.lst (c.w.threads.map av),.lst (c.w.sites.map bM.enc),.lst (c.ts.map eG.enc)]from rfl]at *;unfold oo ay
  repeat' (first|refine sx ?_|refine bG rp rp D Y YE YF YH YH YE (λj B=>?_)|refine sb λj B=>?_|refine s2 ?_ ?_|intro)
  exact⟨k+1,some j,YC,YC,nofun,aE.pickE (R:=[(b3,_),(b2,_),(j,_)]) rp (by rw[ax u YC]) (by rw[G];simp[ab,ai,ah,bL])⟩
 .have hd:=bq u;have M:k=c.w.cells.length:=by omega
  subst M;rw[W9 (Fd _)]at *;have Z:=Tf c b2 b3 Q hq h3 h5 hr (ai o c.w.cells.length) (ab o 1 ((c.w.cells.map aH.init).map ah)) _ (by
   cases o with
   |none=>rw[Y rfl];exact .emp
   |some b=>exact Fz.sls (.head _) rfl YG YF) (W1 (l₁:=[(b3,(⟨7,[oo (bK c.w) (ai o c.w.cells.length) .nils .nils]⟩:Blk)),(b2,⟨7,[ay]⟩)]))
  clear hq S;rw[show c.enc=[.lst (c.w.cells.map aH.enc),.lst (c.w.locks.map bv.enc),.lst (c.w.conds.map bO.enc),.lst (c.w.futures.map av),.lst (c.w.threads.map av),.lst (c.w.sites.map bM.enc),.lst (c.ts.map eG.enc)]from rfl]at *
  repeat' (first|exact Z|refine sy ?_|refine s2 ?_ ?_|intro)
end
theorem LR(c:aL)(O:ao Tryz.prog 34 [.agg c.enc] (.bool true))(M:c.w.cells.length<=100)(h2:c.w.locks.length<=100)(B:c.w.futures.length<=100)(h4:c.w.threads.length<=100)(G:c.ts.length<=1000)(D:∀t∈c.ts,0<=t.regs/\t.regs<=1000):ao Tryz.prog 36 [.agg c.enc] (.agg (bC c).enc):=by
 have j:=LQ c.w h2 B h4;refine Rm λQ hq=>Bi _ _ _ ?_
 refine vw ?_;have u:=λb2 b3 L E=>Tg c b2 b3 Q hq M B G D L E
 clear hq;rw[show c.w.enc=[.lst (c.w.cells.map aH.enc),.lst (c.w.locks.map bv.enc),.lst (c.w.conds.map bO.enc),.lst (c.w.futures.map av),.lst (c.w.threads.map av),.lst (c.w.sites.map bM.enc)]from rfl,show(bK c.w).enc=[.lst ((bK c.w).locks.map LockD.enc),.YJ (bK c.w).tx,.lst ((bK c.w).done.map aD),.lst ((bK c.w).threads.map ThrD.enc)]from rfl]at j;generalize bK c.w=sy_ at *;unfold oo ay at u;rw[show c.enc=[.lst (c.w.cells.map aH.enc),.lst (c.w.locks.map bv.enc),.lst (c.w.conds.map bO.enc),.lst (c.w.futures.map av),.lst (c.w.threads.map av),.lst (c.w.sites.map bM.enc),.lst (c.ts.map eG.enc)]from rfl]at *
 repeat' (first|refine sy ?_|intro)
 exact u _ _ _ (.refl _)
end
