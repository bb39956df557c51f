/- part -/
import Derived.Test.YtfcfhjadaknphaaGreatDoorQxk
set_option linter.all false
set_option maxRecDepth 100000
set_option maxHeartbeats 0
namespace Go.Proofs.YtfcfhjadaknphaaGreatDoor.Am
def qi(t:eG):aG:=⟨0,List.replicate t.regs.toNat 0,List.replicate t.regs.toNat [],0⟩
def SI(l:List eG)(h1:l.length<=1000)(hr:∀t∈l,0<=t.regs/\t.regs<=1000)(u:SyncD)(x y:AV)(hx:∃b n,x=.sl b 0 n)(Z:∃b n,y=.sl b 0 n)(b2 B bt:Nat)(Y L0:SH)(Q:R)(hL0:L0.Perm ((bt,⟨4,[]⟩)::(B,⟨7,[[.lst (u.locks.map LockD.enc),.YJ u.tx,.lst (u.done.map aD),.lst (u.threads.map ThrD.enc),x,y,.sl bt 0 0]]⟩)::(b2,⟨7,[ay]⟩)::Y))
  (hq:∀(bt:Nat) (L:SH),(bt,(⟨4,(l.map qi).map aG.enc⟩:Blk))∈L->(∀q∈Y,q∈L)->Q (.agg [.lst (u.locks.map LockD.enc),.YJ u.tx,.lst (u.done.map aD),.lst (u.threads.map ThrD.enc),x,y,.sl bt 0 l.length]) L) :
  W.loop (uX Q) [.ptr b2 0 0,.ptr B 0 0,.lst (l.map eG.enc),.YJ l.length,.YJ (0:Nat)] L0:=by
 refine bF l.length (λk (S:Nat)=>([.ptr b2 0 0,.ptr B 0 0,.lst (l.map eG.enc),.YJ l.length,.YJ k],(S,⟨4,((l.take k).map qi).map aG.enc⟩)::(B,⟨7,[[.lst (u.locks.map LockD.enc),.YJ u.tx,.lst (u.done.map aD),.lst (u.threads.map ThrD.enc),x,y,.sl S 0 k]]⟩)::(b2,⟨7,[ay]⟩)::Y)) (λ_ _=>True) bt trivial (aE.forget (K:=[]) hL0) ?_;intro k S hk _;dsimp only;refine vw ?_;obtain⟨bx,nx,rfl⟩:=hx;obtain⟨by_,ny,rfl⟩:=Z;rcases Nat.lt_or_ge k l.length with O|O
 .have hd:=a8 O;have hxx:=aq (f:=eG.enc) O;obtain⟨r1,r2⟩:=hr _ (WN O);have htk:l.take (k+1)=l.take k++[l[k]]:=LE O;generalize hT:l[k]=tk at *;obtain⟨m,hm⟩:∃m:Nat,tk.regs=(m:Int):=⟨tk.regs.toNat,YC⟩;have hke:tk.enc=[.YJ (m:Int),.lst (tk.ins.map az.enc)]:=by rw[<-hm];rfl
  rw[hke]at hxx
  repeat' (first|refine sx ?_|refine fY (i:=m) (j:=m) YC YC YC (λM G=>?_)|refine qg rp rp YH rfl YH YH rfl (λM G=>?_)|refine sb λM G=>?_|fail)
  rename_i kr _ kt _ ka _;refine⟨k+1,M,YC,YC,trivial,?_⟩;rw[ax O YC,htk,WL,WL];have e:qi tk=⟨0,List.replicate m 0,List.replicate m [],0⟩:=by unfold qi;rw[hm];rfl
  refine aE.row (K:=[(ka,_),(kt,_),(kr,_)]) (R:=(B,_)::(b2,_)::Y) (XV (l₁:=[_,_,_])).symm YF ?_;intro j r r' D E;rcases Fn j (((l.take k).map qi).map aG.enc).length with hj|hj
  .rw[WW hj]at D E;rw[D]at E;cases E;exact fi.refl _ _
  .rw[WQ hj]at D E;rcases hmm:j-(((l.take k).map qi).map aG.enc).length with _|mm
   .rw[hmm]at D E;cases D;cases E;rw[e];refine .cons (.refl _) (.cons ?_ (.cons ?_ (.cons (.refl _) .nil)))
    .exact Fz.sls (l:=List.replicate m 0) (f:=ah) (.tail _ (.tail _ (.head _))) (by simp[ah]) YG YF
    .refine Fz.slm (l:=List.replicate m []) (f:=λ_=>[.nils]) (g:=bP) (.tail _ (.head _)) YF YG YF (λy _=>rfl) (λy Z q a a2 D E=>?_);obtain rfl:=(List.mem_replicate.1 Z).2
     match q with
     |0=>cases D;cases E;exact .nils
   .rw[hmm]at D;simp at D
 .have hd:=bq O;have hk0:k=l.length:=by omega
  subst hk0;rw[W9 (Fd _)];unfold ay
  repeat' (first|refine sy ?_|refine s2 ?_ ?_|intro)
  exact hq S _ (.head _) (λq h=>by simp[h])
def SJ(c:aL)(h1:c.w.cells.length<=1000)(Y S O M y z:AV)(b2 j B:Nat)(RR L0:SH)(Q:R)(hL0:L0.Perm ((B,⟨1,[]⟩)::(j,⟨7,[[Y,S,O,M,.sl B 0 0,y,z]]⟩)::RR))
  (hq:∀B:Nat,W.loop (uX Q) [.ptr b2 0 0,.ptr j 0 0,.lst (c.ts.map eG.enc),.YJ c.ts.length,.YJ (0:Nat)] ((B,⟨1,(c.w.cells.map aH.init).map ah⟩)::(j,⟨7,[[Y,S,O,M,.sl B 0 c.w.cells.length,y,z]]⟩)::RR)) :
  W.loop (uY Q) [.pptr [c.enc] 0 0,.ptr b2 0 0,.ptr j 0 0,.lst (c.w.cells.map aH.enc),.YJ c.w.cells.length,.YJ (0:Nat)] L0:=by
 refine bF c.w.cells.length (λk (G:Nat)=>([.pptr [c.enc] 0 0,.ptr b2 0 0,.ptr j 0 0,.lst (c.w.cells.map aH.enc),.YJ c.w.cells.length,.YJ k],(G,⟨1,((c.w.cells.take k).map aH.init).map ah⟩)::(j,⟨7,[[Y,S,O,M,.sl G 0 k,y,z]]⟩)::RR)) (λ_ _=>True) B trivial (aE.forget (K:=[]) hL0) ?_;intro k G hk _;dsimp only;refine vw ?_;rcases Nat.lt_or_ge k c.w.cells.length with u|u
 .have hd:=a8 u;have Z:=aq (f:=aH.enc) u;have htk:c.w.cells.take (k+1)=c.w.cells.take k++[c.w.cells[k]]:=LE u;generalize hT:c.w.cells[k]=ck at *;have hce:ck.enc=[.str ck.name,.YJ ck.index,.YJ ck.size,.bool ck.vol,.YJ ck.init]:=rfl;rw[hce]at Z
  repeat' (first|refine sx ?_|refine qg rp rp YH rfl YH YH rfl (λD E=>?_)|refine sb λD E=>?_|fail)
  refine⟨k+1,D,YC,YC,trivial,?_⟩;rw[ax u YC,htk,WL,WL];exact aE.forget (K:=[(_,_)]) (List.Perm.swap _ _ _)
 .have hk0:k=c.w.cells.length:=by omega
  subst hk0;rw[W9 (Fd _)];have:=hq G;have hd:=bq u;rw[show c.enc=[.lst (c.w.cells.map aH.enc),.lst (c.w.locks.map bv.enc),.lst (c.w.conds.map bO.enc),.lst (c.w.futures.map av),.lst (c.w.threads.map av),.lst (c.w.sites.map bM.enc),.lst (c.ts.map eG.enc)]from rfl]
  repeat' (first|exact this|refine sy ?_|refine s2 ?_ ?_|intro)
def D0(c:aL)(h1:c.w.cells.length<=100)(h2:c.w.locks.length<=100)(h3:c.w.futures.length<=100)(h4:c.w.threads.length<=100)(h5:c.ts.length<=1000)(hr:∀t∈c.ts,0<=t.regs/\t.regs<=1000):ao Tryz.prog 57 [.agg c.enc] (.agg (bC c).enc):=by
 have Y:=Nx c.w h2 h3 h4;refine Rm λQ hq=>E1 _ _ _ ?_
 refine vw ?_;have Z:c.w.enc=[.lst (c.w.cells.map aH.enc),.lst (c.w.locks.map bv.enc),.lst (c.w.conds.map bO.enc),.lst (c.w.futures.map av),.lst (c.w.threads.map av),.lst (c.w.sites.map bM.enc)]:=rfl;have hce:c.enc=[.lst (c.w.cells.map aH.enc),.lst (c.w.locks.map bv.enc),.lst (c.w.conds.map bO.enc),.lst (c.w.futures.map av),.lst (c.w.threads.map av),.lst (c.w.sites.map bM.enc),.lst (c.ts.map eG.enc)]:=rfl;rw[Z]at Y;have hsy:(bK c.w).enc=[.lst ((bK c.w).locks.map LockD.enc),.YJ (bK c.w).tx,.lst ((bK c.w).done.map aD),.lst ((bK c.w).threads.map ThrD.enc)]:=rfl;rw[hsy]at Y;rw[hce];generalize hsg:bK c.w=u at *;have lp:∀(O B G E M:Nat) (L:SH),L=(B,⟨7,[[.lst (u.locks.map LockD.enc),.YJ u.tx,.lst (u.done.map aD),.lst (u.threads.map ThrD.enc),.sl G 0 0,.sl E 0 c.w.futures.length,.sl M 0 0]]⟩)::(M,⟨4,[]⟩)::(E,⟨1,List.replicate c.w.futures.length [.YJ 0]⟩)::(G,⟨1,[]⟩)::[(O,⟨7,[ay]⟩)]->
   W.loop (uY Q) [.pptr [c.enc] 0 0,.ptr O 0 0,.ptr B 0 0,.lst (c.w.cells.map aH.enc),.YJ c.w.cells.length,.YJ (0:Nat)] L:=by
  rintro O B G E M L rfl;refine SJ c YC (.lst (u.locks.map LockD.enc)) (.YJ u.tx) (.lst (u.done.map aD)) (.lst (u.threads.map ThrD.enc)) (.sl E 0 c.w.futures.length) (.sl M 0 0) O B G ((M,⟨4,[]⟩)::(E,⟨1,List.replicate c.w.futures.length [.YJ 0]⟩)::[(O,⟨7,[ay]⟩)]) _ Q ?_ λG=>?_
  .exact XV (l₁:=[_,_,_]) (l₂:=[_])
  refine SI c.ts h5 hr u (.sl G 0 c.w.cells.length) (.sl E 0 c.w.futures.length) ⟨G,_,rfl⟩ ⟨E,_,rfl⟩ O B M [(G,⟨1,(c.w.cells.map aH.init).map ah⟩),(E,⟨1,List.replicate c.w.futures.length [.YJ 0]⟩)] _ Q ?_ λM L hm hL=>?_
  .exact(XV (l₁:=[_,_])).trans (((List.Perm.swap _ _ _).trans ((XV (l₁:=[_,_])).cons _)).cons _)
  refine hq _ _ ?_;have he:(bC c).enc=[.lst (u.locks.map LockD.enc),.YJ u.tx,.lst (u.done.map aD),.lst (u.threads.map ThrD.enc),.lst ((c.w.cells.map aH.init).map ah),.lst ((List.replicate c.w.futures.length (0:Int)).map ah),.lst ((c.ts.map qi).map aG.enc)]:=by unfold bC bU.enc;rw[hsg];rfl
  rw[he];refine Fz.aggs (.cons (.refl _) (.cons (.refl _) (.cons (.refl _) (.cons (.refl _) (.cons ?_ (.cons ?_ (.cons ?_ .nil)))))))
  .exact Fz.sls (hL _ (.head _)) rfl YG YF
  .exact Fz.sls (hL _ (.tail _ (.head _))) (by simp[ah]) YG YF
  .exact Fz.sls hm rfl YG YF
 repeat' (first|exact lp _ _ _ _ _ _ rfl|refine sy ?_|refine fY (i:=0) (j:=c.w.cells.length) YC YC YC (λS D=>?_)|refine fY (i:=c.w.futures.length) (j:=c.w.futures.length) YC YC YC (λS D=>?_)|refine fY (i:=0) (j:=c.ts.length) YC YC YC (λS D=>?_)|refine s2 ?_ ?_|intro)
def U9:List Int:=(List.range 401).map λk:Nat=>(k:Int)
def NP{n:Int}(u:0<=n)(j:n<=400):n∈U9:=Xi.2 ⟨n.toNat,XR.2 YC,YC⟩
def NQ:U9.length<=2^30:=by simp[U9]
structure nY(c:aL)(n:Nat)(s:bU):Prop where
 thr:∀x∈s.threads,ji U9 x/\0<=x.ev/\x.ev<=n/\x.regs.length<=1000
 nt:s.threads.length<=1000
 lk:s.sync.locks.length<=1000
 rd:∀l∈s.sync.locks,l.readers.length<=n
 dn:s.sync.done.length<=1000
 th:s.sync.threads.length<=1000
 nc:s.cells.length<=1000
 nf:s.futures.length<=1000
structure SK(s s':SyncD)(n:Nat):Prop where
 lk:s'.locks.length=s.locks.length
 dn:s'.done.length=s.done.length
 th:s'.threads.length=s.threads.length
 rd:∀l∈s'.locks,l.readers.length<=n+1
def Ls(l:List Int)(t:Int):(uF l t).length<=l.length+1:=by unfold uF;have:=pH (wu (l++[t]));rw[qJ]at this;simpa using this
def Lt{s:SyncD}{n:Nat}(h:∀l∈s.locks,l.readers.length<=n)(o:Int):(aP s o).readers.length<=n:=by
 unfold aP;rcases Fn o.toNat s.locks.length with j|j
 .simpa[List.getD,j]using h _ (WN j)
 .simp[List.getD,ST j];exact Xq _
def Lu{w:aK}{s:SyncD}{t k o wake:Int}{n:Nat}(h:∀l∈s.locks,l.readers.length<=n):SK s (bn w s t k o wake).1 n:=by
  have j:∀l∈s.locks,l.readers.length<=n+1:=λl u=>Yk (h l u)
  have lk:∀(i:Int) (f:LockD->LockD),(∀x,x.readers.length<=n->(f x).readers.length<=n+1)->∀l∈cN s i f,l.readers.length<=n+1:=λi f D l u=>by
    unfold cN at u;rcases Yg u with E|rfl
    · exact j l E
    · exact D _ (Lt h i)
  have own:∀(i v:Int),∀l∈cN s i (λx=>{x with owner:=v}),l.readers.length<=n+1:=λi v=>lk i _ λx B=>Yk B
  have G:∀(i:Int) (f:LockD->LockD),(cN s i f).length=s.locks.length:=λi f=>by simp[cN]
  have tl:∀(i:Int) (f:ThrD->ThrD),(dP s i f).length=s.threads.length:=λi f=>by simp[dP]
  unfold bn
  repeat' refine iteInduction (motive:=λx:SyncD×Int=>SK s x.1 n) (λ_=>?_) (λ_=>?_)
  all_goals refine⟨by simp[cN],YF,by simp[dP,wE,cX,DQ],?_⟩
  all_goals first
    |exact j
    | (intro l u; dsimp only at u
       refine lk _ _ (λx B=>?_) l u;dsimp only
       first
         |exact Yk B
         |exact W5 (Ls _ _) (Nat.succ_le_succ B)
         |exact W5 (X2 _ _) (Yk B))
def nZ{i:az}{e:bH}{s:bU}{th:aG}{sv:Int}:(cG i e s th sv).thread.ev=IntKind.i64.wrap (th.ev+1)/\(cG i e s th sv).thread.regs.length=th.regs.length/\(cG i e s th sv).cells.length=s.cells.length/\(cG i e s th sv).futures.length=s.futures.length:=by
 unfold cG;dsimp only
 repeat' split
 all_goals exact⟨rfl,YF,YF,YF⟩
def P9{i:az}{s s2:aG}(h:aZ i s=some s2):s2.ev=s.ev:=by
 unfold aZ at h
 repeat' split at h
 all_goals first
  |(cases h;rfl)
  |cases h
def SL{j:List az}:∀(k:Nat) {s y:aG},eV j k s=(y,true)->y.ev=s.ev/\y.regs.length=s.regs.length:=by
 intro k
 induction k with
 |zero=>
  intro s y h;unfold eV at h
  repeat' split at h
  all_goals first
   |(cases h;exact⟨rfl,rfl⟩)
   |cases h
 |succ k B=>
  intro s y h;unfold eV at h;split at h
  .split at h
   .cases h;exact⟨rfl,rfl⟩
   .split at h
    .cases h
    .rename_i s2 u;obtain⟨a,b⟩:=B h;rw[a,b,P9 u,(wJ u).1];exact⟨rfl,rfl⟩
  .cases h
def D1{c:eG}{s y:aG}(h:bu c s=(y,true)):y.ev=s.ev/\y.regs.length=s.regs.length:=by
 unfold bu at h;split at h
 .exact SL _ h
 .cases h
structure Vn(c:aL)(s:bU)(t wake:Int)(s':bU)(e':bH):Prop where
 ex:∃(e:bH) (th':aG),bS c s t=some e/\(ef c.w s.sync t e.kind e.obj wake).2.2=true/\s.cells.length=c.w.cells.length/\s.futures.length=c.w.futures.length/\
  (th'=(cG (bV (au c t) (aB s t).pc) e s (aB s t) (ef c.w s.sync t e.kind e.obj wake).2.1).thread\/bu (au c t) (cG (bV (au c t) (aB s t).pc) e s (aB s t) (ef c.w s.sync t e.kind e.obj wake).2.1).thread=(th',true))/\
  s'=⟨(ef c.w s.sync t e.kind e.obj wake).1,(cG (bV (au c t) (aB s t).pc) e s (aB s t) (ef c.w s.sync t e.kind e.obj wake).2.1).cells,(cG (bV (au c t) (aB s t).pc) e s (aB s t) (ef c.w s.sync t e.kind e.obj wake).2.1).futures,s.threads.set t.toNat th'⟩/\
  e'={e with value:=(cG (bV (au c t) (aB s t).pc) e s (aB s t) (ef c.w s.sync t e.kind e.obj wake).2.1).value}
def I1{c:aL}{s u:bU}{t wake:Int}{D:bH}(h:cB c s t wake=some (u,D)):Vn c s t wake u D:=by
 rw[lC]at h;cases hp:bS c s t with
 |none=>rw[hp]at h;cases h
 |some e=>
  rw[hp]at h;dsimp only at h;split at h
  .rename_i j;split at h
   .rename_i B;unfold lY at h;split at h
    .split at h
     .rename_i E;cases h;exact⟨e,_,hp,B,j.1,j.2,.inr (Prod.ext rfl E),rfl,rfl⟩
     .cases h
    .cases h;exact⟨e,_,hp,B,j.1,j.2,.inl rfl,rfl,rfl⟩
   .cases h
  .cases h
def Hk{c:aL}{s M:bU}{t wake:Int}{e':bH}{n:Nat}(hn:n<400)(H:nY c n s)(hi:∀x∈c.ts,u3 x)(h:cB c s t wake=some (M,e')):nY c (n+1) M:=by
 obtain⟨e,j,hp,G,hl1,hl2,E,rfl,rfl⟩:=I1 h;have a2:=(fe (tG hi hp).ready).2.1;have u:aB s t∈s.threads:=fO (d:=aG.zero) a2;obtain⟨Z,Y,t3,t4⟩:=H.thr _ u;have at_:=A8 (U:=U9) (i:=bV (au c t) (aB s t).pc) (e:=e) (s:=s) (sv:=(ef c.w s.sync t e.kind e.obj wake).2.1) Z (NP Y YC);obtain⟨O,q2,q3,q4⟩:=nZ (i:=bV (au c t) (aB s t).pc) (e:=e) (s:=s) (th:=aB s t) (sv:=(ef c.w s.sync t e.kind e.obj wake).2.1);rw[WY _ YC]at O;have B:SK s.sync (ef c.w s.sync t e.kind e.obj wake).1 n:=by
  unfold ef at G ⊢;split
  .exact Lu H.rd
  .rename_i he;rw[if_neg he]at G;cases G
 have D:ji U9 j/\j.ev=(aB s t).ev+1/\j.regs.length=(aB s t).regs.length:=by
  rcases E with rfl|S
  .exact⟨at_,O,q2⟩
  .have:=G5 (c:=au c t) NQ at_;rw[S]at this;obtain⟨a,b⟩:=D1 S;exact⟨this,YC,YC⟩
 refine⟨λx hx=>?_,by simpa using H.nt,by rw[B.lk];exact H.lk,B.rd,by rw[B.dn];exact H.dn,by rw[B.th];exact H.th,by rw[q3];exact H.nc,by rw[q4];exact H.nf⟩;rcases Yg hx with h1|rfl
 .obtain⟨b1,b2,b3,b4⟩:=H.thr x h1;exact⟨b1,b2,YC,b4⟩
 .exact⟨D.1,YC,YC,YC⟩
def u7{c:aL}{s:bU}{n:Nat}(M:n<=400)(H:nY c n s)(B:∀x∈c.ts,u3 x)(u:∀x∈c.ts,x.ins.length<2^40)(D:c.w.conds.length<2^40):Rs U9 c s where
 ins:=B
 len:=u
 u30:=NQ
 thr:=λx j=>by obtain⟨G,E,S,O⟩:=H.thr x j;exact⟨G,NP E YC,YC⟩
 sm:=⟨D,by have:=H.lk;omega,by have:=H.dn;omega,by have:=H.th;omega,λl h=>by have:=H.rd l h;omega⟩
 nt:=by have:=H.nt;omega
 nc:=by have:=H.nc;omega
 nf:=by have:=H.nf;omega
def cf(c:aL)(l:List bW)(p:List bH×bU):List bH×bU:=l.foldl (zB c) p
def qP(c:aL):∀(l:List bW) (p:List bH×bU),400<=p.1.length->cf c l p=p
 |[],p,_=>rfl
 | ch::l,p,h=>by
  show cf c l (zB c p ch)=p;have e:zB c p ch=p:=by unfold zB;rw[if_pos h]
  rw[e];exact qP c l p h
def wY(c:aL)(l:List bW)(k:Nat)(p:List bH×bU):cf c l p=cf c (l.drop k) (cf c (l.take k) p):=by unfold cf;rw[<-List.foldl_append,List.take_append_drop]
def wZ(c:aL)(l:List bW)(k:Nat)(j:k<l.length)(p:List bH×bU):cf c (l.take (k+1)) p=zB c (cf c (l.take k) p) l[k]:=by unfold cf;rw[LE j,Yw];rfl
structure A9(c:aL):Prop where
 ins:∀x∈c.ts,u3 x
 len:∀x∈c.ts,x.ins.length<2^40
 con:c.w.conds.length<2^40
def SM{c:aL}(D:A9 c){p:List bH×bU}{ch:bW}(h:nY c p.1.length p.2)(j:p.1.length<=400):nY c (zB c p ch).1.length (zB c p ch).2/\(zB c p ch).1.length<=400:=by
 unfold zB;split
 .exact⟨h,j⟩
 .rename_i B;split
  .exact⟨h,j⟩
  .rename_i n e u;have:=Hk YC h D.ins u;exact⟨by simpa using this,YH⟩
def Ku{c:aL}(B:A9 c)(l:List bW){p:List bH×bU}(h:nY c p.1.length p.2)(j:p.1.length<=400):nY c (cf c l p).1.length (cf c l p).2/\(cf c l p).1.length<=400:=by
 induction l generalizing p with
 |nil=>exact⟨h,j⟩
 |cons ch l u=>obtain⟨a,b⟩:=SM (ch:=ch) B h j;exact u a b
section
open Go.RowKit
def I2(xs:List aH)(G:xs.length<=1000):ao Tryz.prog 59 [.lst (xs.map aH.enc)] (.lst (xs.map aH.enc)):=by
 refine ac.fz ((hZ (λA n c xs w B E u D=>cloneWc_any A n c xs w B E u D) ⟨_,_,Tryz.func59,rfl⟩ (xs.map aH.enc) (by rw[W2];intro r j;obtain⟨x,_,rfl⟩:=Xi.1 j;rfl) (λr j=>by obtain⟨x,_,rfl⟩:=Xi.1 j;rfl) YH).mono ?_);rintro v L ⟨o,rfl,rfl,h⟩;refine⟨_,[],aE.all ?_,rfl,rfl⟩;cases o with
 |none=>rw[h rfl];exact .refl _
 |some b=>exact Fz.sls (.head _) rfl YG YF
def I3(xs:List bv)(G:xs.length<=1000):ao Tryz.prog 60 [.lst (xs.map bv.enc)] (.lst (xs.map bv.enc)):=by
 refine ac.fz ((hZ (λA n c xs w B E u D=>cloneWl_any A n c xs w B E u D) ⟨_,_,Tryz.func60,rfl⟩ (xs.map bv.enc) (by rw[W2];intro r j;obtain⟨x,_,rfl⟩:=Xi.1 j;rfl) (λr j=>by obtain⟨x,_,rfl⟩:=Xi.1 j;rfl) YH).mono ?_);rintro v L ⟨o,rfl,rfl,h⟩;refine⟨_,[],aE.all ?_,rfl,rfl⟩;cases o with
 |none=>rw[h rfl];exact .refl _
 |some b=>exact Fz.sls (.head _) rfl YG YF
def I4(xs:List bO)(G:xs.length<=1000):ao Tryz.prog 61 [.lst (xs.map bO.enc)] (.lst (xs.map bO.enc)):=by
 refine ac.fz ((hZ (λA n c xs w B E u D=>cloneWd_any A n c xs w B E u D) ⟨_,_,Tryz.func61,rfl⟩ (xs.map bO.enc) (by rw[W2];intro r j;obtain⟨x,_,rfl⟩:=Xi.1 j;rfl) (λr j=>by obtain⟨x,_,rfl⟩:=Xi.1 j;rfl) YH).mono ?_);rintro v L ⟨o,rfl,rfl,h⟩;refine⟨_,[],aE.all ?_,rfl,rfl⟩;cases o with
 |none=>rw[h rfl];exact .refl _
 |some b=>exact Fz.sls (.head _) rfl YG YF
def I5(xs:List bM)(G:xs.length<=1000):ao Tryz.prog 63 [.lst (xs.map bM.enc)] (.lst (xs.map bM.enc)):=by
 refine ac.fz ((hZ (λA n c xs w B E u D=>cloneWs_any A n c xs w B E u D) ⟨_,_,Tryz.func63,rfl⟩ (xs.map bM.enc) (by rw[W2];intro r j;obtain⟨x,_,rfl⟩:=Xi.1 j;rfl) (λr j=>by obtain⟨x,_,rfl⟩:=Xi.1 j;rfl) YH).mono ?_);rintro v L ⟨o,rfl,rfl,h⟩;refine⟨_,[],aE.all ?_,rfl,rfl⟩;cases o with
 |none=>rw[h rfl];exact .refl _
 |some b=>exact Fz.sls (.head _) rfl YG YF
def Ba(xs:List aO)(G:xs.length<=1000):ao Tryz.prog 62 [.lst (xs.map av)] (.lst (xs.map av)):=by
 refine ac.fz ((hZ (λA n c xs w B E u D=>cloneWt_any A n c xs w B E u D) ⟨_,_,Tryz.func62,rfl⟩ (xs.map av) (by rw[W2];intro r j;obtain⟨x,_,rfl⟩:=Xi.1 j;rfl) (λr j=>by obtain⟨x,_,rfl⟩:=Xi.1 j;rfl) YH).mono ?_);rintro v L ⟨o,rfl,rfl,h⟩;refine⟨_,[],aE.all ?_,rfl,rfl⟩;cases o with
 |none=>rw[h rfl];exact .refl _
 |some b=>exact Fz.sls (.head _) rfl YG YF
end
def w5(w:aK)(E:w.cells.length<=1000)(h2:w.locks.length<=1000)(D:w.conds.length<=1000)(h4:w.futures.length<=1000)(B:w.threads.length<=1000)(u:w.sites.length<=1000):ao Tryz.prog 30 [.agg w.enc] (.agg w.enc):=by
 have Z:=I2 w.cells E;have Y:=I3 w.locks h2;have S:=I4 w.conds D;have O:=Ba w.futures h4;have M:=Ba w.threads B;have G:=I5 w.sites u;refine Pi λQ j=>wX _ _ _ ?_
 refine vw ?_;unfold aK.enc at *
 repeat' (first|refine sy ?_|refine s2 ?_ ?_|intro)
 exact j _
def jr{c:aL}(h:fy c)(B:∀t∈c.ts,t.ins.length<2^40):A9 c where
 ins:=λx u i G=>by obtain⟨k,D,rfl⟩:=List.mem_iff_getElem.1 u;obtain⟨j,E,rfl⟩:=List.mem_iff_getElem.1 G;have:=(h.thr k D).ins j E;exact⟨this.lo,this.hi,this.regs⟩
 len:=B
 con:=by have:=h.world.d2;omega
def u9{c:aL}(h:fy c):∀t∈c.ts,0<=t.regs/\t.regs<=1000:=λt j=>by obtain⟨k,u,rfl⟩:=List.mem_iff_getElem.1 j;have:=h.thr k u;have D:=this.r0;have B:=this.r32;exact⟨D,YC⟩
def zC{c:aL}(h:fy c):nY c 0 (bC c):=by
 have j:=h.world;refine⟨λx B=>?_,?_,?_,λl u=>?_,?_,?_,?_,?_⟩
 .obtain⟨t,D,rfl⟩:=Xi.1 B;have:=u9 h t D;exact⟨⟨YF,YH,λl u=>by rw[(List.mem_replicate.1 u).2];simp,λl u x B=>by rw[(List.mem_replicate.1 u).2]at B;simp at B⟩,Int.le_refl _,Int.le_refl _,YH⟩
 .have:=h.len;have:=j.t4;simp[bC];omega
 .have:=j.l4;simp[bC,bK];omega
 .have:=(List.mem_replicate.1 u).2;rw[this];simp
 .have:=j.f2;simp[bC,bK];omega
 .have:=j.t4;simp[bC,bK];omega
 .have:=j.c12;simp[bC];omega
 .have:=j.f2;simp[bC];omega
structure fI where
 w:aK
 ev:List bH
def fI.enc(t:fI):List AV:=[.lst (t.w.cells.map aH.enc),.lst (t.w.locks.map bv.enc),.lst (t.w.conds.map bO.enc),.lst (t.w.futures.map av),.lst (t.w.threads.map av),.lst (t.w.sites.map bM.enc),.lst (t.ev.map bH.enc)]
def Rt(e:bH):Prop:=e.deps.length<=2^30/\e.frm.length<=2^30
def I6{i:az}{s:aG}{t:Int}(h:∀r,(s.tnt r).length<=2^30):Rt (dM i s t):=by
 unfold dM Rt;dsimp only
 repeat' split
 all_goals first
  |exact⟨Xq _,Xq _⟩
  |exact⟨h _,Xq _⟩
  |exact⟨Xq _,h _⟩
  |exact⟨h _,h _⟩
def Lw{U:List Int}{s:aG}(h:ji U s)(r:Int):(s.tnt r).length<=2^30:=by
 unfold aG.tnt;rcases Fn r.toNat s.taint.length with j|j
 .simpa[j]using h.short _ (WN j)
 .simp[List.getD,ST j]
def I7{c:aL}{s:bU}{t:Int}{e:bH}{n:Nat}(H:nY c n s)(h:bS c s t=some e):Rt e:=by
 unfold bS at h;split at h
 .rename_i u;have B:aB s t∈s.threads:=fO (d:=aG.zero) (fe u).2.1;have j:=λr=>Lw (H.thr _ B).1 r
  dsimp only at h;split at h
  .cases h;exact⟨Xq _,Xq _⟩
  .split at h
   .cases h;exact⟨Xq _,Xq _⟩
   .split at h
    .split at h
     .cases h;exact I6 j
     .cases h
    .cases h
 .cases h
def jt(e:bH):bW:=⟨e.thread,if e.kind=18/\0<=e.value/\e.value<4 then e.value else -1⟩
def Hl{w:aK}{s:SyncD}{t k o:Int}(h:k≠18)(x y:Int):bn w s t k o x=bn w s t k o y:=by unfold bn;simp only[h,if_false]
def xX(u:Nat)(l:List Nat)(wake:Int):aS (u::l) wake=if(u::l).any (λx=>decide ((x:Int)=wake))=true then wake else(u:Int):=rfl
def E9{l:List Nat}{wake:Int}(h:0<=aS l wake):aS l (aS l wake)=aS l wake:=by
 have j:=nN h;generalize B:aS l wake=v at *;cases l with
 |nil=>simp at j
 |cons u l=>rw[xX,if_pos (XZ.2 ⟨v.toNat,j,by rw[decide_eq_true_eq];omega⟩)]
def Hm{l:List Nat}{wake:Int}(h:¬0<=aS l wake)(x:Int):aS l x=aS l wake:=by
 cases l with
 |nil=>rfl
 |cons u l=>
  exfalso;refine h ?_;rw[xX];split
  .next g=>
   obtain⟨y,_,j⟩:=XZ.1 g;have:=of_decide_eq_true j;omega
  .exact Yq _
def Fa{T:List ThrD}{c wake:Int}(h4:T.length<=4):cm T c (if 0<=cm T c wake/\cm T c wake<4 then cm T c wake else -1)=cm T c wake:=by
 by_cases h:0<=cm T c wake
 .have u:=nP (nN (show 0<=aS (aM T c T.length) wake from h));have j:cm T c wake<4:=by unfold cm at h ⊢;omega
  rw[if_pos ⟨h,j⟩];exact E9 (show 0<=aS (aM T c T.length) wake from h)
 .rw[if_neg λx=>h x.1];exact Hm (show¬0<=aS (aM T c T.length) wake from h) (-1)
def Hq{w:aK}{s:SyncD}{t k o wake:Int}(h4:s.threads.length<=4):bn w s t k o (if k=18/\0<=(bn w s t k o wake).2/\(bn w s t k o wake).2<4 then(bn w s t k o wake).2 else -1)=bn w s t k o wake:=by
 by_cases h:k=18
 .subst h;have j:∀x,bn w s t 18 o x=({s with threads:=fj s.threads o x},cm s.threads o x):=λx=>rfl
  rw[j wake];simp only[true_and];rw[j];have:=Fa (c:=o) (wake:=wake) h4;unfold fj;rw[this]
 .exact Hl h _ _
def NS{c:aL}{s:bU}{t:Int}{e:bH}(h:bS c s t=some e):e.thread=t:=by
 unfold bS at h;split at h
 .dsimp only at h;split at h
  .cases h;rfl
  .split at h
   .cases h;rfl
   .split at h
    .split at h
     .cases h;unfold dM;dsimp only
      repeat' split
      all_goals rfl
     .cases h
    .cases h
 .cases h
def I8{c:aL}{s n:bU}{t wake:Int}{e:bH}(h4:c.w.threads.length<=4)(h:cB c s t wake=some (n,e)):cB c s (jt e).thread (jt e).wake=some (n,e):=by
 have O:=h;unfold cB at h;cases hp:bS c s t with
 |none=>rw[hp]at h;cases h
 |some p=>
  rw[hp]at h;dsimp only at h;split at h
  .next hlen=>
   split at h
   .next hr=>
    have B:=NS hp;have u:aI c.w s.sync t p.kind p.obj=true:=by
     unfold ef at hr;split at hr
     .assumption
     .cases hr
    have G:s.sync.threads.length<=4:=by unfold aI at u;simp only[WZ]at u;rw[(fE.1 u.1.1.1).threads];exact h4
    have j:∀x,ef c.w s.sync t p.kind p.obj x=((bn c.w s.sync t p.kind p.obj x).1,(bn c.w s.sync t p.kind p.obj x).2,true):=λx=>by unfold ef;rw[if_pos u]
    have E:e.thread=t/\e.kind=p.kind/\(p.kind=18->e.value=(bn c.w s.sync t p.kind p.obj wake).2):=by
     rw[j]at h;dsimp only at h;split at h
     .split at h
      .cases h;refine⟨B,rfl,λg=>?_⟩;dsimp only;unfold cG;simp[g]
      .cases h
     .cases h;refine⟨B,rfl,λg=>?_⟩;dsimp only;unfold cG;simp[g]
    have M:=Hq (w:=c.w) (t:=t) (k:=p.kind) (o:=p.obj) (wake:=wake) G;have D:(jt e).wake=if p.kind=18/\0<=(bn c.w s.sync t p.kind p.obj wake).2/\(bn c.w s.sync t p.kind p.obj wake).2<4 then(bn c.w s.sync t p.kind p.obj wake).2 else -1:=by
     unfold jt;dsimp only;rw[E.2.1];by_cases g:p.kind=18
     .rw[E.2.2 g]
     .rw[if_neg λx=>g x.1,if_neg λx=>g x.1]
    rw[<-O];unfold cB;rw[show(jt e).thread=t from E.1,hp];dsimp only;rw[j,j,D,M]
   .cases h
  .cases h
def vb(c:aL)(p:List bH×bU):Prop:=p.1.length<=400/\cf c (p.1.map jt) ([],bC c)=p
def Lx(c:aL)(l:List bW)(x:bW)(p:List bH×bU):cf c (l++[x]) p=zB c (cf c l p) x:=by unfold cf;rw[Yw];rfl
def Bb{c:aL}(h4:c.w.threads.length<=4){ev:List bH}{s n:bU}{t wake:Int}{e:bH}(H:vb c (ev,s))(j:ev.length<400)(h:cB c s t wake=some (n,e)):vb c (ev++[e],n):=by refine⟨YH,?_⟩;show cf c ((ev++[e]).map jt) ([],bC c)=(ev++[e],n);rw[List.map_append,List.map_singleton,Lx,H.2];unfold zB;rw[if_neg (by dsimp only;omega)];dsimp only;rw[I8 h4 h]
def NT{c:aL}(h4:c.w.threads.length<=4){p:List bH×bU}(H:vb c p)(ch:bW):vb c (zB c p ch):=by
 obtain⟨ev,s⟩:=p;unfold zB;dsimp only;split
 .exact H
 .next hl=>
  cases h:cB c s ch.thread ch.wake with
  |none=>exact H
  |some r=>obtain⟨n,e⟩:=r;exact Bb h4 H YC h
def w6{c:aL}(h4:c.w.threads.length<=4):∀(l:List bW) {p:List bH×bU},vb c p->vb c (cf c l p)
 |[],p,H=>H
 |ch::l,p,H=>w6 h4 l (NT h4 H ch)
def xY(c:aL):vb c ([],bC c):=⟨YF,rfl⟩
def CM(c:aL)(s:bU):Nat->Nat->Option (bU×bH)
 |_,0=>none
 | t,k+1=>match cB c s (t:Int) (-1)with
  |some r=>some r
  |none=>CM c s (t+1) k
def fJ(c:aL)(s:bU):Option (bU×bH):=CM c s 0 c.ts.length
def Bc{c:aL}{s:bU}{r:bU×bH}:∀(k t:Nat),CM c s t k=some r->∃u:Nat,t<=u/\u<t+k/\cB c s (u:Int) (-1)=some r
 |0,t,h=>by cases h
 | k+1,t,h=>by
  unfold CM at h;cases j:cB c s (t:Int) (-1)with
  |some x=>rw[j]at h;cases h;exact⟨t,YC,YC,j⟩
  |none=>rw[j]at h;obtain⟨u,D,h2,B⟩:=Bc k (t+1) h;exact⟨u,YC,YC,B⟩
def Hr{c:aL}{s:bU}:∀(k t:Nat),CM c s t k=none->∀u:Nat,t<=u->u<t+k->cB c s (u:Int) (-1)=none
 |0,t,_,u,h1,h2=>absurd h2 YC
 | k+1,t,h,u,h1,h2=>by
  unfold CM at h;cases j:cB c s (t:Int) (-1)with
  |some x=>rw[j]at h;cases h
  |none=>
   rw[j]at h;rcases Fn t u with g|g
   .exact Hr k (t+1) h u YC YC
   .obtain rfl:u=t:=by omega
    exact j
def eg(c:aL):Nat->List bH×bU->List bH×bU
 |0,p=>p
 | k+1,p=>if 400<=p.1.length then p else match fJ c p.2 with
  |none=>p
  |some (n,e)=>eg c k (p.1++[e],n)
def w7{c:aL}(h4:c.w.threads.length<=4):∀(k:Nat) {p:List bH×bU},vb c p->vb c (eg c k p)
 |0,p,H=>H
 | k+1,p,H=>by
  obtain⟨ev,s⟩:=p;unfold eg;dsimp only;split
  .exact H
  .next hl=>
   cases h:fJ c s with
   |none=>exact H
   |some r=>obtain⟨n,e⟩:=r;obtain⟨u,_,_,j⟩:=Bc _ _ h;exact w7 h4 k (Bb h4 H YC j)
def aR(c:aL)(l:List bW):List bH×bU:=eg c 400 (fN c l)
def Ly{j:List az}:∀(k:Nat) {s y:aG},eV j k s=(y,true)->inB y.pc j.length=true/\((j.getD y.pc.toNat default).op<1\/5<(j.getD y.pc.toNat default).op):=by
 intro k
 induction k with
 |zero=>
  intro s y h;unfold eV at h
  repeat' split at h
  all_goals first
   |(cases h;exact⟨YD,YD⟩)
   |cases h
 |succ k u=>
  intro s y h;unfold eV at h;split at h
  .split at h
   .cases h;exact⟨YD,YD⟩
   .split at h
    .cases h
    .exact u h
  .cases h
def xZ{c:eG}{s y:aG}(h:bu c s=(y,true)):inB y.pc c.ins.length=true/\((bV c y.pc).op<1\/5<(bV c y.pc).op)/\(y.regs.length:Int)=c.regs:=by
 have u:=D1 h;unfold bu at h;split at h
 .rename_i j;have:=Ly _ h;exact⟨this.1,this.2,by rw[u.2];exact j.1⟩
 .cases h
def SO{w:aK}{s:SyncD}{t k o wake:Int}(B:aI w s t k o=true)(j:Nat)(E:(j:Int)≠t)(h:(a7 (bn w s t k o wake).1 j).status=2):(a7 s j).status=2:=by
 unfold aI at B;simp only[WZ]at B;have D:=aw.1 B.1.1.2;have u:∀x:ThrD,(s.threads.set t.toNat x).getD j default=s.threads.getD j default:=λx=>by
  have:t.toNat≠j:=by omega
  simp[List.getD,Xc,this]
 rcases kinds k with g|g
 .rw[fZ g]at B;exact absurd B.1.2 YF
 rcases g with rfl|rfl|rfl|rfl|rfl|rfl|rfl|rfl|rfl|rfl|rfl|rfl|rfl|rfl|rfl|rfl|rfl|rfl|rfl|rfl|rfl|rfl|rfl
 all_goals simp only[bn,Int.reduceEq,if_true,if_false,or_true,true_or,or_false,or_self,↓reduceIte,a7,Xx,dP]at h ⊢
 all_goals try rw[u]at h
 all_goals first
  |exact h
  |skip
 ·
  unfold fj at h;split at h
  .unfold gB at h;by_cases e:(cm s.threads o wake).toNat=j
   .rw[e]at h;rcases Fn j s.threads.length with g|g
    .simp[List.getD,g]at h
    .simp[List.getD,Xc,g]at h;simp[List.getD,ST g];exact h
   .simpa[List.getD,Xc,e]using h
  .exact h
 ·
  unfold DQ at h;rcases Fn j s.threads.length with g|g
  .simp only[List.getD,fk _ _ _ _ g,XU]at h;split at h
   .exact absurd h YF
   .simpa[List.getD,g]using h
  .have:(dq s.threads o s.threads.length)[j]? =none:=ST (by rw[cX];exact g);simp[List.getD,this]at h;simp[List.getD,ST g];exact h
 ·
  by_cases e:o.toNat=j
  .rw[e]at h;rcases Fn j s.threads.length with g|g
   .simp[List.getD,g]at h
   .simp[List.getD,Xc,g]at h;simp[List.getD,ST g];exact h
  .simpa[List.getD,Xc,e]using h
structure Be(c:aL)(s:bU):Prop where
 th:s.threads.length=c.ts.length
 sy:s.sync.threads.length=c.ts.length
 pc:∀t:Nat,t<c.ts.length->inB (aB s t).pc (au c t).ins.length=true/\((aB s t).regs.length:Int)=(au c t).regs
 run:∀t:Nat,t<c.ts.length->(a7 s.sync t).status=2->gF (bV (au c t) (aB s t).pc).op≠0
def SP{op:Int}(j:6<=op)(h2:op<=28):gF op≠0:=by
 have:∀k:Nat,k<29->6<=k->iP.getD k 0≠0:=by decide
 unfold gF;exact this op.toNat YC YC
def D2{c:aL}{s D:bU}{t wake:Int}{O:bH}(h:cB c s t wake=some (D,O)):∃(e:bH) (j:aG),bS c s t=some e/\aI c.w s.sync t e.kind e.obj=true/\D.sync=(bn c.w s.sync t e.kind e.obj wake).1/\D.threads=s.threads.set t.toNat j/\
  ((e.kind=16\/e.kind=2)/\j.pc=(aB s t).pc/\j.regs.length=(aB s t).regs.length\/∃a,bu (au c t) a=(j,true)):=by
 rw[lC]at h;cases hp:bS c s t with
 |none=>rw[hp]at h;cases h
 |some e=>
  rw[hp]at h;dsimp only at h;split at h
  .split at h
   .rename_i E;have u:aI c.w s.sync t e.kind e.obj=true:=by
     unfold ef at E;split at E
     .assumption
     .cases E
    have B:(ef c.w s.sync t e.kind e.obj wake).1=(bn c.w s.sync t e.kind e.obj wake).1:=by unfold ef;rw[if_pos u]
    unfold lY at h;split at h
    .split at h
     .rename_i M;cases h;exact⟨e,_,rfl,u,B,rfl,.inr ⟨_,Prod.ext rfl M⟩⟩
     .cases h
    .rename_i S;cases h;have G:e.kind=16\/e.kind=2:=by omega
     refine⟨e,_,rfl,u,B,rfl,.inl ⟨G,?_,nZ.2.1⟩⟩;unfold cG;rw[if_neg YC,if_neg YC,if_neg YC,if_neg YC,if_neg YC,if_neg YC,if_pos YC]
   .cases h
  .cases h
def Hs(w:aK)(s:SyncD)(t k o wake:Int):(bn w s t k o wake).1.threads.length=s.threads.length:=by
 unfold bn
 repeat' refine iteInduction (motive:=λx:SyncD×Int=>x.1.threads.length=s.threads.length) (λ_=>?_) (λ_=>?_)
 all_goals simp[dP,wE,cX,DQ]
def tH{c:aL}{t:Nat}(h:t<c.ts.length):au c t=c.ts[t]:=by simp[au,h]
def Ht{c:aL}{s s':bU}{t wake:Int}{e':bH}(hc:fy c)(H:Be c s)(h:cB c s t wake=some (s',e')):Be c s':=by
 obtain⟨e,u,hp,hen,B,G,hz⟩:=D2 h;have htl:inB t c.ts.length=true:=by
  unfold bS at hp;split at hp
  .rename_i hr;exact(fe hr).1
  .cases hp
 obtain⟨t0,t1⟩:=aw.1 htl;have Cj:∀j:Nat,aB s' j=if(j:Int)=t then u else aB s j:=λj=>by
  unfold aB;rw[G,Xx];by_cases e:(j:Int)=t
  .have:t.toNat=j:=by omega
   have Y:j<s.threads.length:=by rw[H.th];omega
   rw[if_pos e,this];simp[List.getD,Y]
  .have:t.toNat≠j:=by omega
   rw[if_neg e];simp[List.getD,Xc,this]
 have M:=H.pc t.toNat YC;rw[Int.toNat_of_nonneg t0]at M;have key:inB u.pc (au c t).ins.length=true/\(u.regs.length:Int)=(au c t).regs:=by
  rcases hz with⟨_,E,h2⟩|⟨a,E⟩
  .rw[E,h2];exact M
  .obtain⟨q1,_,q3⟩:=xZ E;exact⟨q1,q3⟩
 refine⟨by rw[G,Yd];exact H.th,by rw[B,Hs];exact H.sy,λj Y=>?_,λj Y D=>?_⟩
 .rw[Cj];by_cases e:(j:Int)=t
  .rw[if_pos e,e];exact key
  .rw[if_neg e];exact H.pc j Y
 .rw[Cj];by_cases Z:(j:Int)=t
  .rw[if_pos Z,Z];rw[B,Z]at D;rcases hz with⟨O,_,_⟩|⟨a,E⟩
   .exfalso;have S:t.toNat<s.sync.threads.length:=by rw[H.sy];omega
    rcases O with O|O
    .rw[O]at D;simp[bn,a7,dP,S]at D
    .rw[O]at D;simp[bn,a7,dP,S]at D
   .obtain⟨q1,q2,q3⟩:=xZ E;obtain⟨p0,p1⟩:=aw.1 q1;have hT:=hc.thr t.toNat YC;have hce:au c t=c.ts[t.toNat]'YC:=by have:=tH (c:=c) (t:=t.toNat) YC;rw[Int.toNat_of_nonneg t0]at this;exact this
    rw[hce]at q1 q2 p1 ⊢;have hi:=hT.ins u.pc.toNat YC;have hia:bV (c.ts[t.toNat]'YC) u.pc=(c.ts[t.toNat]'YC).ins[u.pc.toNat]'YC:=by
     unfold bV;have:u.pc.toNat<(c.ts[t.toNat]'YC).ins.length:=by omega
     simp[List.getD,this]
    rw[hia]at q2 ⊢;have E:=hi.lo;have h2:=hi.hi;exact SP YC h2
  .rw[if_neg Z];refine H.run j Y ?_;rw[B]at D;exact SO hen j Z D
def w8{c:aL}(D:fy c):Be c (bC c):=by
 have G:=D.len;refine⟨by simp[bC],?_,λt B=>?_,λt B u=>?_⟩
 .unfold bC bK;simp[G]
 .have E:=D.thr t B;have Cj:aB (bC c) t=⟨0,List.replicate (c.ts[t]).regs.toNat 0,List.replicate (c.ts[t]).regs.toNat [],0⟩:=by simp[aB,bC,B]
  rw[Cj,tH B];have:=E.ne;have:=E.r0;exact⟨aw.2 ⟨YF,YH⟩,YH⟩
 .exfalso;unfold bC bK a7 at u;dsimp only at u;rw[Int.toNat_natCast]at u;have j:t<c.w.threads.length:=by omega
  rcases t with _|t
  .simp[List.getD,j]at u
  .simp[List.getD,Xc,j]at u
structure Fo(c:aL)(s:bU):Prop where
 fit:yE c.w s.sync
 nc:s.cells.length=c.w.cells.length
 nf:s.futures.length=c.w.futures.length
 tl:∀t:Nat,t<c.ts.length->(aB s t).taint.length=(aB s t).regs.length
 wt:∀t:Nat,t<c.ts.length->(a7 s.sync t).status=3\/(a7 s.sync t).status=4->gF (bV (au c t) (aB s t).pc).op=16
def Qg{w:aK}{s:SyncD}(t k o wake:Int)(h:yE w s):yE w (bn w s t k o wake).1:=by
 have u:(bn w s t k o wake).1.locks.length=s.locks.length:=by
  unfold bn
  repeat' refine iteInduction (motive:=λx:SyncD×Int=>x.1.locks.length=s.locks.length) (λ_=>?_) (λ_=>?_)
  all_goals simp[cN]
 have j:(bn w s t k o wake).1.done.length=s.done.length:=by
  unfold bn
  repeat' refine iteInduction (motive:=λx:SyncD×Int=>x.1.done.length=s.done.length) (λ_=>?_) (λ_=>?_)
  all_goals simp
 exact⟨by rw[u];exact h.locks,by rw[j];exact h.done,by rw[Hs];exact h.threads,h.conds⟩
def HA{T:List ThrD}{o wake:Int}{j:Nat}(h:((fj T o wake).getD j default).status=3\/((fj T o wake).getD j default).status=4):(T.getD j default).status=3\/(T.getD j default).status=4:=by
 unfold fj at h;split at h
 .rename_i D;unfold gB at h;by_cases e:(cm T o wake).toNat=j
  .have B:=nN (l:=aM T o T.length) (wake:=wake) D;have u:gS T o (cm T o wake).toNat=true:=by have:=B;simp only[aM,Ye]at this;exact this.2
   rw[e]at u;unfold gS dH at u;simp only[WZ,decide_eq_true_eq]at u;exact .inl u.1
  .simpa[List.getD,Xc,e]using h
 .exact h
def HB{T:List ThrD}{o:Int}{j:Nat}(h:((dq T o T.length).getD j default).status=3\/((dq T o T.length).getD j default).status=4):(T.getD j default).status=3\/(T.getD j default).status=4:=by
 rcases Fn j T.length with g|g
 .simp only[List.getD,fk _ _ _ _ g,XU]at h;split at h
  .rename_i u;simp only[WZ,dH,decide_eq_true_eq]at u;simp only[List.getD,g,mt,XU];exact .inl u.2.1
  .simpa[List.getD,g]using h
 .have:(dq T o T.length)[j]? =none:=ST (by rw[cX];exact g);simp[List.getD,this]at h;simp[List.getD,ST g];exact h
def SR{w:aK}{s:SyncD}{t k o wake:Int}(he:aI w s t k o=true)(j:Nat)(h:(a7 (bn w s t k o wake).1 j).status=3∨(a7 (bn w s t k o wake).1 j).status=4):((j:Int)=t∧k=16)∨((j:Int)≠t∧((a7 s j).status=3∨(a7 s j).status=4)):=by
  have he0:=he;unfold aI at he;simp only[WZ]at he;obtain⟨⟨⟨hfi,hti⟩,hal⟩,hst⟩:=he;have hin:=aw.1 hti;have hfl:=(fE.1 hfi).threads;have hset:∀x:ThrD,(j:Int)≠t→(s.threads.set t.toNat x).getD j default=s.threads.getD j default:=λx hj=>by
    have:t.toNat≠j:=by omega
    simp[List.getD,Xc,this]
  have hself:∀x:ThrD,(j:Int)=t→(s.threads.set t.toNat x).getD j default=x:=λx hj=>by
    have e:t.toNat=j:=by omega
    have:j<s.threads.length:=by omega
    simp[List.getD,e,this]
  rcases kinds k with g|g
  · rw[fZ g]at hal;cases hal
  by_cases hj:(j:Int)=t
  · by_cases k16:k=16
    · exact .inl ⟨hj,k16⟩
    exfalso;have hjt:a7 s t=s.threads.getD j default:=by unfold a7;rw[←hj,Xx]
    rw[hjt]at hst;rcases g with rfl|rfl|rfl|rfl|rfl|rfl|rfl|rfl|rfl|rfl|rfl|rfl|rfl|rfl|rfl|rfl|rfl|rfl|rfl|rfl|rfl|rfl|rfl
    all_goals simp only[bn,Int.reduceEq,if_true,if_false,or_true,true_or,or_false,or_self,↓reduceIte,a7,Xx,dP,WZ,decide_eq_true_eq]at h hst
    all_goals try rw[hself _ hj]at h
    all_goals try dsimp only at h
    all_goals first
      |omega
      |(have h:=HA h;omega)
      |(have h:=HB h;omega)
      |skip
    all_goals try (have e : t.toNat = j := by omega
                   rw[e]at h;omega)
    · have hr:=hst.2
      have hne:o≠t:=by simp[c9]at hr;exact hr.1
      have ho:=aw.1 (show inB o w.threads.length=true by simpa[allowedS]using hal);have e2:o.toNat≠j:=by omega
      have h1:=hst.1;simp[List.getD,Xc,e2]at h h1;omega
  · refine .inr ⟨hj,?_⟩
    rcases g with rfl|rfl|rfl|rfl|rfl|rfl|rfl|rfl|rfl|rfl|rfl|rfl|rfl|rfl|rfl|rfl|rfl|rfl|rfl|rfl|rfl|rfl|rfl
    all_goals simp only[bn,Int.reduceEq,if_true,if_false,or_true,true_or,or_false,or_self,↓reduceIte,a7,Xx,dP]at h ⊢
    all_goals try rw[hset _ hj]at h
    all_goals first
      |exact h
      |exact HA h
      |exact HB h
      |skip
    · by_cases e:o.toNat=j
      · rw[e]at h
        rcases Fn j s.threads.length with g|g
        · simp[List.getD,g]at h
        · simp[List.getD,Xc,g]at h
          simp[List.getD,ST g];exact h
      · simpa[List.getD,Xc,e]using h
def SS(i:az)(e:bH)(s:bU)(th:aG)(sv:Int):((cG i e s th sv).thread.pc=th.pc/\(e.kind=1\/e.kind=16\/e.kind=2))\/((cG i e s th sv).thread.pc=i.b/\e.kind=5)\/((cG i e s th sv).thread.pc=IntKind.i64.wrap (th.pc+1)/\¬(e.kind=1\/e.kind=16\/e.kind=2)):=by
 unfold cG;dsimp only
 repeat' split
 all_goals first
  |exact .inl ⟨rfl,YD⟩
  |exact .inr (.inr ⟨rfl,YC⟩)
  |exact .inr (.inl ⟨rfl,YD⟩)
def SU(i:az)(e:bH)(s:bU)(th:aG)(sv:Int):(cG i e s th sv).thread.regs.length=th.regs.length/\(cG i e s th sv).thread.taint.length=th.taint.length:=by
 unfold cG;dsimp only
 repeat' split
 all_goals simp
def N0{op:Int}(h:gF op≠2):op≠28:=λe=>by subst e;exact h rfl
def Vu{op:Int}(j:1<=op)(h2:op<=28)(h:gF op=5):op=10:=by rcases ops op j h2 with rfl|rfl|rfl|rfl|rfl|rfl|rfl|rfl|rfl|rfl|rfl|rfl|rfl|rfl|rfl|rfl|rfl|rfl|rfl|rfl|rfl|rfl|rfl|rfl|rfl|rfl|rfl|rfl<;>first|rfl|(exfalso;revert h;decide)
def D3{c:aL}{s:bU}{t:Int}{e:bH}(hp:bS c s t=some e):(e.kind=1/\(a7 s.sync t).status=1)\/(e.kind=17/\(a7 s.sync t).status=4)\/e.kind=gF (bV (au c t) (aB s t).pc).op:=by
 unfold bS at hp;split at hp
 .dsimp only at hp;split at hp
  .cases hp;exact .inl ⟨rfl,YD⟩
  .split at hp
   .cases hp;exact .inr (.inl ⟨rfl,YD⟩)
   .split at hp
    .split at hp
     .cases hp;exact .inr (.inr (DZ _ _ _))
     .cases hp
    .cases hp
 .cases hp
def settles{c:aL}{s:bU}{t sv:Int}{e:bH}(hc:fy c)(hl:∀t∈c.ts,t.ins.length<2^40)(H:Be c s)(R:Fo c s)(hp:bS c s t=some e)(hen:aI c.w s.sync t e.kind e.obj=true)(hk:e.kind≠16/\e.kind≠2):(bu (au c t) (cG (bV (au c t) (aB s t).pc) e s (aB s t) sv).thread).2=true:=by
 have htl:inB t c.ts.length=true:=by
  unfold bS at hp;split at hp
  .rename_i hr;exact(fe hr).1
  .cases hp
 obtain⟨t0,t1⟩:=aw.1 htl;obtain⟨j,rfl⟩:=Xg t0;have M:j<c.ts.length:=by omega
 obtain⟨p1,p2⟩:=H.pc j M;have p3:=R.tl j M;have hce:=tH M;have hP:=hc.thr j M;have S:=hl _ (WN M);rw[<-hce]at hP S;obtain⟨q1,q2⟩:=SU (bV (au c j) (aB s j).pc) e s (aB s j) sv;have Y:=SS (bV (au c j) (aB s j).pc) e s (aB s j) sv;obtain⟨a0,a1⟩:=aw.1 p1;obtain⟨k,D⟩:=Xg a0;have B:k<(au c j).ins.length:=by omega
 have hI:=hP.ins k B;have hia:bV (au c j) (aB s j).pc=(au c j).ins[k]:=by unfold bV;rw[D];simp[List.getD,B]
 have u:=D3 hp;have hW:=R.wt j M;rw[hia]at Y u hW q1 q2 ⊢;have fin:∀O:Nat,O<(au c j).ins.length->(cG (au c j).ins[k] e s (aB s j) sv).thread.pc=O->(bu (au c j) (cG (au c j).ins[k] e s (aB s j) sv).thread).2=true:=λO G Z=>by obtain⟨_,_,s2,h,_⟩:=Hu hP S G Z ⟨by rw[q1];exact p2,by rw[q2,p3];exact p2⟩;rw[h]
 have nx:(au c j).ins[k].op≠28->IntKind.i64.wrap ((aB s j).pc+1)=((k+1:Nat):Int)/\k+1<(au c j).ins.length:=λh=>by
  have:k+1≠(au c j).ins.length:=λe=>h (hI.last.2 e)
  rw[D];exact⟨ax (n:=(au c j).ins.length) B YC,YC⟩
 rcases Y with⟨G,Z⟩|⟨G,Z⟩|⟨G,Z⟩
 .exact fin k B (by rw[G,D])
 .rcases u with⟨g,_⟩|⟨g,_⟩|g
  .omega
  .omega
  .have h10:=Vu hI.lo hI.hi (by rw[<-g];exact Z);have E:=hI.jmp;unfold AH at E;rw[if_neg YC,if_pos h10]at E;obtain⟨b0,b1⟩:=aw.1 E;obtain⟨O,hk'⟩:=Xg b0;exact fin O YC (by rw[G,hk'])
 .have h28:(au c j).ins[k].op≠28:=by
   rcases u with⟨g,_⟩|⟨g,g2⟩|g
   .omega
   .exact N0 (by rw[hW (.inr g2)];decide)
   .exact N0 (by rw[<-g];exact hk.2)
  obtain⟨n1,n2⟩:=nx h28;exact fin (k+1) n2 (by rw[G,n1])
def Ru{c:aL}{s:bU}{n:Nat}(H:Be c s)(I:nY c n s):∀t:Nat,t<c.ts.length->(aB s t).taint.length=(aB s t).regs.length:=λt u=>by
 have j:t<s.threads.length:=by rw[H.th];exact u
 have e:aB s t=s.threads[t]:=by simp[aB,j]
 rw[e];exact(I.thr _ (WN j)).1.len
def xj{c:aL}(B:fy c):Fo c (bC c):=by
 refine⟨⟨by simp[bC,bK],by simp[bC,bK],by simp[bC,bK],λx D=>?_⟩,by simp[bC],by simp[bC],Ru (w8 B) (zC B),λt E u=>?_⟩
 .have:=B.world.mtx x D;unfold jB at this;rw[WZ]at this;exact this.1
 .exfalso;unfold bC bK a7 at u;dsimp only at u;rw[Int.toNat_natCast]at u;have j:t<c.w.threads.length:=by have:=B.len;omega
  rcases t with _|t
  .simp[List.getD,j]at u
  .simp[List.getD,Xc,j]at u
def N1{c:aL}{s j:bU}{t wake:Int}{u:bH}(h:cB c s t wake=some (j,u)):j.cells.length=s.cells.length/\j.futures.length=s.futures.length:=by
 rw[lC]at h;cases hp:bS c s t with
 |none=>rw[hp]at h;cases h
 |some e=>
  rw[hp]at h;dsimp only at h;split at h
  .split at h
   .unfold lY at h;split at h
    .split at h
     .cases h;exact⟨nZ.2.2.1,nZ.2.2.2⟩
     .cases h
    .cases h;exact⟨nZ.2.2.1,nZ.2.2.2⟩
   .cases h
  .cases h
def LG{c:aL}{s u:bU}{t wake:Int}{e B:bH}(hp:bS c s t=some e)(h:cB c s t wake=some (u,B))(k:e.kind=16):∃j,u.threads=s.threads.set t.toNat j/\j.pc=(aB s t).pc:=by
 rw[lC,hp]at h;dsimp only at h;split at h
 .split at h
  .unfold lY at h;rw[if_neg YC]at h;cases h;refine⟨_,rfl,?_⟩;unfold cG;rw[if_neg YC,if_neg YC,if_neg YC,if_neg YC,if_neg YC,if_neg YC,if_pos YC]
  .cases h
 .cases h
def N2{c:aL}{s D:bU}{t wake:Int}{e':bH}{n:Nat}(hc:fy c)(H:Be c s)(R:Fo c s)(h:cB c s t wake=some (D,e'))(I:nY c n D):Fo c D:=by
 have H':=Ht hc H h;obtain⟨l1,l2⟩:=N1 h;obtain⟨e,S,hp,hen,G,B,hz⟩:=D2 h;have Y:inB t c.ts.length=true:=by
  unfold bS at hp;split at hp
  .rename_i hr;exact(fe hr).1
  .cases hp
 obtain⟨t0,t1⟩:=aw.1 Y;have u:∀(x:aG) (j:Nat),D.threads=s.threads.set t.toNat x->aB D j=if(j:Int)=t then x else aB s j:=λx j B=>by
  unfold aB;rw[B,Xx];by_cases e:(j:Int)=t
  .have:t.toNat=j:=by omega
   have Z:j<s.threads.length:=by rw[H.th];omega
   rw[if_pos e,this];simp[List.getD,Z]
  .have:t.toNat≠j:=by omega
   rw[if_neg e];simp[List.getD,Xc,this]
 refine⟨by rw[G];exact Qg _ _ _ _ R.fit,by rw[l1];exact R.nc,by rw[l2];exact R.nf,Ru H' I,λj Z hs=>?_⟩;rw[G]at hs;rcases SR hen j hs with⟨M,E⟩|⟨M,h34⟩
 .obtain⟨O,q1,q2⟩:=LG hp h E;rw[u O j q1,if_pos M,M,q2];rcases D3 hp with⟨g,_⟩|⟨g,_⟩|g
  .omega
  .omega
  .rw[<-g];exact E
 .rw[u S j B,if_neg M];exact R.wt j Z h34
def LH(e:bH)(h:Rt e):ao Tryz.prog 79 [.agg e.enc,.agg e.enc] (.bool true):=by
 have Y:=vu e.deps (by have:=h.1;omega);have s2:=vu e.frm (by have:=h.2;omega);refine ac.fz (tJ _ _ _ _ ?_);refine vw ?_;generalize u:(λ(v:AV) (L:SH)=>∃j O,aE [v] L [j] O/\j=AV.bool true/\O=[])=Q;have S:∀L,Q (.bool true) L:=λL=>by subst u;exact⟨_,[],aE.all (.refl _),rfl,rfl⟩
 clear u h;obtain⟨M,G,E,D,B,d,f⟩:=e;unfold bH.enc;dsimp only at *;have d1:decide (M=M)=true:=decide_eq_true rfl;have d2:decide (G=G)=true:=decide_eq_true rfl;have d3:decide (E=E)=true:=decide_eq_true rfl;have d4:decide (D=D)=true:=decide_eq_true rfl;have Z:decide (B=B)=true:=decide_eq_true rfl
 repeat' (first|refine sy ?_|(refine pf 80 ?_;refine pm (s2) ?_)|refine s2 ?_ ?_|intro)
 exact S _
def Jf(l:List bH)(h:∀e∈l,Rt e)(E:l.length<2^62):ao Tryz.prog 39 [.lst (l.map bH.enc),.lst (l.map bH.enc)] (.bool true):=by
 refine rI _ _ _ _ ?_;refine vw ?_;have Z:decide ((l.length:Int)≠l.length)=false:=decide_eq_false YF
 repeat' (first|refine sy ?_|refine s2 (λh=>?_) λh=>?_|intro)
 refine cF l (λ_=>false) (λi=>[.lst (l.map bH.enc),.lst (l.map bH.enc),.YJ i]) E rfl (λi B M Y j D u=>?_) (λi B M j D=>?_)
 all_goals refine vw ?_
 .have O:=aq (f:=bH.enc) B;have S:=LH _ (h _ (WN B));have u:=u rfl;generalize l[i]=e at *;have G:e.enc=[.YJ e.thread,.YJ e.kind,.YJ e.obj,.YJ e.value,.YJ e.site,.lst (e.deps.map ah),.lst (e.frm.map ah)]:=rfl;rw[G]at *
  repeat' (first|refine sy ?_|refine s2 ?_ ?_|intro)
  exact u
 .repeat' (first|refine sy ?_|refine s2 ?_ ?_|intro)
  exact⟨rfl,rfl⟩
def lI:RF:=nv (cg Tryz.prog Tryz.f38 [(87,⟨[2,3,10],[],true,[]⟩),(72,⟨[2,3,9],[],true,[]⟩),(57,⟨[2,3,8],[],true,[]⟩),(42,⟨[2,3,7],[],true,[]⟩),(27,⟨[2,3,6],[],true,[]⟩),(12,⟨[2,3,5],[],true,[]⟩)] [(0,[2,3])])
abbrev vx(a b:AV)(L:SH)(Q:R):Prop:=Pc lI 20 Q 0 [] [a,b] L
def tO(u j:AV)(L:SH)(Q:R)(h:vx u j L Q):ac Tryz.prog 38 [u,j] L Q:=
 fv lI Tryz.func38 h
def Vv{t:TypeId}{l:List AV}{ts:List TypeId}{K:AV->Prop}(u:Fl t=some ts)(j:s5 Tryz.prog ts l l=some true)(h:K (.bool false)):W.bin Tryz.prog Fl .neq t (.agg l) (.agg l) K:=by rw[fX];refine⟨.bool false,?_,h⟩;simp only[iO,u,XB,j];rfl
def ui:Tryz.prog.underlying 3=some (.int .i64):=by kernel_rfl
def ul:Tryz.prog.underlying 2=some (.int .i64):=by kernel_rfl
def ub:Tryz.prog.underlying 4=some .bool:=by kernel_rfl
def us:Tryz.prog.underlying 9=some .string:=by kernel_rfl
def S1(x:ThrD){K:AV->Prop}(h:K (.bool false)):W.bin Tryz.prog Fl .neq 172 (.agg x.enc) (.agg x.enc) K:=
 Vv (ts:=[3,3,4]) (by kernel_rfl) (by simp[ThrD.enc,s5,sZ,ui,ub]) h
def S2(x:aH){K:AV->Prop}(h:K (.bool false)):W.bin Tryz.prog Fl .neq 147 (.agg x.enc) (.agg x.enc) K:=
 Vv (ts:=[9,3,3,4,2]) (by kernel_rfl) (by simp[aH.enc,s5,sZ,ui,ul,ub,us]) h
def S3(x:bv){K:AV->Prop}(h:K (.bool false)):W.bin Tryz.prog Fl .neq 150 (.agg x.enc) (.agg x.enc) K:=
 Vv (ts:=[9,4]) (by kernel_rfl) (by simp[bv.enc,s5,sZ,ub,us]) h
def S4(x:bO){K:AV->Prop}(h:K (.bool false)):W.bin Tryz.prog Fl .neq 153 (.agg x.enc) (.agg x.enc) K:=
 Vv (ts:=[9,3]) (by kernel_rfl) (by simp[bO.enc,s5,sZ,ui,us]) h
def S5(x:bM){K:AV->Prop}(h:K (.bool false)):W.bin Tryz.prog Fl .neq 157 (.agg x.enc) (.agg x.enc) K:=
 Vv (ts:=[3,3,3]) (by kernel_rfl) (by simp[bM.enc,s5,sZ,ui]) h
def HI(l:List Int)(M:l.length<2^62):ao Tryz.prog 41 [.lst (l.map ah),.lst (l.map ah)] (.bool true):=by
 refine tI _ _ _ _ ?_;refine vw ?_;generalize j:(λ(u:AV) (K:SH)=>u=AV.bool true/\K=[])=Q;have E:Q (.bool true) []:=by subst j;exact⟨rfl,rfl⟩
 clear j;have d0:decide ((l.length:Int)≠(l.length:Int))=false:=by simp
 repeat' (first|refine sy ?_|refine s2 ?_ ?_|intro)
 refine cS l.length (λ_=>True) (λi=>[.lst (l.map ah),.lst (l.map ah),.YJ i]) M trivial rfl (λi B O Y _ D G=>?_) (λi B O _ D=>?_)
 all_goals refine vw ?_
 .have S:=aq (f:=ah) B;have Z:decide (l[i]≠l[i])=false:=by simp
  repeat' (first|refine sy ?_|refine s2 ?_ ?_|intro)
  exact G trivial
 .repeat' (first|refine sy ?_|refine s2 ?_ ?_|intro)
  exact E
def Oa(s:SyncD)(O:s.locks.length<2^62)(h2:s.done.length<2^62)(M:s.threads.length<2^62)(h4:∀l∈s.locks,l.readers.length<2^62):ao Tryz.prog 40 [.agg s.enc,.agg s.enc] (.bool true):=by
 refine Pi λQ G=>C2 _ _ _ _ ?_
 refine vw ?_;have d0:decide (s.tx≠s.tx)=false:=by simp
 have d1:decide ((s.locks.length:Int)≠s.locks.length)=false:=by simp
 have d2:decide ((s.done.length:Int)≠s.done.length)=false:=by simp
 have Z:decide ((s.threads.length:Int)≠s.threads.length)=false:=by simp
 repeat' (first|refine sy ?_|refine s2 ?_ ?_|intro)
 refine cS s.locks.length (λ_=>True) (λi=>[.pptr [s.enc] 0 0,.pptr [s.enc] 0 0,.YJ i]) O trivial rfl (λi g B E _ j u=>?_) (λi g B _ j=>?_)
 all_goals refine vw ?_
 .have D:=aq (f:=LockD.enc) g;have Y:=vu s.locks[i].readers (h4 _ (WN g));have S:decide (s.locks[i].owner≠s.locks[i].owner)=false:=by simp
  rw[show s.locks[i].enc=[.YJ s.locks[i].owner,.lst (s.locks[i].readers.map ah)]from rfl]at D
  repeat' (first|refine sy ?_|refine s2 ?_ ?_|intro)
  exact u trivial
 .repeat' (first|refine sy ?_|refine s2 ?_ ?_|intro)
  refine cS s.done.length (λ_=>True) (λi=>[.pptr [s.enc] 0 0,.pptr [s.enc] 0 0,.YJ i]) h2 trivial rfl (λi g B E _ j u=>?_) (λi g B _ j=>?_)
  all_goals refine vw ?_
  .have D:=aq (f:=aD) g;have S:decide (s.done[i]≠s.done[i])=false:=by simp
   repeat' (first|refine sy ?_|refine s2 ?_ ?_|intro)
   exact u trivial
  .repeat' (first|refine sy ?_|refine s2 ?_ ?_|intro)
   refine cS s.threads.length (λ_=>True) (λi=>[.pptr [s.enc] 0 0,.pptr [s.enc] 0 0,.YJ i]) M trivial rfl (λi g B E _ j u=>?_) (λi g B _ j=>?_)
   all_goals refine vw ?_
   .have D:=aq (f:=ThrD.enc) g
    repeat' (first|refine ep (S1 _ ?_)|refine sy ?_|refine s2 ?_ ?_|intro)
    exact u trivial
   .repeat' (first|refine sy ?_|refine s2 ?_ ?_|intro)
    exact G _
def Ob(c:aL)(n:Nat)(u:n<=400)(s:bU)(H:nY c n s):ao Tryz.prog 18 [.agg s.enc,.agg s.enc] (.bool true):=by
 have E:=Oa s.sync (by have:=H.lk;omega) (by have:=H.dn;omega) (by have:=H.th;omega) (λl S=>by have:=H.rd l S;omega);have k2:=HI s.cells (by have:=H.nc;omega);have k3:=HI s.futures (by have:=H.nf;omega);have B:∀i (h:i<s.threads.length),ao Tryz.prog 42 [.agg s.threads[i].enc,.agg s.threads[i].enc] (.bool true):=λi h=>by obtain⟨a,_,_,b⟩:=H.thr _ (WN h);exact N9 _ a.small (by have:=a.len;omega) a.short
 have d3:decide ((s.threads.length:Int)≠s.threads.length)=false:=by simp
 have Z:=H.nt;clear H;refine Pi λQ O=>CP _ _ _ _ ?_
 refine vw ?_;have j:s.enc=[.lst (s.sync.locks.map LockD.enc),.YJ s.sync.tx,.lst (s.sync.done.map aD),.lst (s.sync.threads.map ThrD.enc),.lst (s.cells.map ah),.lst (s.futures.map ah),.lst (s.threads.map aG.enc)]:=rfl;rw[show s.sync.enc=[.lst (s.sync.locks.map LockD.enc),.YJ s.sync.tx,.lst (s.sync.done.map aD),.lst (s.sync.threads.map ThrD.enc)]from rfl]at E;rw[j]
 repeat' (first|refine sy ?_|refine s2 ?_ ?_|intro)
 rw[<-j];refine cS s.threads.length (λ_=>True) (λi=>[.pptr [s.enc] 0 0,.pptr [s.enc] 0 0,.YJ i]) YC trivial rfl (λi g Y hi _ D u=>?_) (λi g Y _ D=>?_)
 all_goals refine vw ?_
 .have G:=aq (f:=aG.enc) g;have M:=B i g;clear B;rw[show s.threads[i].enc=[.YJ s.threads[i].pc,.lst (s.threads[i].regs.map ah),.lst (s.threads[i].taint.map bP),.YJ s.threads[i].ev]from rfl]at G M;generalize s.threads[i]=e at *
  repeat' (first|refine sy ?_|refine s2 ?_ ?_|intro)
  exact u trivial
 .repeat' (first|refine sy ?_|refine s2 ?_ ?_|intro)
  exact O _
def Oc(w:aK)(Z:w.cells.length<2^62)(h2:w.locks.length<2^62)(Y:w.conds.length<2^62)(h4:w.futures.length<2^62)(S:w.threads.length<2^62)(O:w.sites.length<2^62):ao Tryz.prog 38 [.agg w.enc,.agg w.enc] (.bool true):=by
 refine Pi λQ M=>tO _ _ _ _ ?_
 refine vw ?_;have D:∀n:Nat,decide ((n:Int)≠(n:Int))=false:=λn=>by simp
 have d1:=D w.cells.length;have d2:=D w.locks.length;have d3:=D w.conds.length;have d4:=D w.futures.length;have d5:=D w.threads.length;have d6:=D w.sites.length
 repeat' (first|refine sy ?_|refine s2 ?_ ?_|intro)
 refine cS w.cells.length (λ_=>True) (λi=>[.pptr [w.enc] 0 0,.pptr [w.enc] 0 0,.YJ i]) Z trivial rfl (λi g B G _ j u=>?_) (λi g B _ j=>?_)
 all_goals refine vw ?_
 .have E:=aq (f:=aH.enc) g
  repeat' (first|refine ep (S2 _ ?_)|refine sy ?_|refine s2 ?_ ?_|intro)
  exact u trivial
 .repeat' (first|refine sy ?_|refine s2 ?_ ?_|intro)
  refine cS w.locks.length (λ_=>True) (λi=>[.pptr [w.enc] 0 0,.pptr [w.enc] 0 0,.YJ i]) h2 trivial rfl (λi g B G _ j u=>?_) (λi g B _ j=>?_)
  all_goals refine vw ?_
  .have E:=aq (f:=bv.enc) g
   repeat' (first|refine ep (S3 _ ?_)|refine sy ?_|refine s2 ?_ ?_|intro)
   exact u trivial
  .repeat' (first|refine sy ?_|refine s2 ?_ ?_|intro)
   refine cS w.conds.length (λ_=>True) (λi=>[.pptr [w.enc] 0 0,.pptr [w.enc] 0 0,.YJ i]) Y trivial rfl (λi g B G _ j u=>?_) (λi g B _ j=>?_)
   all_goals refine vw ?_
   .have E:=aq (f:=bO.enc) g
    repeat' (first|refine ep (S4 _ ?_)|refine sy ?_|refine s2 ?_ ?_|intro)
    exact u trivial
   .repeat' (first|refine sy ?_|refine s2 ?_ ?_|intro)
    refine cS w.futures.length (λ_=>True) (λi=>[.pptr [w.enc] 0 0,.pptr [w.enc] 0 0,.YJ i]) h4 trivial rfl (λi g B G _ j u=>?_) (λi g B _ j=>?_)
    all_goals refine vw ?_
    .have E:=aq (f:=av) g;have dx:decide (w.futures[i]≠w.futures[i])=false:=by simp
     repeat' (first|refine sy ?_|refine s2 ?_ ?_|intro)
     exact u trivial
    .repeat' (first|refine sy ?_|refine s2 ?_ ?_|intro)
     refine cS w.threads.length (λ_=>True) (λi=>[.pptr [w.enc] 0 0,.pptr [w.enc] 0 0,.YJ i]) S trivial rfl (λi g B G _ j u=>?_) (λi g B _ j=>?_)
     all_goals refine vw ?_
     .have E:=aq (f:=av) g;have dx:decide (w.threads[i]≠w.threads[i])=false:=by simp
      repeat' (first|refine sy ?_|refine s2 ?_ ?_|intro)
      exact u trivial
     .repeat' (first|refine sy ?_|refine s2 ?_ ?_|intro)
      refine cS w.sites.length (λ_=>True) (λi=>[.pptr [w.enc] 0 0,.pptr [w.enc] 0 0,.YJ i]) O trivial rfl (λi g B G _ j u=>?_) (λi g B _ j=>?_)
      all_goals refine vw ?_
      .have E:=aq (f:=bM.enc) g
       repeat' (first|refine ep (S5 _ ?_)|refine sy ?_|refine s2 ?_ ?_|intro)
       exact u trivial
      .repeat' (first|refine sy ?_|refine s2 ?_ ?_|intro)
       exact M _
def LK(t:fI)(j:ao Tryz.prog 38 [.agg t.w.enc,.agg t.w.enc] (.bool true))(h:∀e∈t.ev,Rt e)(B:t.ev.length<2^62):ao Tryz.prog 17 [.agg t.enc,.agg t.enc] (.bool true):=by
 have D:=Jf t.ev h B;refine Pi λQ u=>tL _ _ _ _ ?_
 refine vw ?_;obtain⟨w,ev⟩:=t;unfold fI.enc;unfold aK.enc at j;dsimp only at *
 repeat' (first|refine sy ?_|refine s2 ?_ ?_|intro)
 exact u _
section
section
variable (c:aL) (s:bU) (t:Int) (b:Bool) (hv:ao Tryz.prog 28 [.agg c.enc] (.bool b))
include hv
end
def LS(c:aL)(s:bU)(t:Int):Option bH->Bool
 |some e=>aI c.w s.sync t e.kind e.obj
 |none=>false
end
def Qk{c:aL}{s:bU}{t:Int}(D:fy c)(B:∀t∈c.ts,t.ins.length<2^40)(H:Be c s)(R:Fo c s)(wake:Int)(h:LS c s t (bS c s t)=true):∃p,cB c s t wake=some p:=by
 cases hp:bS c s t with
 |none=>rw[hp]at h;cases h
 |some e=>
  rw[hp]at h;have u:aI c.w s.sync t e.kind e.obj=true:=h;rw[lC,hp];dsimp only;rw[if_pos ⟨R.nc,R.nf⟩,show(ef c.w s.sync t e.kind e.obj wake).2.2=true by unfold ef;rw[u];rfl];unfold lY;by_cases j:e.kind≠16/\e.kind≠2
  .rw[if_pos j,settles D B H R hp u j];exact⟨_,rfl⟩
  .rw[if_neg j];exact⟨_,rfl⟩
def Ql{c:aL}{s:bU}{t:Int}(wake:Int)(h:LS c s t (bS c s t)=false):cB c s t wake=none:=by
 unfold cB;generalize bS c s t=r at *;cases r with
 |none=>rfl
 |some e=>
  dsimp only[LS]at h;dsimp only;split
  .rw[show(ef c.w s.sync t e.kind e.obj wake).2.2=false by unfold ef;rw[h];rfl];rfl
  .rfl
def LU{c:aL}{s s2:bU}{e:bH}{n:Nat}{t wake:Int}(H:nY c n s)(h:cB c s t wake=some (s2,e)):Rt e:=by
 rw[lC]at h;cases hp:bS c s t with
 |none=>rw[hp]at h;cases h
 |some j=>
  have g:=I7 H hp;rw[hp]at h;unfold lY at h;dsimp only at h
  repeat' split at h
  all_goals first
   |(cases h;exact g)
   |cases h
section
structure gt(c:aL)(p:List bH×bU):Prop where
 inv:nY c p.1.length p.2
 le:p.1.length<=400
 stk:Be c p.2
 ref:Fo c p.2
 short:∀e∈p.1,Rt e
section
variable {c:aL} (hc:fy c) (hl:∀t∈c.ts,t.ins.length<2^40)
include hc hl
theorem gt.step{ev:List bH}{s n:bU}{t wake:Int}{e:bH}(H:gt c (ev,s))(u:ev.length<400)(h:cB c s t wake=some (n,e)):gt c (ev++[e],n):=by
 have I:=Hk YC H.inv (jr hc hl).ins h;refine⟨by simpa using I,YH,Ht hc H.stk h,N2 hc H.stk H.ref h I,λx j=>?_⟩;rcases WM.1 j with g|g
 .exact H.short x g
 .rw[WP.1 g];exact LU H.inv h
theorem gt.go{p:List bH×bU}(H:gt c p)(ch:bW):gt c (zB c p ch):=by
 obtain⟨ev,s⟩:=p;unfold zB;dsimp only;split
 .exact H
 .next g=>
  cases h:cB c s ch.thread ch.wake with
  |none=>exact H
  |some r=>exact gt.step hc hl H YC h
theorem gt.fol:∀(l:List bW) {p:List bH×bU},gt c p->gt c (cf c l p)
 |[],p,H=>H
 |ch::l,p,H=>gt.fol l (gt.go hc hl H ch)
omit hl in
theorem kH:gt c ([],bC c):=⟨zC hc,Xq _,w8 hc,xj hc,nofun⟩
theorem gt.cmp:∀(k:Nat) {p:List bH×bU},gt c p->gt c (eg c k p)
 |0,p,H=>H
 | k+1,p,H=>by
  obtain⟨ev,s⟩:=p;unfold eg;dsimp only;split
  .exact H
  .next g=>
   cases h:fJ c s with
   |none=>exact H
   |some r=>obtain⟨u,_,_,j⟩:=Bc _ _ h;exact gt.cmp k (gt.step hc hl H YC j)
theorem l7(l:List bW):gt c (aR c l):=gt.cmp hc hl 400 (gt.fol hc hl l (kH hc))
end
theorem Jn{c:aL}{s:bU}{r:bU×bH}{u:Nat}:∀(k t:Nat),t<=u->u<t+k->(∀j:Nat,t<=j->j<u->cB c s (j:Int) (-1)=none)->cB c s (u:Int) (-1)=some r->CM c s t k=some r
 |0,t,h1,h2,_,_=>absurd h2 YC
 | k+1,t,h1,h2,hn,hs=>by
  unfold CM;rcases Fn t u with g|g
  .rw[hn t (Fd _) g];exact Jn k (t+1) YC YC (λj a b=>hn j YC b) hs
  .obtain rfl:u=t:=by omega
   rw[hs]
theorem Jo{c:aL}{s:bU}:∀(k t:Nat),(∀j:Nat,t<=j->j<t+k->cB c s (j:Int) (-1)=none)->CM c s t k=none
 |0,t,_=>rfl
 | k+1,t,h=>by unfold CM;rw[h t (Fd _) YC];exact Jo k (t+1) λj a b=>h j YC YC
def sS(c:aL)(p:List bH×bU):Prop:=400<=p.1.length\/fJ c p.2=none
theorem mV{c:aL}{p:List bH×bU}(h:sS c p):∀k,eg c k p=p
 |0=>rfl
 | k+1=>by
  unfold eg;split
  .rfl
  .next g=>
   rcases h with h|h
   .exact absurd h g
   .rw[h]
theorem vC{c:aL}{ev:List bH}{s n:bU}{e:bH}(h:ev.length<400)(j:fJ c s=some (n,e))(k:Nat):eg c (k+1) (ev,s)=eg c k (ev++[e],n):=by
 show(if 400<=ev.length then(ev,s)else match fJ c s with
  |none=>(ev,s)
  |some (n,e)=>eg c k (ev++[e],n))=_
 rw[if_neg YC,j]
theorem HR(c:aL)(ev:List bH)(s:bU):sS c (ev,s)\/ev.length<400/\∃n e,fJ c s=some (n,e):=by
 rcases Fn ev.length 400 with g|g
 .cases h:fJ c s with
  |none=>exact .inl (.inr h)
  |some r=>exact .inr ⟨g,r.1,r.2,rfl⟩
 .exact .inl (.inl g)
theorem Fx{c:aL}:∀(k m:Nat) (p:List bH×bU),eg c (k+m) p=eg c m (eg c k p)
 |0,m,p=>by rw[Xn];rfl
 | k+1,m,(ev,s)=>by
  rcases HR c ev s with g|⟨g,n,e,j⟩
  .rw[mV g,mV g,mV g]
  .rw[show k+1+m=k+m+1 by omega,vC g j,vC g j,Fx k m]
theorem zE{c:aL}:∀(k:Nat) (p:List bH×bU),400<=k+p.1.length->sS c (eg c k p)
 |0,p,h=>.inl (by rw[Xn]at h;exact h)
 | k+1,(ev,s),h=>by
  rcases HR c ev s with g|⟨g,n,e,j⟩
  .rw[mV g];exact g
  .rw[vC g j];exact zE k _ (by simp only[LT,Yp]at h ⊢;omega)
theorem qu(c:aL)(l:List bW):sS c (aR c l):=zE 400 _ YC
theorem HS{c:aL}{k:Nat}{p:List bH×bU}{ev:List bH}{s n:bU}{e:bH}(hp:eg c k p=(ev,s))(h:ev.length<400)(j:fJ c s=some (n,e)):eg c (k+1) p=(ev++[e],n):=by rw[Fx k 1,hp,vC h j];rfl
theorem HT{c:aL}{k:Nat}{p q:List bH×bU}(j:k<=400)(hp:eg c k p=q)(h:sS c q):eg c 400 p=q:=by rw[show 400=k+(400-k) by omega,Fx,hp,mV h]
section
variable {c:aL} (hc:fy c) (hl:∀t∈c.ts,t.ins.length<2^40)
include hc hl
theorem Ol{p:List bH×bU}(H:gt c p)(t wake:Int):LS c p.2 t (bS c p.2 t)=(cB c p.2 t wake).isSome:=by
 cases h:LS c p.2 t (bS c p.2 t)with
 |true=>obtain⟨q,j⟩:=Qk hc hl H.stk H.ref wake h;rw[j];rfl
 |false=>rw[Ql wake h];rfl
theorem Om{p:List bH×bU}(H:gt c p)(h:sS c p)(j:p.1.length<400)(i:Nat)(u:i<c.ts.length):LS c p.2 (i:Int) (bS c p.2 (i:Int))=false:=by
 rw[Ol hc hl H (i:Int) (-1)];rcases h with h|h
 .exact absurd h YC
 .rw[Hr _ _ h i YC YC];rfl
theorem gU(l:List bW):0<(aR c l).1.length:=by
 rcases XH (aR c l).1.length with g|g
 .exfalso;have D:=hc.world;have S:=(w7 (c:=c) D.t4 400 (w6 D.t4 l (xY c))).2;have O:=qu c l;have Z:(aR c l).1=[]:=Xy g;have e:aR c l=([],bC c):=by rw[show eg c 400 (cf c l ([],bC c))=aR c l from rfl,Z]at S;exact S.symm
  rw[e]at O;have j:0<c.ts.length:=by rw[hc.len];have:=D.t1;omega
  have E:=Om hc hl (kH hc) O YF 0 j;have u:a7 (bC c).sync ((0:Nat):Int)=⟨1,0,false⟩:=by
   have:0<c.w.threads.length:=by have:=D.t1;omega
   simp[a7,bC,bK,List.getD,this]
  have B:=w8 hc;have G:gX c (bC c) ((0:Nat):Int)=true:=by have Y:=B.pc 0 j;have h1:=(xj hc).tl 0 j;unfold gX;simp only[aw,WZ,decide_eq_true_eq];have h2:=B.th;have h3:=B.sy;have h4:=aw.1 Y.1;have h5:=Y.2;simp_all
  have M:LS c (bC c) ((0:Nat):Int) (bS c (bC c) ((0:Nat):Int))=true:=by unfold bS;rw[G];dsimp only;rw[u];simp only[if_true];show aI c.w (bC c).sync ((0:Nat):Int) 1 (-1)=true;unfold aI;rw[u,fE.2 (xj hc).fit,aw.2 ⟨YC,by have:=D.t1;omega⟩];simp[allowedS]
  rw[M]at E;cases E
 .exact g
end
end
def LV(c:aL)(hc:A9 c)(l:List bW)(hl:l.length<2^62)(D:bU)(h0:nY c 0 D)(b2 O:Nat)(Q:R)(hq:∀(o:Option Nat) (L:SH),(o=none->(cf c l ([],D)).1=[])->dD L (ab o 7 ((cf c l ([],D)).1.map bH.enc))->Q (.tup [ai o (cf c l ([],D)).1.length,.agg (cf c l ([],D)).2.enc]) L):
  W.loop (sB (fF Q)) [.pptr [c.enc] 0 0,.ptr b2 0 0,.ptr O 0 0,.nils,.lst (l.map bW.enc),.YJ l.length,.YJ (0:Nat)] [(O,⟨7,[D.enc]⟩),(b2,⟨7,[ay]⟩)]:=by
 refine bF l.length (λk (o:Option Nat)=>([.pptr [c.enc] 0 0,.ptr b2 0 0,.ptr O 0 0,ai o (cf c (l.take k) ([],D)).1.length,.lst (l.map bW.enc),.YJ l.length,.YJ k],(O,⟨7,[(cf c (l.take k) ([],D)).2.enc]⟩)::(b2,⟨7,[ay]⟩)::ab o 7 ((cf c (l.take k) ([],D)).1.map bH.enc))) (λk o=>o=none->(cf c (l.take k) ([],D)).1=[]) none (λ_=>rfl) (aE.drop (K:=[]) (.refl _) rfl (fi.at_ (.cons (.refl _) (.cons (.refl _) (.cons (.refl _) (.cons .nile (.cons (.refl _) (.cons (.refl _) (.cons (.refl _) .nil)))))))).2) ?_;intro k o hk ho;dsimp only;have hiv:=Ku hc (l.take k) (p:=([],D)) h0 (Nat.zero_le _);have B:=wY c l k ([],D);have u:=λ(h:k<l.length)=>wZ c l k h ([],D);generalize hp:cf c (l.take k) ([],D)=p at *;obtain⟨ev,E⟩:=p;dsimp only at *;have fin:cf c l ([],D)=(ev,E)->∀L,dD L (ab o 7 (ev.map bH.enc))->Q (.tup [ai o ev.length,.agg E.enc]) L:=λhe L hm=>by rw[he]at hq;exact hq o L ho hm
 refine vw ?_;obtain⟨J,hJ⟩:∃J,J=fF Q:=⟨_,rfl⟩;have Z:cf c l ([],D)=(ev,E)->J [.ptr b2 0 0,.ptr O 0 0,ai o ev.length] ((O,⟨7,[E.enc]⟩)::(b2,⟨7,[ay]⟩)::ab o 7 (ev.map bH.enc)):=λhe=>by
  have fin:=fin he;rw[hJ];unfold fF ay bU.enc at *;cases o
  all_goals
   dsimp only[ai,ab]at *
   repeat' (first|refine sy ?_|refine s2 ?_ ?_|intro)
   exact fin _ rp
 rw[<-hJ];clear fin hJ;rcases Fn k l.length with g1|g1
 .have hd:=a8 g1;have hx:=aq (f:=bW.enc) g1;have u:=u g1;generalize hch:l[k]=ch at *;obtain⟨ct,cw⟩:=ch;unfold bW.enc at hx;dsimp only at hx;by_cases G:400<=ev.length
  .have Z:=Z (by rw[B];exact qP c _ _ G);have d4:decide ((ev.length:Int)>=400)=true:=decide_eq_true YC;clear hq B u hp;cases o with
   |none=>rw[ho rfl]at G;simp at G
   |some bo=>
    dsimp only[ai,ab]at *
    repeat' (first|exact Z|refine sy ?_|refine s2 ?_ ?_|intro)
  .have d4:decide ((ev.length:Int)>=400)=false:=decide_eq_false YC;have S:=E8 U9 c E ct cw (u7 hiv.2 hiv.1 hc.ins hc.len hc.con);have M:zB c (ev,E) ⟨ct,cw⟩=match cB c E ct cw with
    |none=>(ev,E)
    |some (n,e)=>(ev++[e],n):=by unfold zB;rw[if_neg G];rfl
   clear hq B Z;cases hs:cB c E ct cw with
   |none=>
    rw[hs]at S M;dsimp only at M;unfold jp at S;have hz:bU.zero.enc=[.lst [],.YJ 0,.lst [],.lst [],.lst [],.lst [],.lst []]:=rfl;rw[hz,show bH.zero.enc=[.YJ 0,.YJ 0,.YJ 0,.YJ 0,.YJ 0,.lst [],.lst []]from rfl]at S;have fin2:∀L,L=(O,(⟨7,[E.enc]⟩:Blk))::(b2,⟨7,[ay]⟩)::ab o 7 (ev.map bH.enc)->∃(j:Nat) (Y:Option Nat),k<j/\j<=l.length/\(Y=none->(cf c (l.take j) ([],D)).1=[])/\aE [.pptr [c.enc] 0 0,.ptr b2 0 0,.ptr O 0 0,ai o ev.length,.lst (l.map bW.enc),.YJ l.length,.YJ (IntKind.i64.wrap ((k:Int)+1))] L
      [.pptr [c.enc] 0 0,.ptr b2 0 0,.ptr O 0 0,ai Y (cf c (l.take j) ([],D)).1.length,.lst (l.map bW.enc),.YJ l.length,.YJ j] ((O,⟨7,[(cf c (l.take j) ([],D)).2.enc]⟩)::(b2,⟨7,[ay]⟩)::ab Y 7 ((cf c (l.take j) ([],D)).1.map bH.enc)):=by
     rintro L rfl;refine⟨k+1,o,YC,YC,?_,?_⟩
     .rw[u,M];exact ho
     .rw[u,M,ax g1 hl];exact .refl _ _
    cases o
    all_goals
     dsimp only[ai,ab]at *
     repeat' (first|refine sy ?_|refine s2 ?_ ?_|intro)
     exact fin2 _ rfl
   |some r=>
    obtain⟨n,e⟩:=r;rw[hs]at S M;dsimp only at M;unfold jp at S;have hn:n.enc=[.lst (n.sync.locks.map LockD.enc),.YJ n.sync.tx,.lst (n.sync.done.map aD),.lst (n.sync.threads.map ThrD.enc),.lst (n.cells.map ah),.lst (n.futures.map ah),.lst (n.threads.map aG.enc)]:=rfl;have he:e.enc=[.YJ e.thread,.YJ e.kind,.YJ e.obj,.YJ e.value,.YJ e.site,.lst (e.deps.map ah),.lst (e.frm.map ah)]:=rfl;dsimp only at S;have fin3:∀(nb:Nat) (L:SH),dD L ((O,(⟨7,[n.enc]⟩:Blk))::(b2,⟨7,[ay]⟩)::ab (some nb) 7 (ev.map bH.enc++[e.enc]))->∃(j:Nat) (Y:Option Nat),k<j/\j<=l.length/\(Y=none->(cf c (l.take j) ([],D)).1=[])/\aE [.pptr [c.enc] 0 0,.ptr b2 0 0,.ptr O 0 0,.sl nb 0 (ev.length+1),.lst (l.map bW.enc),.YJ l.length,.YJ (IntKind.i64.wrap ((k:Int)+1))] L
      [.pptr [c.enc] 0 0,.ptr b2 0 0,.ptr O 0 0,ai Y (cf c (l.take j) ([],D)).1.length,.lst (l.map bW.enc),.YJ l.length,.YJ j] ((O,⟨7,[(cf c (l.take j) ([],D)).2.enc]⟩)::(b2,⟨7,[ay]⟩)::ab Y 7 ((cf c (l.take j) ([],D)).1.map bH.enc)):=by
     intro nb L hL;refine⟨k+1,some nb,YC,YC,nofun,?_⟩;rw[u,M,ax g1 hl];exact aE.pickE hL (by simp[ai]) YF
    rw[hn,he]at *;have hev400:ev.length<2^30:=by omega
    repeat' (first|refine sy ?_|refine bG rp rp YF (λe=>by first|simp[ho e]) YE YF YH YH YE (λnb_ hnb_=>?_)|refine uW ?_ (λe=>by rw[ho e];rfl)|refine s2 ?_ ?_|intro)
    exact fin3 _ _ rp
 .have hd:=bq g1;have hk0:k=l.length:=by omega
  subst hk0;have Z:=Z (by rw[B,Yn (Fd _)];rfl);clear hq B u hp
  repeat' (first|exact Z|refine sy ?_|refine s2 ?_ ?_|intro)
def HU(p:List bH×bU)(v:AV)(L:SH):Prop:=∃o:Option Nat,(o=none->p.1=[])/\v=.tup [ai o p.1.length,.agg p.2.enc]/\L=ab o 7 (p.1.map bH.enc)
def Jq(c:aL)(Z:A9 c)(l:List bW)(Y:l.length<2^62)(O:ao Tryz.prog 57 [.agg c.enc] (.agg (bC c).enc))(h0:nY c 0 (bC c)):ac Tryz.prog 29 [.agg c.enc,.lst (l.map bW.enc)] [] (HU (fN c l)):=by
 refine ac.fz (sC _ _ _ _ ?_);refine vw ?_;generalize G:(λ(v:AV) (L:SH)=>∃B M,aE [v] L [B] M/\HU (fN c l) B M)=Q;have E:∀(o:Option Nat) (L:SH),(o=none->(cf c l ([],bC c)).1=[])->dD L (ab o 7 ((cf c l ([],bC c)).1.map bH.enc))->Q (.tup [ai o (cf c l ([],bC c)).1.length,.agg (cf c l ([],bC c)).2.enc]) L:=λo L S hL=>by subst G;exact⟨_,_,aE.pickE hL rfl rfl,o,S,rfl,rfl⟩
 clear G;have D:=λb2 b9=>LV c Z l Y (bC c) h0 b2 b9 Q E
 have u:c.enc=[.lst (c.w.cells.map aH.enc),.lst (c.w.locks.map bv.enc),.lst (c.w.conds.map bO.enc),.lst (c.w.futures.map av),.lst (c.w.threads.map av),.lst (c.w.sites.map bM.enc),.lst (c.ts.map eG.enc)]:=rfl;generalize bC c=s0 at *;have j:s0.enc=[.lst (s0.sync.locks.map LockD.enc),.YJ s0.sync.tx,.lst (s0.sync.done.map aD),.lst (s0.sync.threads.map ThrD.enc),.lst (s0.cells.map ah),.lst (s0.futures.map ah),.lst (s0.threads.map aG.enc)]:=rfl;unfold ay at D;clear E;rw[u,j]at *
 repeat' (first|exact D _ _|refine sy ?_|refine s2 ?_ ?_|intro)
def Jr(c:aL)(s:bU)(hn:c.ts.length<=1000)(Y:∀t:Nat,ao Tryz.prog 58 [.agg c.enc,.agg s.enc,.agg [.YJ t,.YJ (-1)]] (jp (cB c s t (-1))))(u B:Nat)(Q:R)(G:∀v L,Fz L v (jp (fJ c s))->Q v L):
  W.loop (E3 Q) [.pptr [c.enc] 0 0,.pptr [s.enc] 0 0,.ptr u 0 0,.ptr B 0 0,.YJ c.ts.length,.YJ (0:Nat)] [(B,⟨7,[cy]⟩),(u,⟨7,[ay]⟩)]:=by
 refine bF c.ts.length (λk (_:Unit)=>([.pptr [c.enc] 0 0,.pptr [s.enc] 0 0,.ptr u 0 0,.ptr B 0 0,.YJ c.ts.length,.YJ k],[(B,⟨7,[cy]⟩),(u,⟨7,[ay]⟩)])) (λk _=>∀j:Nat,j<k->cB c s j (-1)=none) () (λj hj=>absurd hj YC) (.refl _ _) ?_;intro k _ hk S;dsimp only;refine vw ?_;have O:c.enc=[.lst (c.w.cells.map aH.enc),.lst (c.w.locks.map bv.enc),.lst (c.w.conds.map bO.enc),.lst (c.w.futures.map av),.lst (c.w.threads.map av),.lst (c.w.sites.map bM.enc),.lst (c.ts.map eG.enc)]:=rfl;have E:∀s:bU,s.enc=[.lst (s.sync.locks.map LockD.enc),.YJ s.sync.tx,.lst (s.sync.done.map aD),.lst (s.sync.threads.map ThrD.enc),.lst (s.cells.map ah),.lst (s.futures.map ah),.lst (s.threads.map aG.enc)]:=λ_=>rfl
 rcases Fn k c.ts.length with g1|g1
 .have hd:=a8 g1;have D:=Y k;cases Z:cB c s k (-1)with
  |none=>
   rw[Z]at D;have M:jp none=.tup [.agg [.lst [],.YJ 0,.lst [],.lst [],.lst [],.lst [],.lst []],.agg [.YJ 0,.YJ 0,.YJ 0,.YJ 0,.YJ 0,.lst [],.lst []],.bool false]:=rfl;have fin:∀L,dD L [(B,(⟨7,[cy]⟩:Blk)),(u,⟨7,[ay]⟩)]->∃(j:Nat) (o':Unit),k<j/\j<=c.ts.length/\(∀i:Nat,i<j->cB c s i (-1)=none)/\aE [.pptr [c.enc] 0 0,.pptr [s.enc] 0 0,.ptr u 0 0,.ptr B 0 0,.YJ c.ts.length,.YJ (IntKind.i64.wrap ((k:Int)+1))] L [.pptr [c.enc] 0 0,.pptr [s.enc] 0 0,.ptr u 0 0,.ptr B 0 0,.YJ c.ts.length,.YJ j] [(B,⟨7,[cy]⟩),(u,⟨7,[ay]⟩)]:=λL hL=>⟨k+1,(),YC,YC,λi hi=>by
    rcases Fn i k with g|g
    .exact S i g
    .obtain rfl:i=k:=by omega
     exact Z,by rw[ax g1 YC];exact aE.pickE hL rfl rfl⟩
   unfold ay cy at *;clear G Y;rw[M]at D;rw[O,E s]at *
   repeat' (first|refine sy ?_|refine s2 ?_ ?_|intro)
   exact fin _ rp
  |some r=>
   obtain⟨n,e⟩:=r;rw[Z]at D;have hl:fJ c s=some (n,e):=Jn _ 0 (Xq _) YC (λj _ hj=>S j hj) Z;rw[hl]at G;have M:jp (some (n,e))=.tup [.agg [.lst (n.sync.locks.map LockD.enc),.YJ n.sync.tx,.lst (n.sync.done.map aD),.lst (n.sync.threads.map ThrD.enc),.lst (n.cells.map ah),.lst (n.futures.map ah),.lst (n.threads.map aG.enc)],.agg [.YJ e.thread,.YJ e.kind,.YJ e.obj,.YJ e.value,.YJ e.site,.lst (e.deps.map ah),.lst (e.frm.map ah)],.bool true]:=rfl;have hz:∀L,Q (jp (some (n,e))) L:=λL=>G _ L (.refl _)
   unfold ay cy at *;clear G Y S;rw[M]at *;rw[O,E s]at *
   repeat' (first|refine sy ?_|refine s2 ?_ ?_|intro)
   exact hz _
 .have hd:=bq g1;have hl:fJ c s=none:=Jo _ 0 λj _ hj=>S j YC
  rw[hl]at G;have hz:∀L,Q (.tup [.agg [.nils,.YJ 0,.nils,.nils,.nils,.nils,.nils],.agg [.YJ 0,.YJ 0,.YJ 0,.YJ 0,.YJ 0,.nils,.nils],.bool false]) L:=λL=>G _ L (Fz.tups (.cons (Fz.aggs (m:=bU.zero.enc) (by exact fl)) (.cons (Fz.aggs (m:=bH.zero.enc) (by exact fl)) (.cons (.refl _) .nil))))
  unfold ay cy at *;clear G Y S;rw[O,E s]at *
  repeat' (first|refine sy ?_|refine s2 ?_ ?_|intro)
  exact hz _
def On(c:aL)(s:bU)(G:c.ts.length<=1000)(D:∀t:Nat,ao Tryz.prog 58 [.agg c.enc,.agg s.enc,.agg [.YJ t,.YJ (-1)]] (jp (cB c s t (-1)))):ao Tryz.prog 33 [.agg c.enc,.agg s.enc] (jp (fJ c s)):=by
 refine Rm λQ E=>E4 _ _ _ _ ?_
 refine vw ?_;have B:=λM O=>Jr c s G D M O Q E
 clear E D;have u:c.enc=[.lst (c.w.cells.map aH.enc),.lst (c.w.locks.map bv.enc),.lst (c.w.conds.map bO.enc),.lst (c.w.futures.map av),.lst (c.w.threads.map av),.lst (c.w.sites.map bM.enc),.lst (c.ts.map eG.enc)]:=rfl;have j:s.enc=[.lst (s.sync.locks.map LockD.enc),.YJ s.sync.tx,.lst (s.sync.done.map aD),.lst (s.sync.threads.map ThrD.enc),.lst (s.cells.map ah),.lst (s.futures.map ah),.lst (s.threads.map aG.enc)]:=rfl;unfold ay cy at B;rw[u,j]at *
 repeat' (first|refine sy ?_|refine s2 ?_ ?_|intro)
 exact B _ _
