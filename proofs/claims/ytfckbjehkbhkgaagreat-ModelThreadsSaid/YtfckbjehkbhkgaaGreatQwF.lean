/- part -/
import Derived.Test.YtfckbjehkbhkgaaGreatQwE
set_option linter.all false
set_option maxRecDepth 100000
set_option maxHeartbeats 0
namespace Go.Proofs.YtfckbjehkbhkgaaGreat.Am
def U2(bt:Nat)(t:List UInt8)(a m:Nat)(s:gO)(ht:t.length<2^63)(ha:a<=t.length)(Z:m<=16)(G:nS bK s 1):ac Tryz.prog 61 [.ptr bt 0 0,.agg s.enc,.agg bK.enc,.acU (m:Int),.bool true] [(bt,az t a)] λu K=>∃ev:List bA,u=.lst (ev.map bA.enc)/\ev.length<=m/\(∀e∈ev,wO e)/\K=[]:=by
 refine ac.fz (FM _ _ _ _ _ _ _ ?_);refine vw ?_;generalize E:(λ(v:AV) (L:SH)=>∃D M,ax [v] L [D] M/\∃ev:List bA,D=.lst (ev.map bA.enc)/\ev.length<=m/\(∀e∈ev,wO e)/\M=[])=Q;have O:∀j B L,L.Perm [(B,(⟨1,List.replicate 4 [.nils]⟩:Blk)),(bt,az t a),(j,⟨7,[s.enc]⟩)]->W.loop (t6 Q) [.ptr bt 0 0,.acU (m:Int),.bool true,.ptr j 0 0,.pptr [bK.enc] 0 0,.nils,.sl B 0 4,.acU 4,.acU 0] L:=λj B L hp=>
  UZ Q bt j B t a m s ht ha G.ct (λN a' H h1 h2=>by
   refine U1 Q bt j B m t ht Z (λp hp=>?_) ⟨none,[],s,N,a'⟩ ⟨λ_=>rfl,Nat.zero_le _,nofun,G,H,h1⟩ (ax.drop (K:=[]) (.refl _) rfl (fy.at_ (.cons (.refl _) (.cons (.refl _) (.cons (.refl _) (.cons (.refl _) (.cons .nile (.cons (.refl _) .nil))))))).2);subst E;refine⟨_,[],ax.all ?_,p.ev,rfl,hp.hl,hp.hE,rfl⟩;dsimp only[IV.st];cases Y:p.o with
   |none=>rw[hp.h0 Y];exact .emp
   |some b=>exact Fz.sls (.tail _ (.tail _ (.tail _ (.head _)))) rfl acR rfl) L hp
 clear E;have S:bK.threads.length=4:=rfl;simp only[dL,dO]at *
 repeat' (first|refine sy ?_|refine s2 ?_ ?_|intro)
 exact O _ _ _ (List.Perm.cons _ (List.Perm.swap _ _ _))
def Lb(f:FuncId)(args:List AV)(P:Prop):Prop:=∃b:Bool,aq Tryz.prog f args (.bool b)/\(b=true->P)
def SC{f:FuncId}{args:List AV}{P:Prop}(h:ac Tryz.prog f args [] λv L=>∃b:Bool,v=.bool b/\L=[]/\(b=true->P))(B:∀a∈args,bv a):Lb f args P:=by obtain⟨v,K,⟨b,rfl,_,j⟩,hp⟩:=h.pure B (λu K ⟨b,h,_⟩=>by rw[h];exact .bool b);exact⟨b,hp,j⟩
def Ox(i:Int)(n:Nat):aq Tryz.prog 119 [.acU i,.acU n] (.bool (inB i n)):=by
 refine JX _ _ _ _ ?_;refine vw ?_;generalize j:(λ(u:AV) (K:SH)=>u=AV.bool (inB i n)/\K=[])=Q
 repeat' (first|refine sy ?_|refine s2 ?_ ?_|intro)
 all_goals
  subst j;refine⟨?_,rfl⟩;simp_all[inB]<;>omega
def Lc(w:aG)(Y:w.init.count.length<2^40):Lb 96 [.agg w.enc] True:=by
 refine SC ?_ (aA w.pure dS);refine ac.fz (Ac _ _ _ ?_);refine vw ?_;generalize E:(λ(v:AV) (L:SH)=>∃B G,ax [v] L [B] G/\∃b:Bool,B=.bool b/\G=[]/\(b=true->True))=Q;have D:∀b L,Q (.bool b) L:=λb L=>by subst E;exact⟨_,[],ax.all (.refl _),b,rfl,rfl,λ_=>trivial⟩
 clear E;have M:W.loop (Ab Q) [.pptr [w.enc] 0 0,.acU (0:Nat),.acU (0:Nat)] []:=by
  refine aL w.init.count.length (λk (m:Int)=>([.pptr [w.enc] 0 0,.acU m,.acU k],[])) (λ_ _=>True) 0 trivial (.refl _ _) ?_;intro k m N _;dsimp only;refine vw ?_;rcases Nat.lt_or_ge k w.init.count.length with u|u
  .have O:=aS u;have S:(w.init.count.map aa)[k]? =some [.acU w.init.count[k]]:=aj (f:=aa) u;have fin:∀m:Int,∃(j:Nat) (o:Int),k<j/\j<=w.init.count.length/\True/\ax [.pptr [w.enc] 0 0,.acU m,.acU (IntKind.i64.wrap ((k:Int)+1))] [] [.pptr [w.enc] 0 0,.acU o,.acU j] []:=λm=>⟨k+1,m,acN,acN,trivial,by rw[av u acN];exact .refl _ _⟩
   generalize w.init.count[k]=c at *;rw[bj]at *
   repeat' (first|refine sy ?_|refine s2 ?_ ?_|intro)
   all_goals first
    |exact D _ _
    |exact fin _
  .have O:=aW u;rw[bj]at *;clear N
   repeat' (first|refine sy ?_|refine s2 ?_ ?_|intro)
   all_goals exact D _ _
 rw[bj]at *
 repeat' (first|refine sy ?_|refine s2 ?_ ?_|intro)
 exact M
def FO(w:aG)(hl:w.init.sync.threads.length<=w.init.count.length)(h4:w.init.sync.threads.length<2^40):Lb 97 [.agg w.enc] True:=by
 refine SC ?_ (aA w.pure dS);refine ac.fz (wo _ _ _ ?_);refine vw ?_;generalize M:(λ(v:AV) (L:SH)=>∃u O,ax [v] L [u] O/\∃b:Bool,u=.bool b/\O=[]/\(b=true->True))=Q;have G:∀b L,Q (.bool b) L:=λb L=>by subst M;exact⟨_,[],ax.all (.refl _),b,rfl,rfl,λ_=>trivial⟩
 clear M;have Y:W.loop (wm Q) [.pptr [w.enc] 0 0,.lst (w.init.sync.threads.map ThrD.enc),.acU (0:Nat)] []:=by
  refine cT w.init.sync.threads.length (λ_=>True) (λk=>[.pptr [w.enc] 0 0,.lst (w.init.sync.threads.map ThrD.enc),.acU k]) acN trivial rfl (λk N hd hk _ S j=>?_) (λk N hd _ S=>?_)
  all_goals refine vw ?_
  .have hx:(w.init.count.map aa)[k]? =some [.acU (w.init.count[k]'acN)]:=aj (f:=aa) acN;have Z:=aj (f:=ThrD.enc) N;have j:=j trivial;generalize w.init.count[k]'acN=c at *;generalize w.init.sync.threads[k]=t at *;obtain⟨E,D,B⟩:=t;rw[show ThrD.enc ⟨E,D,B⟩=[.acU E,.acU D,.bool B]from rfl]at Z;rw[bj]at *
   repeat' (first|refine sy ?_|(refine pf 119 ?_;refine pm (Ox _ _) ?_)|refine s2 ?_ ?_|intro)
   all_goals first
    |exact G _ _
    |exact j
  .rw[bj]at *
   repeat' (first|refine sy ?_|refine s2 ?_ ?_|intro)
   all_goals exact G _ _
 rw[bj]at *
 repeat' (first|refine sy ?_|refine s2 ?_ ?_|intro)
 exact Y
def MY(w:aG)(t:Int)(N:w.init.count.length<2^40):aq Tryz.prog 120 [.agg w.enc,.acU t] (.bool (inB t w.init.count.length&&decide (1<=aT w.init t))):=by
 refine NQ AV.bool λQ u=>Cp _ _ _ _ ?_
 refine vw ?_;have D:=Ox t w.init.count.length;cases j:inB t w.init.count.length with
 |false=>
  rw[j]at D;have B:=λL=>u false L (by rw[j];rfl)
  clear u;rw[bj]
  repeat' (first|refine sy ?_|refine s2 ?_ ?_|intro)
  exact B _
 |true=>
  rw[j]at D;have M:=CR j;obtain⟨G,E⟩:=ao.1 j;have B:=λL=>u _ L (by rw[j,acB])
  clear u;generalize aT w.init t=c at *;rw[bj]
  repeat' (first|refine aw G E rp acO ?_|refine sy ?_|refine s2 ?_ ?_|intro)
  exact B _
def lf(w:aF)(ev:List bA)(k:Nat):gO:=cf w (bG w) (ev.take k)
def PS{w:aF}{ev:List bA}{k:Nat}(h:k<ev.length):lf w ev (k+1)=gW w (lf w ev k) ev[k]:=by unfold lf;rw[Fn h,i9]
def SJ{w:aF}{ev:List bA}(H:K4 w ev){k:Nat}(j:k<=ev.length):nS w (lf w ev k) k:=by have hp:=H.play;rw[show ev=ev.take k++ev.drop k from(acr k ev).symm,jd]at hp;have:=nT (ev.take k) (uX w) hp.1;rw[show 0+(ev.take k).length=k by simp;omega]at this;exact this
def SK{w:aF}{ev:List bA}(H:K4 w ev)(E:∀e∈ev,wO e){k:Nat}(j:k<ev.length):aq Tryz.prog 58 [.agg w.enc,.agg (lf w ev k).enc,.agg (ev[k]).enc] (.tup [.agg (lf w ev (k+1)).enc,.bool true]):=by
 have B:=SJ H (Nat.le_of_lt j);have u:=H.world;have G:=H.len;have D:=E _ (LT j);have:=nR w (lf w ev k) ev[k] (rE u acN B) (by have:=D.1;omega) (by have:=D.2;omega) (by rw[B.ce];have:=u.c12;omega) (by rw[B.fu];have:=u.f2;omega) (by rw[B.ct];have:=u.t4;omega);rw[show px w (lf w ev k) ev[k]=some (lf w ev (k+1)) by
  unfold px;rw[show H7 w (lf w ev k) ev[k]=true from oZ w ev (bG w) H.play k j,if_pos rfl,PS j]]at this
 exact this
def M1(w:aF)(ev:List bA)(H:K4 w ev)(hE:∀e∈ev,wO e)(n:Nat)(E:n<=ev.length):aq Tryz.prog 68 [.agg (⟨w,ev⟩:el).enc,.acU n] (.agg (lf w ev n).enc):=by
 have G:=H.world;have hl:=H.len;have Z:=o7 w (by have:=G.l4;omega) (by have:=G.f2;omega) (by have:=G.t4;omega) (by have:=G.c12;omega);refine L6 λQ D=>Cj _ _ _ _ ?_
 refine vw ?_;have O:∀B u:Nat,W.loop (Ci Q) [.acU n,.pptr [(⟨w,ev⟩:el).enc] 0 0,.ptr B 0 0,.ptr u 0 0,.acU (0:Nat)] [(u,⟨7,[(bG w).enc]⟩),(B,⟨7,[dB]⟩)]:=by
  intro B u;refine JT n (λ_=>True) (λk=>([.acU n,.pptr [(⟨w,ev⟩:el).enc] 0 0,.ptr B 0 0,.ptr u 0 0,.acU k],[(u,⟨7,[(lf w ev k).enc]⟩),(B,⟨7,[dB]⟩)])) acN trivial rfl rfl (λk M hd hkk _ N E=>?_) (λk M hd _ N=>?_)
  all_goals refine vw ?_
  .have Y:=aj (f:=bA.enc) (show k<ev.length by omega);have j:=SK H hE (show k<ev.length by omega);have E:=E trivial;generalize ev[k]'acN=e at *;rw[eH]at Y j;clear D;generalize lf w ev (k+1)=s2 at *;generalize lf w ev k=s1 at *;unfold dB at *;rw[dO]at j;rw[uW,dL,dL]at *
   repeat' (first|refine sy ?_|refine s2 ?_ ?_|intro)
   exact E _ _ (ax.pickE rp rfl rfl)
  .subst M;generalize lf w ev k=s1 at *;have S:=D;clear D;rw[dL]at *
   repeat' (first|refine sy ?_|refine s2 ?_ ?_|intro)
   exact S _
 clear D;rw[dO,uW]at *
 repeat' (first|refine sy ?_|refine s2 ?_ ?_|intro)
 exact O _ _
def el.pure(w:aF)(ev:List bA):bv (.agg (⟨w,ev⟩:el).enc):=.aggs (by
 rw[uW];exact aA (.lmap λx _=>by unfold aU.enc;exact pv) (aA (.lmap λx _=>by unfold bZ.enc;exact pv) (aA (.lmap λx _=>by unfold cM.enc;exact pv) (aA (.lmap λx _=>gD x) (aA (.lmap λx _=>gD x) (aA (.lmap λx _=>by unfold cF.enc;exact pv) (aA (.lmap λx _=>by unfold bA.enc;exact aA (.int _ _) (aA (.int _ _) (aA (.int _ _) (aA (.int _ _) (aA (.int _ _) (aA (.lmap λx _=>by unfold aa;exact pv) (aA (.lmap λx _=>by unfold aa;exact pv) dS))))))) dS)))))))
def XJ(w:aF)(ev:List bA)(a n:Nat):(DJ w ev a n).enc=[.lst (w.cells.map aU.enc),.lst (w.locks.map bZ.enc),.lst (w.conds.map cM.enc),.lst (w.futures.map ay),.lst (w.threads.map ay),.lst (w.sites.map cF.enc),.acU a,.lst ((lf w ev a).sync.locks.map LockD.enc),.acU (lf w ev a).sync.tx,.lst ((lf w ev a).sync.done.map au),.lst ((lf w ev a).sync.threads.map ThrD.enc),.lst ((lf w ev a).cells.map aa),.lst ((lf w ev a).futures.map aa),.lst ((lf w ev a).count.map aa),.lst (((ev.drop a).take n).map bA.enc)]:=rfl
def M2(w:aF)(ev:List bA)(hE:∀e∈ev,wO e)(hl:ev.length<=400)(z:Nat)(z1:1<=z)(z2:z<=16):ac Tryz.prog 40 [.agg (⟨w,ev⟩:el).enc,.acU z] [] λv L=>∃(l:List aG) (e:Int),v=.tup [.lst (l.map aG.enc),.acU e]/\L=[]/\(∀x∈l,eT x)/\l.length<=400:=by
 obtain⟨v,K,⟨i,e,rfl,rfl,B⟩,hch⟩:=(MU w ev hE hl).pure (aA (el.pure _ _) dS) (λu K ⟨i,e,h1,_⟩=>by rw[h1];exact KG i e);refine ac.fz (Cl _ _ _ _ ?_);refine vw ?_;generalize hQ:(λ(v:AV) (L:SH)=>∃v2 L2,ax [v] L [v2] L2/\∃(l:List aG) (e:Int),v2=.tup [.lst (l.map aG.enc),.acU e]/\L2=[]/\(∀x∈l,eT x)/\l.length<=400)=Q;have E:∀(l:List aG) (e:Int) v L,Fz L v (.lst (l.map aG.enc))->(∀x∈l,eT x)->l.length<=400->Q (.tup [v,.acU e]) L:=λl e v L h h1 h2=>by subst hQ;exact⟨_,[],ax.all (.tups (.cons h (.cons (.refl _) .nil))),l,e,rfl,rfl,h1,h2⟩
 clear hQ;have d1:decide ((z:Int)<1)=false:=decide_eq_false acN;have d2:decide ((16:Int)<(z:Int))=false:=decide_eq_false acN;by_cases he:e=0
 .subst he;have H:=B rfl;have lp:W.loop (Ck Q) [.acU z,.pptr [(⟨w,ev⟩:el).enc] 0 0,.nils,.acU (0:Nat)] []:=by
   refine aL (ev.length+16) (λk (p:Option Nat×List aG)=>([.acU z,.pptr [(⟨w,ev⟩:el).enc] 0 0,af p.1 p.2.length,.acU k],ab p.1 15 (p.2.map aG.enc))) (λk p=>(p.1=none->p.2=[])/\(∀x∈p.2,eT x)/\p.2.length<=k/\p.2.length<=400) (none,[]) ⟨λ_=>rfl,nofun,Nat.le_refl _,acR⟩ (ax.drop (K:=[]) (.refl _) rfl (fy.at_ (.cons (.refl _) (.cons (.refl _) (.cons .nile (.cons (.refl _) .nil))))).2) ?_;rintro k ⟨o,l⟩ hk ⟨h0,Z,hlk,O⟩;dsimp only at h0 Z hlk O ⊢;refine vw ?_;have h0':o=none->l.map aG.enc=[]:=λe=>by rw[h0 e];rfl
   have hXl:(l.map aG.enc).length=l.length:=by simp
   rcases LE k ev.length with S|S
   .have hd:=aS S;have haf:=M1 w ev H hE k acN;have hw1:IntKind.i64.wrap ((k:Int)+(z:Int))=((k+z:Nat):Int):=by rw[abg _ acN];omega
    obtain⟨m,hm,hmk,hmn⟩:∃m:Nat,(if(ev.length:Int)<((k+z:Nat):Int)then(ev.length:Int)else((k+z:Nat):Int))=(m:Int)/\k<m/\m<=ev.length:=by
     split
     .exact⟨ev.length,rfl,S,Fd _⟩
     .exact⟨k+z,rfl,acN,acN⟩
    have D:=XC H (a:=k) (n:=m-k) S acN;have M:=XJ w ev k (m-k);have fin:∀(Y:Nat) (L:SH),cO L (ab (some Y) 15 (l.map aG.enc++[(DJ w ev k (m-k)).enc]))->∃(j:Nat) (p:Option Nat×List aG),k<j/\j<=ev.length+16/\((p.1=none->p.2=[])/\(∀x∈p.2,eT x)/\p.2.length<=j/\p.2.length<=400)/\ax [.acU z,.pptr [(⟨w,ev⟩:el).enc] 0 0,.sl Y 0 (l.length+1),.acU ((k+z:Nat):Int)] L [.acU z,.pptr [(⟨w,ev⟩:el).enc] 0 0,af p.1 p.2.length,.acU j] (ab p.1 15 (p.2.map aG.enc)):=by
     intro Y L hL;refine⟨k+z,(some Y,l++[DJ w ev k (m-k)]),acN,acN,⟨nofun,λx hx=>?_,acS,acS⟩,?_⟩
     .rcases aak.1 hx with h|h
      .exact Z x h
      .rw[aag.1 h];exact D
     .dsimp only;rw[List.length_append,List.length_singleton];exact ax.pickE hL rfl acQ
    rw[M]at fin;clear E D M Z h0;generalize hX:l.map aG.enc=X at *;generalize lf w ev k=s1 at *;have hsl:∀(K:AV->Prop) (L:SH),K (.lst (((ev.drop k).take (m-k)).map bA.enc))->W.slice 7 (.lst (ev.map bA.enc)) (some (.acU k)) (some (.acU m)) none L K:=λK L hK=>by
     refine ip (l:=k) (h:=m) (by simp[cE,gQ]) (by simp[cE,gQ]) acN acS (λr hr=>?_) (by rw[<-List.map_drop,<-acD];exact hK);cases ev with
     |nil=>cases hr
     |cons x _=>cases hr;rfl
    rw[dL]at haf;rw[uW]at *
    repeat' (first|refine sx ?_|rw[NC,hm]|refine hsl _ _ ?_|refine aM rp rp hXl h0' acP acQ acS acS acP (λG N=>?_)|refine sb λG N=>?_|refine s2 ?_ ?_|intro)
    exact fin G _ rp
   .have hd:=aW S;have hz:∀L,(∀q∈ab o 15 (l.map aG.enc),q∈L)->Q (.tup [af o l.length,.acU 0]) L:=λL hm=>by
     refine E l 0 _ _ ?_ Z O;cases o with
     |none=>rw[h0 rfl];exact .emp
     |some b=>exact Fz.sls (hm _ (.head _)) rfl acR acQ
    clear E;rw[uW]at *
    repeat' (first|refine sy ?_|refine s2 ?_ ?_|intro)
    exact hz _ λq h=>h
  clear B E
  repeat' (first|refine sy ?_|refine s2 ?_ ?_|intro)
  exact lp
 .have d3:decide (e=0)=false:=decide_eq_false he;have d4:decide (e≠0)=true:=decide_eq_true he;have hz:∀(e:Int) L,Q (.tup [.nils,.acU e]) L:=λe L=>E [] e _ _ .nils nofun acR
  clear E B
  repeat' (first|refine sy ?_|refine s2 ?_ ?_|intro)
  exact hz _ _
