/- part -/
import Derived.Test.YtfckbjehkbhkgaaGreatQwC
set_option linter.all false
set_option maxRecDepth 100000
set_option maxHeartbeats 0
namespace Go.Proofs.YtfckbjehkbhkgaaGreat.Am
def ax.keepR{v v2:AV}{L K R:SH}(j:L.Perm (K++R))(h:Fz K v v2):ax [v] L [v2] R:=ax.drop j rfl (fy.at_ (.cons h .nil)).2
def Ov{o:Option Nat}{l:List Int}(j:o=none->l=[]):Fz (ab o 1 (l.map aa)) (af o l.length) (.lst (l.map aa)):=by
 cases o with
 |none=>rw[j rfl];exact .emp
 |some b=>exact Fz.sls (.head _) rfl acR rfl
def gO.pure(s:gO):bv (.agg s.enc):=.aggs (by
 rw[dL];exact aA (.lmap λx _=>by unfold LockD.enc;exact aA (.int _ _) (aA (.lmap λy _=>by unfold aa;exact pv) dS)) (aA (.int _ _) (aA (.lmap λx _=>by unfold au;exact pv) (aA (.lmap λx _=>by unfold ThrD.enc;exact pv) (aA (.lmap λx _=>by unfold aa;exact pv) (aA (.lmap λx _=>by unfold aa;exact pv) (aA (.lmap λx _=>by unfold aa;exact pv) dS)))))))
def PO(l:List Int):bv (.lst (l.map aa)):=.lmap λx _=>by unfold aa;exact pv
def MT(s:gO)(h4:s.sync.threads.length<2^30):∃l:List Int,aq Tryz.prog 143 [.agg s.enc] (.lst (l.map aa))/\l.length<=s.sync.threads.length:=by
 suffices h:ac Tryz.prog 143 [.agg s.enc] [] λv L=>∃l:List Int,v=.lst (l.map aa)/\L=[]/\l.length<=s.sync.threads.length by obtain⟨v,K,⟨l,rfl,_,hl⟩,hp⟩:=h.pure (aA s.pure dS) (λu K ⟨l,h,_⟩=>by rw[h];exact PO l);exact⟨l,hp,hl⟩
 refine ac.fz (yV _ _ _ ?_);refine vw ?_;generalize hQ:(λ(v:AV) (L:SH)=>∃S L2,ax [v] L [S] L2/\∃l:List Int,S=.lst (l.map aa)/\L2=[]/\l.length<=s.sync.threads.length)=Q;have M:∀(o:Option Nat) (l:List Int),(o=none->l=[])->l.length<=s.sync.threads.length->Q (af o l.length) (ab o 1 (l.map aa)):=λo l B h1=>by subst hQ;exact⟨_,[],ax.all (Ov B),l,rfl,rfl,h1⟩
 clear hQ;have lp:W.loop (yU Q) [.nils,.lst (s.sync.threads.map ThrD.enc),.acU s.sync.threads.length,.acU 0] []:=by
  refine aL s.sync.threads.length (λk (p:Option Nat×List Int)=>([af p.1 p.2.length,.lst (s.sync.threads.map ThrD.enc),.acU s.sync.threads.length,.acU k],ab p.1 1 (p.2.map aa))) (λk p=>(p.1=none->p.2=[])/\p.2.length<=k) (none,[]) ⟨λ_=>rfl,Nat.le_refl _⟩ (ax.drop (K:=[]) (.refl _) rfl (fy.at_ (.cons .nile (.cons (.refl _) (.cons (.refl _) (.cons (.refl _) .nil))))).2) ?_;rintro k ⟨o,l⟩ hk ⟨B,N⟩;dsimp only at B N ⊢;refine vw ?_;have hX:(l.map aa).length=l.length:=by simp
  have O:o=none->l.map aa=[]:=λe=>by rw[B e];rfl
  rcases LE k s.sync.threads.length with D|D
  .have hd:=aS D;have hx:=aj (f:=ThrD.enc) D;generalize s.sync.threads[k]=t at *;obtain⟨E,Z,Y⟩:=t;rw[show ThrD.enc ⟨E,Z,Y⟩=[.acU E,.acU Z,.bool Y]from rfl]at hx;clear M;by_cases z:E=3
   .have d1:decide (E=3)=true:=decide_eq_true z
    repeat' (first|refine sx ?_|refine aM rp rp hX O acP acQ acS acS acP (λj G=>?_)|refine sb λj G=>?_|refine s2 ?_ ?_|intro)
    exact⟨k+1,(some j,l++[(k:Int)]),acN,acN,⟨nofun,acS⟩,by rw[av D acN];exact ax.pickE (R:=[(j,_)]) rp (by simp[af]) (by simp[ab,aa,aR])⟩
   .have d1:decide (E=3)=false:=decide_eq_false z
    repeat' (first|refine sy ?_|refine s2 ?_ ?_|intro)
    exact⟨k+1,(o,l),acN,acN,⟨B,by dsimp only;omega⟩,by rw[av D acN];exact .refl _ _⟩
  .have hd:=aW D;have hz:=M o l B acN;clear M
   repeat' (first|refine sy ?_|refine s2 ?_ ?_|intro)
   exact hz
 rw[dL]
 repeat' (first|refine sy ?_|refine s2 ?_ ?_|intro)
 exact lp
def UW(bt:Nat)(t:List UInt8)(a:Nat)(o:Option Nat)(l:List Int)(ht:t.length<2^63)(ha:a<=t.length)(h0:o=none->l=[])(hl:l.length<2^30):
  ac Tryz.prog 115 [.ptr bt 0 0,af o l.length] ((bt,az t a)::ab o 1 (l.map aa)) λu K=>∃(out:List Int) (B:Nat),u=.lst (out.map aa)/\out.length<=l.length/\B<=t.length/\a<=B/\K=(bt,az t B)::ab o 1 (l.map aa):=by
 refine ac.fz (FJ _ _ _ _ ?_);refine vw ?_;generalize hQ:(λ(v:AV) (L:SH)=>∃v2 L2,ax [v] L [v2] L2/\∃(out:List Int) (B:Nat),v2=.lst (out.map aa)/\out.length<=l.length/\B<=t.length/\a<=B/\L2=(bt,az t B)::ab o 1 (l.map aa))=Q;have hq:∀(E:Option Nat) (out:List Int) (B:Nat),(E=none->out=[])->out.length<=l.length->B<=t.length->a<=B->Q (af E out.length) ((bt,az t B)::(ab o 1 (l.map aa)++ab E 1 (out.map aa))):=λE out B h0 h1 h2 h3=>by subst hQ;exact⟨_,_,ax.keepR (aar (l₁:=(bt,az t B)::ab o 1 (l.map aa))) (Ov h0),out,B,rfl,h1,h2,h3,rfl⟩
 clear hQ;have lp:W.loop (FI Q) [.ptr bt 0 0,af o l.length,.nils,af o l.length,.acU l.length,.acU 0] ((bt,az t a)::ab o 1 (l.map aa)):=by
  refine aL l.length (λk (p:Option Nat×List Int×Nat)=>([.ptr bt 0 0,af o l.length,af p.1 p.2.1.length,af o l.length,.acU l.length,.acU k],(bt,az t p.2.2)::(ab o 1 (l.map aa)++ab p.1 1 (p.2.1.map aa)))) (λk p=>(p.1=none->p.2.1=[])/\p.2.1.length<=k/\p.2.2<=t.length/\a<=p.2.2) (none,[],a) ⟨λ_=>rfl,Nat.le_refl _,ha,Nat.le_refl _⟩ (ax.drop (K:=[]) (by dsimp only[ab,List.map_nil,List.append_nil];rw[List.append_nil];exact .refl _) rfl (fy.at_ (.cons (.refl _) (.cons (.refl _) (.cons .nile (.cons (.refl _) (.cons (.refl _) (.cons (.refl _) .nil))))))).2) ?_;rintro k ⟨E,out,a2⟩ hk ⟨N,hlk,M,ha3⟩;dsimp only at N hlk M ha3 ⊢;refine vw ?_;have hX:(out.map aa).length=out.length:=by simp
  have h0':E=none->out.map aa=[]:=λe=>by rw[N e];rfl
  rcases LE k l.length with O|O
  .cases o with
   |none=>rw[h0 rfl]at O;simp at O
   |some b=>
   have hd:=aS O;have hx:(l.map aa)[k]? =some [.acU l[k]]:=aj (f:=aa) O;have e3:IntKind.i64.wrap ((k:Int)+3)=(k:Int)+3:=abg _ acN;generalize l[k]=x at *;clear hq;have fin1:∀(nb D:Nat) (L:SH),D<=t.length->a2<=D->cO L ((bt,az t D)::(b,⟨1,l.map aa⟩)::[(nb,⟨1,(out++[x]).map aa⟩)])->∃(j:Nat) (p:Option Nat×List Int×Nat),k<j/\j<=l.length/\((p.1=none->p.2.1=[])/\p.2.1.length<=j/\p.2.2<=t.length/\a<=p.2.2)/\ax [.ptr bt 0 0,.sl b 0 l.length,.sl nb 0 (out.length+1),.sl b 0 l.length,.acU l.length,.acU (IntKind.i64.wrap ((k:Int)+1))] L [.ptr bt 0 0,af (some b) l.length,af p.1 p.2.1.length,af (some b) l.length,.acU l.length,.acU j] ((bt,az t p.2.2)::(ab (some b) 1 (l.map aa)++ab p.1 1 (p.2.1.map aa))):=λnb D L q1 q2 hL=>
    ⟨k+1,(some nb,out++[x],D),acN,acN,⟨nofun,acS,q1,by dsimp only;omega⟩,by rw[av O acN];exact ax.pickE hL (by simp[af]) (by simp[ab])⟩
   have S:∀(D:Nat) (L:SH),D<=t.length->a2<=D->L=(bt,az t D)::(b,⟨1,l.map aa⟩)::ab E 1 (out.map aa)->∃(j:Nat) (p:Option Nat×List Int×Nat),k<j/\j<=l.length/\((p.1=none->p.2.1=[])/\p.2.1.length<=j/\p.2.2<=t.length/\a<=p.2.2)/\ax [.ptr bt 0 0,.sl b 0 l.length,af E out.length,.sl b 0 l.length,.acU l.length,.acU (IntKind.i64.wrap ((k:Int)+1))] L [.ptr bt 0 0,af (some b) l.length,af p.1 p.2.1.length,af (some b) l.length,.acU l.length,.acU j] ((bt,az t p.2.2)::(ab (some b) 1 (l.map aa)++ab p.1 1 (p.2.1.map aa))):=λD L q1 q2 hL=>
    ⟨k+1,(E,out,D),acN,acN,⟨N,by dsimp only;omega,q1,by dsimp only;omega⟩,by subst hL;rw[av O acN];exact .refl _ _⟩
   generalize hG:(λ(vs':List AV) (L':SH)=>∃(j:Nat) (p:Option Nat×List Int×Nat),k<j/\j<=l.length/\((p.1=none->p.2.1=[])/\p.2.1.length<=j/\p.2.2<=t.length/\a<=p.2.2)/\ax vs' L' [.ptr bt 0 0,af (some b) l.length,af p.1 p.2.1.length,af (some b) l.length,.acU l.length,.acU j] ((bt,az t p.2.2)::(ab (some b) 1 (l.map aa)++ab p.1 1 (p.2.1.map aa))))=G;dsimp only[af,ab,List.cons_append,List.nil_append]
   repeat' (first|refine sx ?_|((with_reducible refine aN 92 ?_);(refine jM ht M rp (λr_ a_ hr_ h1_ h2_ h3_=>?_)))|refine aM rp rp hX h0' acP acQ acS acS acP (λY Z=>?_)|refine sb λY Z=>?_|refine s2 ?_ ?_|intro)
   all_goals subst hG
   all_goals first
    |(refine fin1 Y _ _ acO acO ?_;simp only[ST];exact rp)
    |exact S _ _ acO acO rfl
    |exact S _ _ M (Fd _) rfl
  .have hd:=aW O;have hz:=hq E out a2 N acN M ha3;clear hq
   repeat' (first|refine sy ?_|refine s2 ?_ ?_|intro)
   exact hz
 clear hq;cases o with
 |none=>
  obtain rfl:=h0 rfl;dsimp only[af,ab]at *
  repeat' (first|refine sy ?_|refine s2 ?_ ?_|intro)
  exact lp
 |some b=>
  dsimp only[af,ab]at *
  repeat' (first|refine sy ?_|refine s2 ?_ ?_|intro)
  exact lp
def pe:List Int:=[3,3,3,3,3,4,4,4,4,4,5,5,5,6,6,6,7,7,7,8,9,10,11,12,13,14,14,15,16,16,17,17,18,18,19,20,1,1,2,21,22,23,23]
def Sw:aq Tryz.prog 112 [] (.lst (pe.map aa)):=by
 refine ac.fz (DN _ _ ?_);refine vw ?_
 repeat' (first|refine sy ?_|refine s2 ?_ ?_|intro)
 exact⟨_,[],ax.all (Fz.sls (l:=pe) (f:=aa) (size:=1) (.head _) rfl acR rfl),rfl,rfl⟩
def Sx(bt:Nat)(t:List UInt8)(a:Nat)(s:gO)(k ob:Int)(ht:t.length<2^63)(E:a<=t.length)(h4:s.sync.threads.length<2^30)(hf:0<s.futures.length)(O:k=3->inB ob s.cells.length=true):
  ac Tryz.prog 114 [.ptr bt 0 0,.agg s.enc,.acU k,.acU ob] [(bt,az t a)] λu K=>∃(v:Int) (j:Nat),u=.acU v/\j<=t.length/\a<=j/\K=[(bt,az t j)]:=by
 obtain⟨wl,hw,hwl⟩:=MT s h4;refine ac.fz (DM _ _ _ _ _ _ ?_);refine vw ?_;generalize hQ:(λ(v:AV) (L:SH)=>∃v2 L2,ax [v] L [v2] L2/\∃(x:Int) (j:Nat),v2=AV.acU x/\j<=t.length/\a<=j/\L2=[(bt,az t j)])=Q;have D:∀(x:Int) (j:Nat) (L:SH),cO L [(bt,az t j)]->j<=t.length->a<=j->Q (.acU x) L:=λx j L hL h2 h3=>by subst hQ;exact⟨_,_,ax.pickE hL rfl rfl,x,j,rfl,h2,h3,rfl⟩
 clear hQ;have hx:(s.futures.map aa)[0]? =some [.acU s.futures[0]]:=aj (f:=aa) hf;generalize s.futures[0]=f0 at *;have M:∀r:Nat,r<wl.length->(wl.map aa)[r]? =some [.acU (wl.getD r 0)]:=λr h=>by rw[aj (f:=aa) h];simp[List.getD,h,aa]
 by_cases G:k=3
 .have d3:decide (k=3)=true:=decide_eq_true G;obtain⟨c0,c1⟩:=ao.1 (O G);have hy:=jn (O G);generalize oL s.cells ob=cv at *;rw[dL]at *
  repeat' (first|refine aw c0 c1 rp acO ?_|refine sy ?_|refine s2 ?_ ?_|intro)
  (refine D _ a _ ?_ E (Fd _);exact rp)
 .have d3:decide (k=3)=false:=decide_eq_false G;clear O;by_cases B:k=18
  .subst B;rw[dL]at *;rcases LE 0 wl.length with g|g
   .have d0:decide ((0:Int)<(wl.length:Int))=true:=decide_eq_true acN
    repeat' (first|refine sy ?_|((with_reducible refine aN 92 ?_);(refine jM ht E rp (λr_ a_ N Z Y S=>?_);have hwx_:=M r_ acN))|refine cN ?_ acN|refine s2 ?_ ?_|intro)
    all_goals (refine D _ _ _ ?_ acO acO;exact rp)
   .have d0:decide ((0:Int)<(wl.length:Int))=false:=decide_eq_false acN
    repeat' (first|refine sy ?_|refine s2 ?_ ?_|intro)
    (refine D _ a _ ?_ E (Fd _);exact rp)
  .have d18:decide (k=18)=false:=decide_eq_false B;rw[dL]at *
   repeat' (first|refine sy ?_|((with_reducible refine aN 92 ?_);(refine jM ht E rp (λr_ a_ N Z Y S=>?_)))|refine s2 ?_ ?_|intro)
   all_goals first
    |(refine D _ _ _ ?_ acO acO;exact rp)
    |(refine D _ a _ ?_ E (Fd _);exact rp)
structure LB where
 a:Nat
 lk:List LockD
 tx:Int
 dn:List Bool
 th:List ThrD
 ce:List Int
 fu:List Int
 cn:List Int
structure LB.Ok(t:List UInt8)(p:LB):Prop where
 ha:p.a<=t.length
 lk:p.lk.length=3
 dn:p.dn.length=1
 th:p.th.length=4
 ce:p.ce.length=5
 fu:p.fu.length=1
 cn:p.cn.length=4
 cd:∀x∈p.th,x.cond=0
 ct:∀x∈p.cn,0<=x/\x<=3
 rd:∀l∈p.lk,l.readers.length<=1
structure t8 where
 bt:Nat
 br:Nat
 bs:Nat
 bl:Nat
 bd:Nat
 b4:Nat
 bc:Nat
 bf:Nat
 bn:Nat
def t8.row(b:t8)(tx:Int):List AV:=[.sl b.bl 0 3,.acU tx,.sl b.bd 0 1,.sl b.b4 0 4,.sl b.bc 0 5,.sl b.bf 0 1,.sl b.bn 0 4]
def t8.rest(b:t8)(t:List UInt8)(p:LB):SH:=[(b.bs,⟨7,[b.row p.tx]⟩),(b.bt,az t p.a),(b.bd,⟨1,p.dn.map au⟩),(b.b4,⟨3,p.th.map ThrD.enc⟩),(b.bc,⟨1,p.ce.map aa⟩),(b.bf,⟨1,p.fu.map aa⟩),(b.bn,⟨1,p.cn.map aa⟩)]
def t8.hp(b:t8)(t:List UInt8)(p:LB):SH:=(b.bl,⟨2,p.lk.map LockD.enc⟩)::b.rest t p
def t8.heap(b:t8)(t:List UInt8)(p:LB):SH:=(b.bl,⟨2,p.lk.map LockD.enc⟩)::(b.br,⟨7,[dB]⟩)::b.rest t p
def Z0(Q:R)(b:t8)(t:List UInt8)(ht:t.length<2^63)(hne:b.bs≠b.bt)(hq:∀p:LB,p.Ok t->∀L,cO L (b.hp t p)->Q (.agg (b.row p.tx)) L)(p0:LB)(h0:p0.Ok t)(L:SH)(hL:cO L (b.heap t p0)):
  W.loop (uT Q) [.ptr b.bt 0 0,.ptr b.br 0 0,.ptr b.bs 0 0,.acU 5,.acU 0] L:=by
 refine aL 5 (λk p=>([.ptr b.bt 0 0,.ptr b.br 0 0,.ptr b.bs 0 0,.acU 5,.acU k],b.heap t p)) (λk p=>p.Ok t) p0 h0 (ax.pickE hL rfl rfl) ?_;rintro k ⟨a,lk,tx,dn,th,B,fu,cn⟩ hk H;obtain⟨bt,E,D,M,O,Y,S,N,G⟩:=b;have ha:=H.ha;have hce:=H.ce;dsimp only[t8.heap,t8.hp,t8.rest,t8.row]at *;refine vw ?_;rcases Nat.lt_or_ge k 5 with g1|g1
 .have hd:decide ((k:Int)<5)=true:=decide_eq_true acN;have hx:(B.map aa)[k]? =some [.acU (B[k]'acN)]:=aj (f:=aa) acN;have fin:∀(Z:Nat) (v:Int) (L:SH),Z<=t.length->cO L [(M,⟨2,lk.map LockD.enc⟩),(E,⟨7,[dB]⟩),(D,⟨7,[[.sl M 0 3,.acU tx,.sl O 0 1,.sl Y 0 4,.sl S 0 5,.sl N 0 1,.sl G 0 4]]⟩),(bt,az t Z),(O,⟨1,dn.map au⟩),(Y,⟨3,th.map ThrD.enc⟩),(S,⟨1,(B.map aa).set k [.acU v]⟩),(N,⟨1,fu.map aa⟩),(G,⟨1,cn.map aa⟩)]->
    ∃(j:Nat) (p:LB),k<j/\j<=5/\p.Ok t/\ax [.ptr bt 0 0,.ptr E 0 0,.ptr D 0 0,.acU 5,.acU ((k+1:Nat):Int)] L [.ptr bt 0 0,.ptr E 0 0,.ptr D 0 0,.acU 5,.acU j] [(M,⟨2,p.lk.map LockD.enc⟩),(E,⟨7,[dB]⟩),(D,⟨7,[[.sl M 0 3,.acU p.tx,.sl O 0 1,.sl Y 0 4,.sl S 0 5,.sl N 0 1,.sl G 0 4]]⟩),(bt,az t p.a),(O,⟨1,p.dn.map au⟩),(Y,⟨3,p.th.map ThrD.enc⟩),(S,⟨1,p.ce.map aa⟩),(N,⟨1,p.fu.map aa⟩),(G,⟨1,p.cn.map aa⟩)]:=λZ v L h1 hP=>
   ⟨k+1,⟨Z,lk,tx,dn,th,B.set k v,fu,cn⟩,acN,acN,⟨h1,H.lk,H.dn,H.th,by simpa using hce,H.fu,H.cn,H.cd,H.ct,H.rd⟩,ax.pickE hP rfl (by rw[abT];rfl)⟩
  have i1:IntKind.i64.wrap ((k:Int)+1)=((k+1:Nat):Int):=av g1 acN;generalize B[k]'acN=c at *;clear hq hL;unfold dB at *
  repeat' (first|refine cN ?_ acN|refine sy ?_|((with_reducible refine aN 92 ?_);(refine jM ht ha rp (λr_ a_ hr_ u h2_ h3_=>?_)))|(with_reducible refine cy 92 ?_;refine rZ ht ha rp (λr_ a_ hr_ u h2_ h3_=>?_))|refine s2 ?_ ?_|intro)
  exact fin a_ r_ _ u acT
 .have hd:decide ((k:Int)<5)=false:=decide_eq_false acN;have hz:=λL=>hq _ H L
  clear hq hL;unfold dB at *
  repeat' (first|refine sy ?_|refine s2 ?_ ?_|intro)
  refine hz _ ?_;exact rp
def DT{bt u:Nat}{t:List UInt8}{a:Nat}{cs:List Int}{M G E D B Z Y S O N n:Nat}{tx:Int}{L L1 L2:SH}{KL:R}(h1:dF bt (az t a) L L1)(h2:dF u ⟨1,cs.map aa⟩ L1 L2)(ht:t.length<2^63)(ha:a<=t.length)(hc:cs.length=n)(hn:n<100)(hq:∀(v:Int) (j:Nat),(v=-1\/(0<=v/\v<n))->j<=t.length->a<=j->KL (.acU v) ((bt,az t j)::(u,⟨1,cs.map aa⟩)::L2)):
  W.callM Tryz.prog 93 [.ptr bt 0 0,.agg [.sl M 0 Z,.acU tx,.sl G 0 Y,.sl E 0 S,.sl D 0 O,.sl B 0 N,.sl u 0 n]] L KL:=by
 subst hc;exact JC (Su bt t a u cs M G E D B Z Y S O N tx ht ha hn) h1 h2 (by rintro _ _ ⟨v,j,rfl,g1,g2,g3,rfl⟩;exact hq v j g1 g2 g3)
def U3{th:List ThrD}{u:Int}(B:0<=u)(j:u<th.length):∃(x y:Int) (z:Bool),(th.map ThrD.enc)[u.toNat]? =some [.acU x,.acU y,.bool z]:=by
 have h:u.toNat<th.length:=by omega
 exact⟨_,_,_,aj (f:=ThrD.enc) h⟩
def K8{th:List ThrD}{n:Nat}{v:Int}(B:th.length=n)(h:v=-1\/(0<=v/\v<n)):v=-1\/(0<=v/\v<n/\∃(x y:Int) (z:Bool),(th.map ThrD.enc)[v.toNat]? =some [.acU x,.acU y,.bool z]):=by
 rcases h with h|⟨j,u⟩
 .exact .inl h
 .exact .inr ⟨j,u,U3 j acN⟩
def XH(Q:R)(b:t8)(t:List UInt8)(ht:t.length<2^63)(hne:b.bs≠b.bt)(hne2:b.bs≠b.bn)(hne3:b.bl≠b.bt)(hq:∀p:LB,p.Ok t->∀L,cO L (b.hp t p)->Q (.agg (b.row p.tx)) L)(p0:LB)(h0:p0.Ok t)(L:SH)(hL:ax [.ptr b.bt 0 0,.ptr b.br 0 0,.ptr b.bs 0 0,.acU 3,.acU 0] L [.ptr b.bt 0 0,.ptr b.br 0 0,.ptr b.bs 0 0,.acU 3,.acU 0] (b.heap t p0)):
  W.loop (jU Q) [.ptr b.bt 0 0,.ptr b.br 0 0,.ptr b.bs 0 0,.acU 3,.acU 0] L:=by
 refine aL 3 (λk p=>([.ptr b.bt 0 0,.ptr b.br 0 0,.ptr b.bs 0 0,.acU 3,.acU k],b.heap t p)) (λk p=>p.Ok t) p0 h0 hL ?_;rintro k ⟨a,lk,tx,dn,th,ce,fu,cn⟩ hk H;obtain⟨bt,O,N,Y,bd,b4,bc,Z,S⟩:=b;have ha:=H.ha;have hlk:=H.lk;have hth:=H.th;have hcn:=H.cn;have lp6:=λp h L hL=>Z0 Q ⟨bt,O,N,Y,bd,b4,bc,Z,S⟩ t ht hne hq p h L hL
 dsimp only[t8.heap,t8.hp,t8.rest,t8.row]at *;refine vw ?_;rcases Nat.lt_or_ge k 3 with g1|g1
 .have hd:decide ((k:Int)<3)=true:=decide_eq_true acN;have hx:=aj (f:=LockD.enc) (show k<lk.length by omega);have hrd:=H.rd _ (LT (show k<lk.length by omega));have i1:IntKind.i64.wrap ((k:Int)+1)=((k+1:Nat):Int):=av g1 acN;clear hq hL lp6;generalize lk[k]'acN=l at *;obtain⟨lo,lr⟩:=l;rw[show LockD.enc ⟨lo,lr⟩=[.acU lo,.lst (lr.map aa)]from rfl]at hx;have rdS:∀(x:LockD),x.readers.length<=1->∀l∈lk.set k x,l.readers.length<=1:=λx hx l hl=>by
   rcases aca hl with h|rfl
   .exact H.rd l h
   .exact hx
  have D:∀(M:Nat) (L:SH),M<=t.length->cO L [(Y,⟨2,lk.map LockD.enc⟩),(O,⟨7,[dB]⟩),(N,⟨7,[[.sl Y 0 3,.acU tx,.sl bd 0 1,.sl b4 0 4,.sl bc 0 5,.sl Z 0 1,.sl S 0 4]]⟩),(bt,az t M),(bd,⟨1,dn.map au⟩),(b4,⟨3,th.map ThrD.enc⟩),(bc,⟨1,ce.map aa⟩),(Z,⟨1,fu.map aa⟩),(S,⟨1,cn.map aa⟩)]->
    ∃(j:Nat) (p:LB),k<j/\j<=3/\p.Ok t/\ax [.ptr bt 0 0,.ptr O 0 0,.ptr N 0 0,.acU 3,.acU ((k+1:Nat):Int)] L [.ptr bt 0 0,.ptr O 0 0,.ptr N 0 0,.acU 3,.acU j] [(Y,⟨2,p.lk.map LockD.enc⟩),(O,⟨7,[dB]⟩),(N,⟨7,[[.sl Y 0 3,.acU p.tx,.sl bd 0 1,.sl b4 0 4,.sl bc 0 5,.sl Z 0 1,.sl S 0 4]]⟩),(bt,az t p.a),(bd,⟨1,p.dn.map au⟩),(b4,⟨3,p.th.map ThrD.enc⟩),(bc,⟨1,p.ce.map aa⟩),(Z,⟨1,p.fu.map aa⟩),(S,⟨1,p.cn.map aa⟩)]:=λM L h1 hP=>
   ⟨k+1,⟨M,lk,tx,dn,th,ce,fu,cn⟩,acN,acN,⟨h1,H.lk,H.dn,H.th,H.ce,H.fu,H.cn,H.cd,H.ct,H.rd⟩,ax.pickE hP rfl rfl⟩
  have G:∀(M:Nat) (v:Int) (L:SH),M<=t.length->cO L [(Y,⟨2,(lk.map LockD.enc).set k [.acU v,.lst (lr.map aa)]⟩),(O,⟨7,[dB]⟩),(N,⟨7,[[.sl Y 0 3,.acU tx,.sl bd 0 1,.sl b4 0 4,.sl bc 0 5,.sl Z 0 1,.sl S 0 4]]⟩),(bt,az t M),(bd,⟨1,dn.map au⟩),(b4,⟨3,th.map ThrD.enc⟩),(bc,⟨1,ce.map aa⟩),(Z,⟨1,fu.map aa⟩),(S,⟨1,cn.map aa⟩)]->
    ∃(j:Nat) (p:LB),k<j/\j<=3/\p.Ok t/\ax [.ptr bt 0 0,.ptr O 0 0,.ptr N 0 0,.acU 3,.acU ((k+1:Nat):Int)] L [.ptr bt 0 0,.ptr O 0 0,.ptr N 0 0,.acU 3,.acU j] [(Y,⟨2,p.lk.map LockD.enc⟩),(O,⟨7,[dB]⟩),(N,⟨7,[[.sl Y 0 3,.acU p.tx,.sl bd 0 1,.sl b4 0 4,.sl bc 0 5,.sl Z 0 1,.sl S 0 4]]⟩),(bt,az t p.a),(bd,⟨1,p.dn.map au⟩),(b4,⟨3,p.th.map ThrD.enc⟩),(bc,⟨1,p.ce.map aa⟩),(Z,⟨1,p.fu.map aa⟩),(S,⟨1,p.cn.map aa⟩)]:=λM v L h1 hP=>
   ⟨k+1,⟨M,lk.set k ⟨v,lr⟩,tx,dn,th,ce,fu,cn⟩,acN,acN,⟨h1,by simpa using hlk,H.dn,H.th,H.ce,H.fu,H.cn,H.cd,H.ct,rdS _ hrd⟩,ax.pickE hP rfl (by rw[abT];rfl)⟩
  have Au:∀(M:Nat) (v:Int) (nb:Nat) (L:SH),M<=t.length->cO L ((nb,⟨1,[[.acU v]]⟩)::(Y,⟨2,(lk.map LockD.enc).set k [.acU lo,.sl nb 0 1]⟩)::[(O,⟨7,[dB]⟩),(N,⟨7,[[.sl Y 0 3,.acU tx,.sl bd 0 1,.sl b4 0 4,.sl bc 0 5,.sl Z 0 1,.sl S 0 4]]⟩),(bt,az t M),(bd,⟨1,dn.map au⟩),(b4,⟨3,th.map ThrD.enc⟩),(bc,⟨1,ce.map aa⟩),(Z,⟨1,fu.map aa⟩),(S,⟨1,cn.map aa⟩)])->
    ∃(j:Nat) (p:LB),k<j/\j<=3/\p.Ok t/\ax [.ptr bt 0 0,.ptr O 0 0,.ptr N 0 0,.acU 3,.acU ((k+1:Nat):Int)] L [.ptr bt 0 0,.ptr O 0 0,.ptr N 0 0,.acU 3,.acU j] [(Y,⟨2,p.lk.map LockD.enc⟩),(O,⟨7,[dB]⟩),(N,⟨7,[[.sl Y 0 3,.acU p.tx,.sl bd 0 1,.sl b4 0 4,.sl bc 0 5,.sl Z 0 1,.sl S 0 4]]⟩),(bt,az t p.a),(bd,⟨1,p.dn.map au⟩),(b4,⟨3,p.th.map ThrD.enc⟩),(bc,⟨1,p.ce.map aa⟩),(Z,⟨1,p.fu.map aa⟩),(S,⟨1,p.cn.map aa⟩)]:=λM v nb L h1 hP=>by
   refine⟨k+1,⟨M,lk.set k ⟨lo,[v]⟩,tx,dn,th,ce,fu,cn⟩,acN,acN,⟨h1,by simpa using hlk,H.dn,H.th,H.ce,H.fu,H.cn,H.cd,H.ct,rdS _ (Fd _)⟩,?_⟩;obtain⟨K0,hp⟩:=hP.perm;refine ax.rowV (K:=K0++[(nb,⟨1,[[.acU v]]⟩)]) (rows:=(lk.map LockD.enc).set k [.acU lo,.sl nb 0 1]) (by rw[abr];exact hp) (fy.refl _ _) acQ ?_;intro j r r' q1 q2;rw[abT]at q2;rw[abs]at q1 q2;by_cases hjk:k=j
   .rw[if_pos hjk]at q1 q2;split at q1
    .rename_i hlt;rw[if_pos hlt]at q2;cases q1;cases q2;exact .cons (.refl _) (.cons (Fz.sls (l:=[v]) (f:=aa) (size:=1) (aaY _ (.head _)) rfl acR rfl) .nil)
    .cases q1
   .rw[if_neg hjk]at q1 q2;rw[q1]at q2;cases q2;exact fy.refl _ _
  unfold dB at *
  repeat' (first|refine aw u0_ acN rp rfl ?_|refine cN ?_ acN|refine sx ?_|((with_reducible refine aN 93 ?_);(refine DT rp rp ht ha hcn acN (λv_ E hv_ B hb2_=>?_);rcases K8 (th:=th) (n:=4) hth hv_ with rfl|⟨u0_,u1_,x_,y_,z_,hrow_⟩))|refine dR rp hrow_ rfl ?_|((with_reducible refine aN 92 ?_);(refine jM ht acO rp (λr_ a_ hr_ u h2_ h3_=>?_)))|(with_reducible refine cy 92 ?_;refine rZ ht acO rp (λr_ a_ hr_ u h2_ h3_=>?_))|refine sb λnb_ hnb_=>?_|refine s2 ?_ ?_|intro)
  .exact D E _ B acT
  .exact D E _ B acT
  .exact Au a_ v_ nb_ _ u acT
  .exact D a_ _ u acT
  .exact G a_ v_ _ u acT
  .exact D a_ _ u acT
  .exact G a_ v_ _ u acT
  .exact D E _ B acT
  .exact G E v_ _ B acT
  .exact D E _ B acT
  .exact G E v_ _ B acT
 .have hd:decide ((k:Int)<3)=false:=decide_eq_false acN;have hdn:=H.dn;have hfu:=H.fu;clear hq hL
  match dn,hdn with
  |[d0],_=>
  match fu,hfu with
  |[f0],_=>
  unfold dB at *
  repeat' (first|refine cN ?_ acN|refine sy ?_|((with_reducible refine aN 93 ?_);(refine DT rp rp ht acO hcn acN (λv_ E hv_ B hb2_=>?_)))|((with_reducible refine aN 92 ?_);(refine jM ht acO rp (λr_ a_ hr_ u h2_ h3_=>?_)))|(with_reducible refine cy 92 ?_;refine rZ ht acO rp (λr_ a_ hr_ u h2_ h3_=>?_))|refine s2 ?_ ?_|intro)
  .exact lp6 ⟨a_,lk,v_,[true],th,ce,[(r_:Int)],cn⟩ ⟨u,H.lk,rfl,H.th,H.ce,rfl,H.cn,H.cd,H.ct,H.rd⟩ _ acT
  .exact lp6 ⟨a_,lk,v_,[d0],th,ce,[f0],cn⟩ ⟨u,H.lk,rfl,H.th,H.ce,rfl,H.cn,H.cd,H.ct,H.rd⟩ _ acT
  .exact lp6 ⟨a_,lk,tx,[true],th,ce,[(r_:Int)],cn⟩ ⟨u,H.lk,rfl,H.th,H.ce,rfl,H.cn,H.cd,H.ct,H.rd⟩ _ acT
  .exact lp6 ⟨a_,lk,tx,[d0],th,ce,[f0],cn⟩ ⟨u,H.lk,rfl,H.th,H.ce,rfl,H.cn,H.cd,H.ct,H.rd⟩ _ acT
def rG:RF:=nv (bQ Tryz.prog Tryz.f158 [(6,⟨[0,1,5],[],true,[]⟩)] [])
abbrev DV(a b:AV)(L:SH)(Q:R):Prop:=Pc rG 20 Q 0 [] [a,b] L
def pF(u j:AV)(L:SH)(Q:R)(h:DV u j L Q):ac Tryz.prog 158 [u,j] L Q:=
 fv rG Tryz.func158 h
def rH:RF:=nv (bQ Tryz.prog Tryz.f203 [(6,⟨[1,2,5],[],true,[]⟩)] [(0,[2])])
abbrev DW(a b:AV)(L:SH)(Q:R):Prop:=Pc rH 20 Q 0 [] [a,b] L
def AO(u j:AV)(L:SH)(Q:R)(h:DW u j L Q):ac Tryz.prog 203 [u,j] L Q:=
 fv rH Tryz.func203 h
def uf:RF:=nv (bQ Tryz.prog Tryz.f159 [(6,⟨[0,1,2,3,10],[],true,[]⟩)] [])
abbrev FP(a b c d:AV)(L:SH)(Q:R):Prop:=Pc uf 20 Q 0 [] [a,b,c,d] L
def DX(D B u j:AV)(L:SH)(Q:R)(h:FP D B u j L Q):ac Tryz.prog 159 [D,B,u,j] L Q:=
 fv uf Tryz.func159 h
def fQ:RF:=nv (bQ Tryz.prog Tryz.f124 [(42,⟨[1,2,3,6,7,8],[18],false,[]⟩),(60055,⟨[1,2,3,6,7,31,65],[18],false,[]⟩),(42037,⟨[1,2,3,6,7,31,39],[18],false,[]⟩),(2402,⟨[1,2,3,6],[18],false,[]⟩),(7502,⟨[1,2,3,9],[69],false,[]⟩),(69,⟨[1,2,3,9],[],true,[]⟩),(18,⟨[1,2,3,6],[],true,[]⟩)] [(0,[1]),(8,[7])])
abbrev DY(a:Kn):Vs->SH->Kn->Prop:=Lp fQ 16 q0 42 [a]
abbrev DZ(a:Kn)(b:SH)(c d e f:AV):Prop:=Pc fQ 18 q0 2402 [a] [c,e,f,d] b
abbrev D0(a:Kn)(b:SH)(c d e f:AV):Prop:=Pc fQ 17 q0 7502 [a] [d,f,c,e] b
abbrev D3(Q:R):Vs->SH->Kn->Prop:=Lp fQ 18 Q 69 []
abbrev FQ(a:AV)(L:SH)(Q:R):Prop:=Pc fQ 20 Q 0 [] [a] L
def D4(j:AV)(L:SH)(Q:R)(h:FQ j L Q):ac Tryz.prog 124 [j] L Q:=
 fv fQ Tryz.func124 h
def pG:RF:=nv (bQ Tryz.prog Tryz.f126 [] [])
abbrev AP(a b:AV)(L:SH)(Q:R):Prop:=Pc pG 20 Q 0 [] [a,b] L
def yZ(u j:AV)(L:SH)(Q:R)(h:AP u j L Q):ac Tryz.prog 126 [u,j] L Q:=
 fv pG Tryz.func126 h
def lZ:RF:=nv (bQ Tryz.prog Tryz.f186 [] [(0,[4])])
abbrev xr(a b c:AV)(L:SH)(Q:R):Prop:=Pc lZ 20 Q 0 [] [a,b,c] L
def uZ(B u j:AV)(L:SH)(Q:R)(h:xr B u j L Q):ac Tryz.prog 186 [B,u,j] L Q:=
 fv lZ Tryz.func186 h
def lg:RF:=nv (bQ Tryz.prog Tryz.f182 [] [(0,[3])])
abbrev u3(a b:AV)(L:SH)(Q:R):Prop:=Pc lg 20 Q 0 [] [a,b] L
def sV(u j:AV)(L:SH)(Q:R)(h:u3 u j L Q):ac Tryz.prog 182 [u,j] L Q:=
 fv lg Tryz.func182 h
def jy:RF:=nv (bQ Tryz.prog Tryz.f183 [] [(0,[3])])
abbrev rI(a b:AV)(L:SH)(Q:R):Prop:=Pc jy 20 Q 0 [] [a,b] L
def pU(u j:AV)(L:SH)(Q:R)(h:rI u j L Q):ac Tryz.prog 183 [u,j] L Q:=
 fv jy Tryz.func183 h
def lh:RF:=nv (bQ Tryz.prog Tryz.f184 [] [(0,[6])])
abbrev u5(a b c d e:AV)(L:SH)(Q:R):Prop:=Pc lh 20 Q 0 [] [a,b,c,d,e] L
def sW(E D B u j:AV)(L:SH)(Q:R)(h:u5 E D B u j L Q):ac Tryz.prog 184 [E,D,B,u,j] L Q:=
 fv lh Tryz.func184 h
def nU:RF:=nv (bQ Tryz.prog Tryz.f185 [(6,⟨[0,1,5],[],true,[]⟩)] [])
abbrev y7(a b:AV)(L:SH)(Q:R):Prop:=Pc nU 20 Q 0 [] [a,b] L
def xu(u j:AV)(L:SH)(Q:R)(h:y7 u j L Q):ac Tryz.prog 185 [u,j] L Q:=
 fv nU Tryz.func185 h
def nV:RF:=nv (bQ Tryz.prog Tryz.f160 [(30025,⟨[0,3,4,25,31],[],true,[]⟩)] [(0,[3])])
abbrev y8(a b:AV)(L:SH)(Q:R):Prop:=Pc nV 20 Q 0 [] [a,b] L
def xx(u j:AV)(L:SH)(Q:R)(h:y8 u j L Q):ac Tryz.prog 160 [u,j] L Q:=
 fv nV Tryz.func160 h
def l5:RF:=nv (bQ Tryz.prog Tryz.f125 [(3,⟨[0,1,4],[],true,[]⟩)] [])
abbrev xy(a b:AV)(L:SH)(Q:R):Prop:=Pc l5 20 Q 0 [] [a,b] L
def u6(u j:AV)(L:SH)(Q:R)(h:xy u j L Q):ac Tryz.prog 125 [u,j] L Q:=
 fv l5 Tryz.func125 h
def eM:RF:=nv (bQ Tryz.prog Tryz.f104 [(60,⟨[1,2,7,8,9,10,11,12,13,14],[48],false,[]⟩),(6902,⟨[1,2,7,8,9,11],[21],false,[]⟩),(48,⟨[1,2,7,8,9,10,11,12],[21],false,[]⟩),(2702,⟨[1,2,7,8,9],[21],false,[]⟩),(21,⟨[1,2,7,8,9],[],true,[]⟩)] [(0,[1])])
abbrev y9(a:Kn):Vs->SH->Kn->Prop:=Lp eM 16 q0 60 [a]
abbrev zb(a:Kn)(b:SH)(c d e f g h:AV):Prop:=Pc eM 16 q0 6902 [a] [f,g,c,h,e,d] b
abbrev zc(a:Kn):Vs->SH->Kn->Prop:=Lp eM 17 q0 48 [a]
abbrev zd(a:Kn)(b:SH)(c d e f g:AV):Prop:=Pc eM 18 q0 2702 [a] [d,g,c,f,e] b
abbrev AQ(a:AV)(L:SH)(Q:R):Prop:=Pc eM 20 Q 0 [] [a] L
def ze(j:AV)(L:SH)(Q:R)(h:AQ j L Q):ac Tryz.prog 104 [j] L Q:=
 fv eM Tryz.func104 h
def P1(l:List bZ)(s:bU)(E:l.length<2^62):aq Tryz.prog 158 [.lst (l.map bZ.enc),.str s] (.acU (iE l s)):=by
 refine pF _ _ _ _ ?_;refine vw ?_;refine eO l (λx=>decide (x.name=s)) (λi=>[.lst (l.map bZ.enc),.str s,.acU i]) E rfl (λi u G N j B D=>?_) (λi u G j B=>?_)
 all_goals refine vw ?_
 .have M:=aj (f:=bZ.enc) u
  repeat' (first|refine sy ?_|refine s2 (λh=>?_) λh=>?_|intro)
  .exact⟨by rw[iE,mR u j h],rfl⟩
  .exact D h
 .repeat' (first|refine sy ?_|refine s2 ?_ ?_|intro)
  exact⟨by rw[iE,gz j],rfl⟩
def GS(w:aF)(s:bU)(E:w.cells.length<2^62):aq Tryz.prog 203 [.agg w.enc,.str s] (.acU (wE w.cells s)):=by
 refine AO _ _ _ _ ?_;refine vw ?_;refine BN ?_;refine eO w.cells (λx=>decide (x.name=s)) (λi=>[.str s,.pptr [w.enc] 0 0,.acU i]) E rfl (λi u G N j B D=>?_) (λi u G j B=>?_)
 all_goals refine vw ?_
 .have M:=aj (f:=aU.enc) u
  repeat' (first|refine sy ?_|refine s2 (λh=>?_) λh=>?_|intro)
  .exact⟨by rw[wE,mR u j h],rfl⟩
  .exact D h
 .repeat' (first|refine sy ?_|refine s2 ?_ ?_|intro)
  exact⟨by rw[wE,gz j],rfl⟩
section
def iM(w:aF)(loc:List bU)(v:AV)(site next:Int):Blk:=⟨10,[[.lst (w.cells.map aU.enc),.lst (w.locks.map bZ.enc),.lst (w.conds.map cM.enc),.lst (w.futures.map ay),.lst (w.threads.map ay),.lst (w.sites.map cF.enc),.lst (loc.map ay),v,.acU site,.acU next]]⟩
def cb.at_(i:cb)(s:Int):cb:={i with site:=s}
theorem XU(bg:Nat)(w:aF)(loc:List bU)(o:Option Nat)(out:List cb)(site next:Int)(i:cb)(M:o=none->out=[])(N:out.length<2^30):
  ac Tryz.prog 126 [.ptr bg 0 0,.agg i.enc] ((bg,iM w loc (af o out.length) site next)::ab o 6 (out.map cb.enc)) λu K=>∃(v:AV) (b:Nat),u=v/\v=.tup []/\K=(bg,iM w loc (af (some b) (out.length+1)) site next)::ab (some b) 6 ((out++[i.at_ site]).map cb.enc):=by
 refine ac.fz (yZ _ _ _ _ ?_);refine vw ?_;generalize E:(λ(v:AV) (L:SH)=>∃D L2,ax [v] L [D] L2/\∃(v:AV) (b:Nat),D=v/\v=AV.tup []/\L2=(bg,iM w loc (af (some b) (out.length+1)) site next)::ab (some b) 6 ((out++[i.at_ site]).map cb.enc))=Q;have G:∀(b:Nat) (L:SH),cO L ((bg,iM w loc (af (some b) (out.length+1)) site next)::ab (some b) 6 (out.map cb.enc++[(i.at_ site).enc]))->Q (.tup []) L:=λb L h=>by subst E;refine⟨_,_,ax.pickE h rfl (R2:=(bg,iM w loc (af (some b) (out.length+1)) site next)::ab (some b) 6 ((out++[i.at_ site]).map cb.enc)) (by rw[ST];rfl),_,b,rfl,rfl,rfl⟩
 clear E;unfold iM at *
 repeat' (first|refine sx ?_|refine aM rp rp acQ (λe=>by first|simp[M e]) acP acQ acS acS acP (λj B=>?_)|refine sb λj B=>?_|refine s2 ?_ ?_|intro)
 cases i;exact G j _ (.one (.there _ (.there _ (.there _ (.here _)))) (.one (.here _) (.nil _)))
section
variable {bg:Nat} {w:aF} {loc:List bU} {o:Option Nat} {out:List cb} {site next:Int} {L L1 L2:SH}
theorem XV{i:cb}{KL:R}(B:dF bg (iM w loc (af o out.length) site next) L L1)(h2:eG o 6 (out.map cb.enc) L1 L2)(D:o=none->out=[])(u:out.length<2^30)
  (j:∀b:Nat,KL (.tup []) ((bg,iM w loc (af (some b) (out++[i.at_ site]).length) site next)::(L2++ab (some b) 6 ((out++[i.at_ site]).map cb.enc)))):W.callM Tryz.prog 126 [.ptr bg 0 0,.agg i.enc] L KL:=by
 refine oW (M:=L2) (XU bg w loc o out site next i D u) (B.perm.trans (h2.perm.cons _)) ?_;rintro _ _ ⟨v,b,rfl,rfl,rfl⟩;refine⟨_,.cons _ aar,?_⟩;have:=j b;rw[aal]at this;exact this
end
end
mutual
def M5(t:Nat):Nat->ae->List cF
 |n,.mk _ line _ _ _ _ body els=>⟨t,n,line⟩::(sitL t (n+1) body++sitL t (n+1+ae.cnts body) els)
def sitL(t:Nat):Nat->List ae->List cF
 |_,[]=>[]
 |n,x::l=>M5 t n x++sitL t (n+1+x.cnt) l
end
def Vc(t n:Nat)(x:ae):M5 t n x=⟨t,n,x.line⟩::(sitL t (n+1) x.body++sitL t (n+1+ae.cnts x.body) x.els):=by cases x;rw[M5];rfl
mutual
def SY(t:Nat):∀(n:Nat) (x:ae),(M5 t n x).length=1+x.cnt
 |n,.mk a b c d e f body els=>by rw[M5];simp only[abi,aal,sitL_len t _ body,sitL_len t _ els,ae.cnt];omega
def sitL_len(t:Nat):∀(n:Nat) (l:List ae),(sitL t n l).length=ae.cnts l
 |n,[]=>rfl
 |n,x::l=>by rw[sitL];simp only[aal,SY t _ x,sitL_len t _ l,ae.cnts]
end
def ae.cnts_append:∀l m:List ae,ae.cnts (l++m)=ae.cnts l+ae.cnts m
 |[],m=>by simp[ae.cnts]
 |x::l,m=>by simp only[abX,ae.cnts,ae.cnts_append l m];omega
def zQ(t:Nat):∀(n:Nat) (l m:List ae),sitL t n (l++m)=sitL t n l++sitL t (n+ae.cnts l) m
 |n,[],m=>by simp[sitL,ae.cnts]
 | n,x::l,m=>by simp only[abX,sitL,zQ t _ l m,ae.cnts,abr];rw[show n+1+x.cnt+ae.cnts l=n+(1+x.cnt+ae.cnts l) by omega]
def aZ.celW(d:aZ):List aU:=(List.range (max d.size 1).toNat).map λk=>⟨d.name,(k:Nat),d.size,decide (d.kind=2),d.init⟩
def cR(w:aF)(d:aZ):aF:=
 if d.kind=1\/d.kind=2 then {w with cells:=w.cells++d.celW} else
 if d.kind=3\/d.kind=4 then {w with locks:=w.locks++[⟨d.name,decide (d.kind=4)⟩]} else
 if d.kind=5 then {w with conds:=w.conds++[⟨d.name,iE w.locks d.on⟩]} else {w with futures:=w.futures++[d.name]}
def aF.zero:aF:=⟨[],[],[],[],[],[]⟩
def fa(w:aF)(t:am):aF:={w with threads:=w.threads++[t.name],sites:=w.sites++sitL w.threads.length 0 t.body}
def mE(p:cJ):aF:=p.threads.foldl fa (p.decls.foldl cR aF.zero)
def u7{α β:Type}{f:β->α->β}{l:List α}{a:β}{i:Nat}(h:i<l.length):(l.take (i+1)).foldl f a=f ((l.take i).foldl f a) l[i]:=by rw[Fn h,acL];rfl
def Z5(t:Nat)(l:List ae):Prop:=∀(o:Option Nat) (out:List cF) (n:Nat),(o=none->out=[])->out.length+ae.cnts l<2^30->n+ae.cnts l<2^30->
 ac Tryz.prog 159 [af o out.length,.acU t,.acU n,.lst (l.map ae.enc)] (ab o 3 (out.map cF.enc)) λu K=>∃(v:AV) (o':Option Nat),u=v/\v=.tup [af o' (out++sitL t n l).length,.acU ((n+ae.cnts l:Nat):Int)]/\(o'=none->out++sitL t n l=[])/\K=ab o' 3 ((out++sitL t n l).map cF.enc)
def M6{t n k:Nat}{l:List ae}{o:Option Nat}{out:List cF}{rows:List (List AV)}{L L2:SH}{KL:R}(h:Z5 t l)(h2:eG o 3 rows L L2)(u:rows=out.map cF.enc)(G:k=out.length)(O:o=none->out=[])(E:out.length+ae.cnts l<2^30)(D:n+ae.cnts l<2^30)
  (B:∀j:Option Nat,(j=none->out++sitL t n l=[])->KL (.tup [af j (out++sitL t n l).length,.acU ((n+ae.cnts l:Nat):Int)]) (L2++ab j 3 ((out++sitL t n l).map cF.enc))):W.callM Tryz.prog 159 [af o k,.acU t,.acU n,.lst (l.map ae.enc)] L KL:=by
 subst u G;refine oW (M:=L2) (h o out n O E D) h2.perm ?_;rintro _ _ ⟨v,j,rfl,rfl,N,rfl⟩;exact⟨_,aar,B j N⟩
def SZ(t:Nat):∀(k:Nat) (l:List ae),ae.wts l<=k->k<2^40->Z5 t l:=by
 intro k
 induction k using Nat.strongRecOn with
 |_ k Z=>
  intro l hl hk o out n h0 h1 h2;have hlen:=ae.wts_len l;refine ac.fz (DX _ _ _ _ _ _ ?_);refine vw ?_;generalize hQ:(λ(v:AV) (L:SH)=>∃v2 L2,ax [v] L [v2] L2/\∃(v:AV) (u:Option Nat),_)=Q;have fin:∀u:Option Nat,(u=none->out++sitL t n l=[])->Q (.tup [af u (out++sitL t n l).length,.acU ((n+ae.cnts l:Nat):Int)]) (ab u 3 ((out++sitL t n l).map cF.enc)):=λu h=>by subst hQ;exact⟨_,_,.refl _ _,_,u,rfl,rfl,h,rfl⟩
  clear hQ;refine aL l.length (λi u=>([af u (out++sitL t n (l.take i)).length,.acU t,.acU ((n+ae.cnts (l.take i):Nat):Int),.lst (l.map ae.enc),.acU i],ab u 3 ((out++sitL t n (l.take i)).map cF.enc))) (λi u=>u=none->out++sitL t n (l.take i)=[]) o (by simpa[sitL]using h0) (by simpa[sitL,ae.cnts]using ax.refl _ _) ?_;rintro i o1 hi hG;dsimp only;refine vw ?_;generalize G:(λ(vs':List AV) (M:SH)=>∃j u,i<j/\j<=l.length/\_)=nx;rcases Nat.lt_or_ge i l.length with D|D
  .have hd:=aS D;have hi1:=av D acN;have hx:=Gb D;have hwi:=ae.wts_get l i D;have hwe:=(l[i]).wt_eq;have hce:=(l[i]).cnt_eq;have c1:=Z _ acN l[i].body (Fd _) acN;have c2:=Z _ acN l[i].els (Fd _) acN;have e1:l=l.take i++(l[i]::l.drop (i+1)):=by rw[List.getElem_cons_drop,acr]
   have e2:ae.cnts l=ae.cnts (l.take i)+(1+l[i].cnt+ae.cnts (l.drop (i+1))):=by
    conv=>lhs;rw[e1]
    rw[ae.cnts_append];rfl
   have e3:sitL t n (l.take (i+1))=sitL t n (l.take i)++M5 t (n+ae.cnts (l.take i)) l[i]:=by rw[Fn D,zQ];simp[sitL]
   have e4:ae.cnts (l.take (i+1))=ae.cnts (l.take i)+(1+l[i].cnt):=by rw[Fn D,ae.cnts_append];simp[ae.cnts]
   have hn:∀(u:Option Nat) (B:List cF) (m:Nat),B=out++sitL t n (l.take i)++M5 t (n+ae.cnts (l.take i)) l[i]->m=n+ae.cnts (l.take i)+(1+l[i].cnt)->(u=none->B=[])->∀M:SH,cO M (ab u 3 (B.map cF.enc))->nx [af u B.length,.acU t,.acU (m:Nat),.lst (l.map ae.enc),.acU ((i+1:Nat):Int)] M:=by
    intro u B m S q2 q3 M q4;subst G;refine⟨i+1,u,acN,acN,?_,?_⟩
    .rw[e3,<-List.append_assoc,<-S];exact q3
    .rw[e3,<-List.append_assoc,<-S,e4,<-Nat.add_assoc,<-q2];exact .pick q4 rfl
   clear G;have hlo:(out++sitL t n (l.take i)).length=out.length+ae.cnts (l.take i):=by rw[aal,sitL_len]
   generalize out++sitL t n (l.take i)=OUT at *;generalize hN:n+ae.cnts (l.take i)=N at *;generalize l[i]=x at *;have a1:IntKind.i64.wrap ((N:Int)+1)=((N+1:Nat):Int):=by rw[abg _ acN];omega
   have O:o1=none->OUT.map cF.enc=[]:=λe=>by rw[hG e];rfl
   repeat' (first|refine sy ?_|refine aM rp rp acQ (λe=>by first|simp[O e]) acP acQ acS acS acP (λnb_ hnb_=>?_)|((with_reducible refine aN 159 ?_);(refine M6 c1 (o:=some _) (out:=OUT++[⟨t,N,x.line⟩]) rp (by rw[List.map_append];rfl) acQ nofun acS acN (λY E=>?_);dsimp only[List.cons_append,List.nil_append]))|((with_reducible refine aN 159 ?_);(refine M6 c2 rp rfl rfl E (by simp[sitL_len];omega) acN (λY E=>?_);dsimp only[List.cons_append,List.nil_append]))|refine s2 ?_ ?_|intro)
   exact hn Y _ _ (by simp[Vc,abr]) acN E _ (.slotl rp)
  .have hd:=aW D;have:i=l.length:=by omega
   subst this;rw[acx]at *
   repeat' (first|refine sy ?_|refine s2 ?_ ?_|intro)
   exact fin _ hG
