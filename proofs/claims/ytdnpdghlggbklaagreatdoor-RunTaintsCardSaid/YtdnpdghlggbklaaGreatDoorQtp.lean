/- A part of the proof; the statement is proved in the last part. -/
import Derived.Test.YtdnpdghlggbklaaGreatDoorQto
set_option linter.unusedSimpArgs false
set_option linter.unusedVariables false
namespace Go.Proofs.YtdnpdghlggbklaaGreatDoor.Am
section
set_option maxRecDepth 100000
set_option maxHeartbeats 2000000
def aY.zero:aY:=⟨0,0,0,0,0,[],[]⟩
def Nf(e:Option aY):AV:=match e with
 |some e=>.tup [.agg e.enc,.bool true]
 |none=>.tup [.agg aY.zero.enc,.bool false]
def FA(c:hY):Prop:=∀i∈c.ins,1≤i.op∧i.op≤28∧∀r∈cf i,0≤r∧r<c.regs
theorem oo{α:Type}{f:α→List AV}{l:List α}{i:Int}{d:α}(h:inB i l.length=true):(l.map f)[i.toNat]? =some (f (l.getD i.toNat d)):=by
 obtain⟨h1,h2⟩:=ax.1 h;have:i.toNat<l.length:=by omega
 simp[this]
theorem jq{α:Type}{l:List α}{i:Int}{d:α}(h:inB i l.length=true):l.getD i.toNat d∈l:=by
 obtain⟨h1,h2⟩:=ax.1 h;have:i.toNat<l.length:=by omega
 simp[this]
theorem UK{op:Int}(h1:1≤op)(h2:op≤28):(dI.map (AV.ZO ·))[0+op.toNat*1]? =some (AV.ZO (ij op)):=by rcases ops op h1 h2 with rfl|rfl|rfl|rfl|rfl|rfl|rfl|rfl|rfl|rfl|rfl|rfl|rfl|rfl|rfl|rfl|rfl|rfl|rfl|rfl|rfl|rfl|rfl|rfl|rfl|rfl|rfl|rfl<;>rfl
theorem Se(c:bB)(s:dw)(t:Int)(hi:∀x∈c.ts,FA x)(hs:∀x∈s.threads,∀r,(x.tnt r).length*8≤140737488355328):az Tryz.prog 26 [.agg c.enc,.agg s.enc,.ZO t] (Nf (eF c s t)):=by
 refine af.fz (Fx _ _ _ _ _ ?_);unfold tR;generalize hQ:(λ(v:AV) (L:SH)=>∃v2 L2,aG [v] L [v2] L2∧v2=Nf (eF c s t)∧L2=[])=Q;have no:iQ c s t=false→∀L,Q (.tup [.agg [.ZO 0,.ZO 0,.ZO 0,.ZO 0,.ZO 0,.nils,.nils],.bool false]) L:=λh L=>by subst hQ;exact⟨_,[],aG.all (Fz.tups (.cons (Fz.aggs (m:=aY.zero.enc) (by exact fl)) (.cons (.refl _) .nil))),by rw[eF,h];rfl,rfl⟩
 have non:eF c s t=none→∀L,Q (.tup [.agg [.ZO 0,.ZO 0,.ZO 0,.ZO 0,.ZO 0,.nils,.nils],.bool false]) L:=λh L=>by subst hQ;exact⟨_,[],aG.all (Fz.tups (.cons (Fz.aggs (m:=aY.zero.enc) (by exact fl)) (.cons (.refl _) .nil))),by rw[h];rfl,rfl⟩
 have yes:∀e v,eF c s t=some e→(∀K,iV K v e.enc)→∀L,Q (.tup [.agg v,.bool true]) L:=λe v h hv L=>by subst hQ;exact⟨_,[],aG.all (Fz.tups (.cons (Fz.aggs (hv _)) (.cons (.refl _) .nil))),by rw[h];rfl,rfl⟩
 clear hQ;by_cases h0:inB t c.ts.length=true∧inB t s.threads.length=true∧inB t s.sync.threads.length=true
 ·obtain⟨i1,i2,i3⟩:=h0;have x1:(c.ts.map hY.enc)[t.toNat]? =some (am c t).enc:=oo i1;have x2:(s.threads.map aH.enc)[t.toNat]? =some (aI s t).enc:=oo i2;have x3:(s.sync.threads.map ThrD.enc)[t.toNat]? =some (aE s.sync t).enc:=oo i3;have ok1:FA (am c t):=hi _ (jq i1);have hs1:=hs _ (jq (d:=aH.zero) i2);rw[show s.threads.getD t.toNat aH.zero=aI s t from rfl]at hs1;have hr:iQ c s t=(inB (aI s t).pc (am c t).ins.length&&decide (((aI s t).regs.length:Int)=(am c t).regs)&&decide (((aI s t).taint.length:Int)=(am c t).regs)):=by simp only[iQ,i1,i2,i3,Bool.true_and]
  have i1':=ax.1 i1;have i2':=ax.1 i2;have i3':=ax.1 i3;have d1:decide (t<0)=false:=decide_eq_false ZJ;have d2:decide (t≥c.ts.length)=false:=decide_eq_false ZJ;have d3:decide (t≥s.threads.length)=false:=decide_eq_false ZJ;have d4:decide (t≥s.sync.threads.length)=false:=decide_eq_false ZJ;clear i1 i2 i3;unfold bB.enc dw.enc;by_cases hk:iQ c s t=true
  ·have hk2:=hk;rw[hr]at hk2;simp only[Yl,decide_eq_true_eq]at hk2;obtain⟨⟨j1,j2⟩,j3⟩:=hk2;have x4:((am c t).ins.map bq.enc)[(aI s t).pc.toNat]? =some (aT (am c t) (aI s t).pc).enc:=dU j1;have j1':=ax.1 j1;have d5:decide ((aI s t).pc<0)=false:=decide_eq_false ZJ;have d6:decide ((aI s t).pc≥(am c t).ins.length)=false:=decide_eq_false ZJ;have d7:decide (((aI s t).regs.length:Int)≠(am c t).regs)=false:=decide_eq_false (by simpa using j2);have d8:decide (((aI s t).taint.length:Int)≠(am c t).regs)=false:=decide_eq_false (by simpa using j3);obtain⟨o1,o2,o3⟩:=ok1 _ (jq (d:=default) j1);rw[show(am c t).ins.getD (aI s t).pc.toNat default=aT (am c t) (aI s t).pc from rfl]at o1 o2 o3;have hp:eF c s t=(if(aE s.sync t).status=1 then some ⟨t,1,-1,0,-1,[],[]⟩
    else if(aE s.sync t).status=4 then some ⟨t,17,(aE s.sync t).cond,0,(aT (am c t) (aI s t).pc).site,[],[]⟩
    else if(aE s.sync t).status=2 then(if ij (aT (am c t) (aI s t).pc).op≠0 then some (cm (aT (am c t) (aI s t).pc) (aI s t) t)else none)
    else none):=by rw[eF,if_pos hk]
   rw[hp]at yes non;have hin:=Qk (aT (am c t) (aI s t).pc) (aI s t) t o1 o2 (λr hr2=>by have:=o3 r hr2;omega) ZJ hs1;clear hp hr hk no hs hi j1 j2 j3 ok1 hs1 o3;have kd:=UK o1 o2;have h29:(aT (am c t) (aI s t).pc).op.toNat<29:=by omega
   have h00:0≤(aT (am c t) (aI s t).pc).op:=by omega
   generalize aT (am c t) (aI s t).pc=i at *;generalize am c t=ct at *;generalize aI s t=ts at *;generalize aE s.sync t=th at *;obtain⟨op,ia,ib,ic,m,site⟩:=i;rw[show bq.enc ⟨op,ia,ib,ic,m,site⟩=[.ZO op,.ZO ia,.ZO ib,.ZO ic,.ZO m,.ZO site]from rfl]at *;dsimp only at *;unfold hY.enc aH.enc ThrD.enc at *
   repeat' (first|refine st ?_|refine Ev h00 h29 ?_|refine Et rfl kd ?_|(refine pf 53 ?_;refine pm (hin) ?_)|refine sb λnb_ hnb_=>?_|refine s2 (λh=>?_) λh=>?_|fail)
   ·exact yes _ _ (if_pos (by simpa using ‹decide (th.status=1)=true›)) (λK=>by exact fl) _
   ·exact yes _ _ (by rw[if_neg (by simpa using ‹decide (th.status=1)=false›),if_pos (by simpa using ‹decide (th.status=4)=true›)]) (λK=>by exact fl) _
   ·refine yes _ _ (by rw[if_neg (by simpa using ‹decide (th.status=1)=false›),if_neg (by simpa using ‹decide (th.status=4)=false›),if_pos (by simpa using ‹decide (th.status=2)=true›),if_pos (by simp_all)]) (λK=>?_) _;exact fl
   ·refine non ?_ _;rw[if_neg (by simpa using ‹decide (th.status=1)=false›),if_neg (by simpa using ‹decide (th.status=4)=false›),if_pos (by simpa using ‹decide (th.status=2)=true›),if_neg (by simp_all)]
   ·refine non ?_ _;rw[if_neg (by simpa using ‹decide (th.status=1)=false›),if_neg (by simpa using ‹decide (th.status=4)=false›),if_neg (by simpa using ‹decide (th.status=2)=false›)]
  ·have hz:=no (by simpa using hk);rw[hr]at hk;generalize am c t=ct at *;generalize aI s t=ts at *;generalize aE s.sync t=th at *;unfold hY.enc aH.enc ThrD.enc at *
   repeat' (first|refine st ?_|refine sb λnb_ hnb_=>?_|refine s2 (λh=>?_) λh=>?_|fail)
   all_goals first
    |exact hz _
    |(exfalso;simp_all[inB]<;>omega)
 ·have hn:iQ c s t=false:=by unfold iQ;simp only[Bool.and_eq_false_iff];simp only[not_and,Bool.not_eq_true]at h0;cases h1:inB t c.ts.length<;>cases h2:inB t s.threads.length<;>simp_all
  have hz:=no hn;unfold bB.enc dw.enc
  repeat' (first|refine st ?_|refine sb λnb_ hnb_=>?_|refine s2 (λh=>?_) λh=>?_|fail)
  all_goals first
   |exact hz _
   |(exfalso;simp_all[inB]<;>omega)
end
section
set_option maxRecDepth 100000
set_option maxHeartbeats 2000000
set_option linter.unusedSimpArgs false
set_option linter.unusedSectionVars false
theorem qW{b bX i k n by_:Nat}{rows m:List (List AV)}{L L':SH}{KL:AV→SH→Prop}(hX:(bX,(⟨n,m⟩:Blk))∈L)(hd:eP b ⟨n,rows⟩ L L')(hr:rows.length=i)(hk:k=m.length)(h2:2*(i+m.length)*by_≤2^48)(h3:2*(i+m.length)≤2^62)(h4:(m.all λr=>r.all AV.one)=true)
  (h:∀b',b'∉L.names→KL (.sl b' 0 (i+m.length)) ((b',⟨n,rows++m⟩)::L')):W.append n by_ (.sl b 0 i) (.sl bX 0 k) L KL:=by
 subst hk;subst hr;exact nJ (y:=⟨n,rows⟩) (l:=rows) hd.mem' rfl ZM ZM (kP hX rfl rfl) h2 h3 h4 hd (λb' hb=>h b' hb)
theorem Tk(pc ev:Int)(g:AV)(t:List (List Int))(h1:t.length≤2^30)(h3:∀l∈t,l.length≤2^30)(x1 x2 x4 x5 x6:AV)(b bt:Nat)(R:SH)(n37:W.Kn)
  (hend:∀b',fe n37 ((b',⟨1,t.map cz⟩)::(b,⟨4,[[.ZO pc,g,.sl b' 0 t.length,.ZO ev]]⟩)::R) x2 (.ptr b 0 0) x6 x1 x4 x5) :
  W.loop (ik n37) [x1,x2,.ptr b 0 0,x4,x5,x6,.lst (t.map cz),.ZO t.length,.ZO (0:Nat)] ((bt,⟨1,[]⟩)::(b,⟨4,[[.ZO pc,g,.sl bt 0 0,.ZO ev]]⟩)::R):=by
 refine bW t.length (λk (b':Nat)=>([x1,x2,.ptr b 0 0,x4,x5,x6,.lst (t.map cz),.ZO t.length,.ZO k],(b',⟨1,(t.take k).map cz⟩)::(b,⟨4,[[.ZO pc,g,.sl b' 0 k,.ZO ev]]⟩)::R)) (λ_ _=>True) bt trivial (.refl _ _) ?_;intro k b' hk _;dsimp only;unfold ik;rcases Nat.lt_or_ge k t.length with g1|g1
 ·have hd:=bE g1;have hx:=ay (f:=cz) g1;have hrk:(t[k]).length*8≤140737488355328:=by have:=h3 _ (Yr g1);omega
  repeat' (first|refine st ?_|(refine pf 81 ?_;refine pm (cW _ hrk) ?_)|refine qW rp rp (by simp;omega) rfl (by simp;omega) (by simp;omega) rfl (λnb_ hnb_=>?_)|refine sb λnb_ hnb_=>?_|refine s2 (λh=>?_) λh=>?_|fail)
  refine⟨k+1,nb_,ZJ,ZJ,trivial,?_⟩;rw[aA g1 ZJ,Yd g1,Yc];exact aG.forget (K:=[(_,_)]) (List.Perm.swap _ _ _)
 ·have hd:=bI g1;have hk0:k=t.length:=by omega
  subst hk0;have:=hend b';rw[YL (X7 _)]
  repeat' (first|exact this|refine st ?_|refine sb λnb_ hnb_=>?_|refine s2 (λh=>?_) λh=>?_|fail)
def GX(q:Nat)(o:Option Nat)(tb:Nat)(j:Nat)(s:aH):List AV:=if j=q then [.ZO s.pc,aS o s.regs.length,.sl tb 0 s.taint.length,.ZO s.ev]else s.enc
def jc(q:Nat)(o:Option Nat)(tb:Nat)(l:List aH):List (List AV):=l.zipIdx.map λp=>GX q o tb p.2 p.1
theorem dh(q:Nat)(o:Option Nat)(tb:Nat)(l:List aH):(jc q o tb l).length=l.length:=by simp[jc]
theorem zg(q:Nat)(o:Option Nat)(tb:Nat)(l:List aH)(j:Nat)(hj:j<l.length):(jc q o tb l)[j]? =some (GX q o tb j l[j]):=by simp[jc,hj]
theorem FB(q:Nat)(o o':Option Nat)(tb tb':Nat)(l:List aH)(k:Nat)(hk:k<l.length)(h:k≤q∨(o=o'∧tb=tb')):(jc q o' tb' l).take (k+1)=(jc q o tb l).take k++[GX q o' tb' k l[k]]:=by
 apply Zh;intro j;rcases Nat.lt_trichotomy j k with hj|hj|hj
 ·rw[Yp (by simp[dh];omega),YG hj,YG ZJ,zg _ _ _ _ _ ZJ,zg _ _ _ _ _ ZJ];rcases h with h|⟨rfl,rfl⟩
  ·simp[GX,show j≠q by omega]
  ·rfl
 ·subst hj;rw[YG ZJ,zg _ _ _ _ _ hk,Yh (by simp[dh];omega)];simp[dh,YX (Nat.le_of_lt hk)]
 ·rw[X8 (by simp;omega),X8 (by simp[dh];omega)]
def qX(q:Nat)(o:Option Nat)(tb:Nat)(l:List aH)(k:Nat):SH:=if q<k then ae o 1 ((l.getD q aH.zero).regs.map aj)++[(tb,⟨1,(l.getD q aH.zero).taint.map cz⟩)]else []
structure UL(s:dw)(q:Nat)(v:AV)(L:SH):Prop where
 ex:∃(oc of:Option Nat) (bt:Nat) (o:Option Nat) (tb:Nat),v=.agg [.nils,.ZO 0,.nils,.nils,aS oc s.cells.length,aS of s.futures.length,.sl bt 0 s.threads.length]∧
  L=(bt,⟨4,jc q o tb s.threads⟩)::(qX q o tb s.threads s.threads.length++(ae oc 1 (s.cells.map aj)++ae of 1 (s.futures.map aj)))∧(oc=none→s.cells=[])∧(of=none→s.futures=[])∧(o=none→q<s.threads.length→(s.threads.getD q aH.zero).regs=[])
def bT:List AV:=[.nils,.ZO 0,.nils,.nils,.nils,.nils,.nils]
theorem Sf(l:List aH)(q b1 b2 bt:Nat)(x y:AV)(hx:x=.lst []∨∃b n,x=.sl b 0 n)(hy:y=.lst []∨∃b n,y=.sl b 0 n)(E L0:SH)(hL0:L0.Perm ((bt,⟨4,[]⟩)::(b2,⟨7,[[.nils,.ZO 0,.nils,.nils,x,y,.sl bt 0 0]]⟩)::(b1,⟨7,[bT]⟩)::E))(h1:l.length≤2^30)(hr:∀s∈l,s.regs.length<2^40∧s.taint.length≤2^30∧∀r∈s.taint,r.length≤2^30)(Q:R)
  (hend:∀(o:Option Nat) (tb bt:Nat) (z:List AV),(o=none→q<l.length→(l.getD q aH.zero).regs=[])→Q (.agg [.nils,.ZO 0,.nils,.nils,x,y,.sl bt 0 l.length]) ((bt,⟨4,jc q o tb l⟩)::(b2,⟨7,[[.nils,.ZO 0,.nils,.nils,x,y,.sl bt 0 l.length]]⟩)::(b1,⟨7,[z]⟩)::(qX q o tb l l.length++E))) :
  W.loop (ff Q) [.ptr b1 0 0,.ptr b2 0 0,.lst (l.map aH.enc),.ZO l.length,.ZO (0:Nat)] L0:=by
 refine bW l.length (λk (p:Nat×Option Nat×Nat)=>([.ptr b1 0 0,.ptr b2 0 0,.lst (l.map aH.enc),.ZO l.length,.ZO k],(p.1,⟨4,(jc q p.2.1 p.2.2 l).take k⟩)::(b2,⟨7,[[.nils,.ZO 0,.nils,.nils,x,y,.sl p.1 0 k]]⟩)::(b1,⟨7,[bT]⟩)::(qX q p.2.1 p.2.2 l k++E))) (λk p=>p.2.1=none→q<k→(l.getD q aH.zero).regs=[]) (bt,none,0) (λ_ h=>by omega) (aG.forget (K:=[]) (by simpa[qX]using hL0)) ?_;rintro k ⟨bt,o,tb⟩ hk ho;dsimp only at ho ⊢;unfold ff;rcases Nat.lt_or_ge k l.length with g1|g1
 ·have hd:=bE g1;have hxx:=ay (f:=aH.enc) g1;obtain⟨r1,r2,r3⟩:=hr _ (Yr g1);generalize hT:qX q o tb l k++E=T;clear hx hy
  repeat' (first|refine st ?_|refine sb λnb_ hnb_=>?_|fail)
  refine Il (rx _ ZJ) (by simp[rm,rz,W.free,aa]) ?_;rintro v K ⟨o',rfl,rfl,ho'⟩;unfold mI;have fin:∀(ka kb nb b':Nat) (xa xb:Blk) (L:SH),EC L ((ka,xa)::(kb,xb)::(ae o' 1 ((l[k]).regs.map aj)++[(b',⟨1,(l[k]).taint.map cz⟩)])) ((nb,⟨4,(jc q o tb l).take k++[[.ZO (l[k]).pc,aS o' (l[k]).regs.length,.sl b' 0 (l[k]).taint.length,.ZO (l[k]).ev]]⟩)::(b2,⟨7,[[.nils,.ZO 0,.nils,.nils,x,y,.sl nb 0 (k+1)]]⟩)::(b1,⟨7,[bT]⟩)::T)→
    ∃(j:Nat) (p:Nat×Option Nat×Nat),k<j∧j≤l.length∧(p.2.1=none→q<j→(l.getD q aH.zero).regs=[])∧aG [.ptr b1 0 0,.ptr b2 0 0,.lst (l.map aH.enc),.ZO l.length,.ZO (IntKind.i64.wrap ((k:Int)+1))] L
     [.ptr b1 0 0,.ptr b2 0 0,.lst (l.map aH.enc),.ZO l.length,.ZO j] ((p.1,⟨4,(jc q p.2.1 p.2.2 l).take j⟩)::(b2,⟨7,[[.nils,.ZO 0,.nils,.nils,x,y,.sl p.1 0 j]]⟩)::(b1,⟨7,[bT]⟩)::(qX q p.2.1 p.2.2 l j++E)):=by
   intro ka kb nb b' xa xb L h;have hp:=h.perm.trans YD;subst hT;rw[aA g1 ZJ];by_cases hkq:k=q
   ·subst hkq;refine⟨k+1,(nb,o',b'),ZJ,ZJ,λe _=>by simpa[List.getD,g1]using ho' e,?_⟩;dsimp only;rw[FB k o o' tb b' l k g1 (.inl (Nat.le_refl _))];have e1:qX k o tb l k=[]:=by simp[qX]
    have e2:qX k o' b' l (k+1)=ae o' 1 ((l[k]).regs.map aj)++[(b',⟨1,(l[k]).taint.map cz⟩)]:=by simp[qX,List.getD,g1]
    have e3:GX k o' b' k l[k]=[.ZO (l[k]).pc,aS o' (l[k]).regs.length,.sl b' 0 (l[k]).taint.length,.ZO (l[k]).ev]:=by simp[GX]
    rw[e1]at hp;rw[e2,e3];refine aG.forget (K:=[(ka,xa),(kb,xb)]) (hp.trans ?_);refine List.Perm.append_left [(ka,xa),(kb,xb)] ?_;exact List.perm_append_comm_assoc _ [_,_,_] E
   ·refine⟨k+1,(nb,o,tb),ZJ,ZJ,λe hq=>ho e ZJ,?_⟩;dsimp only;have e1:qX q o tb l (k+1)=qX q o tb l k:=by
     by_cases hq:q<k
     ·simp[qX,hq,show q<k+1 by omega]
     ·simp[qX,hq,show¬q<k+1 by omega]
    rw[e1,FB q o o tb tb l k g1 (.inr ⟨rfl,rfl⟩)];refine aG.row hp ZM ?_;intro j r r' q1 q2;rcases X9 j ((jc q o tb l).take k).length with hj|hj
    ·rw[Yp hj]at q1 q2;rw[q1]at q2;cases q2;exact iV.refl _ _
    ·rw[Yh hj]at q1 q2;rcases hm:j-((jc q o tb l).take k).length with _|m
     ·rw[hm]at q1 q2;cases q1;cases q2;rw[show GX q o tb k l[k]=(l[k]).enc by simp[GX,hkq]];refine .cons (.refl _) (.cons ?_ (.cons ?_ (.cons (.refl _) .nil)))
      ·exact mA rfl ho' λb e=>by subst e;simp[ae]
      ·exact mA (o:=some b') rfl nofun λb e=>by cases e;simp
     ·rw[hm]at q1;simp at q1
  cases o' with
  |none=>
   dsimp only[aS,ae,List.nil_append]
   repeat' (first|refine st ?_|refine sb λnb_ hnb_=>?_|fail)
   refine gr (i:=0) (j:=l[k].taint.length) ZJ ZJ ZJ (λbt2 _=>?_)
   repeat' (first|refine st ?_|refine sb λnb_ hnb_=>?_|fail)
   refine Tk l[k].pc l[k].ev _ l[k].taint r2 r3 _ _ _ _ _ _ bt2 _ _ (λb'=>?_);unfold fe
   repeat' (first|refine st ?_|refine qW rp rp (by simp[dh];omega) rfl (by simp[dh];omega) (by simp[dh];omega) rfl (λnb_ hnb_=>?_)|refine sb λnb_ hnb_=>?_|fail)
   rename_i ka _ _ kb _;exact fin ka kb nb_ b' _ _ _ rp
  |some c'=>
   dsimp only[aS,ae,List.cons_append,List.nil_append]
   repeat' (first|refine st ?_|refine sb λnb_ hnb_=>?_|fail)
   refine gr (i:=0) (j:=l[k].taint.length) ZJ ZJ ZJ (λbt2 _=>?_)
   repeat' (first|refine st ?_|refine sb λnb_ hnb_=>?_|fail)
   refine Tk l[k].pc l[k].ev _ l[k].taint r2 r3 _ _ _ _ _ _ bt2 _ _ (λb'=>?_);unfold fe
   repeat' (first|refine st ?_|refine qW rp rp (by simp[dh];omega) rfl (by simp[dh];omega) (by simp[dh];omega) rfl (λnb_ hnb_=>?_)|refine sb λnb_ hnb_=>?_|fail)
   rename_i ka _ _ kb _;exact fin ka kb nb_ b' _ _ _ rp
 ·have hd:=bI g1;have hk0:k=l.length:=by omega
  subst hk0;have:=λz=>hend o tb bt z ho
  rw[YL (by rw[dh];exact X7 _)];unfold bT;rcases hx with rfl|⟨_,_,rfl⟩<;>rcases hy with rfl|⟨_,_,rfl⟩
  all_goals
   repeat' (first|refine st ?_|refine sb λnb_ hnb_=>?_|refine s2 (λh=>?_) λh=>?_|fail)
   exact this _
theorem zh(o:Option Nat)(n:Nat):aS o n=.lst []∨∃b m,aS o n=.sl b 0 m:=by
 cases o with
 |none=>exact .inl rfl
 |some b=>exact .inr ⟨b,n,rfl⟩
theorem Sg(s:dw)(q:Nat)(h1:s.threads.length≤2^30)(h2:s.cells.length<2^40)(h3:s.futures.length<2^40)(hr:∀e∈s.threads,e.regs.length<2^40∧e.taint.length≤2^30∧∀r∈e.taint,r.length≤2^30):
  af Tryz.prog 51 [.agg s.enc] [] (UL s q):=by
 refine af.fz (Bv _ _ _ ?_);unfold oY;generalize hQ:(λ(v:AV) (L:SH)=>∃v2 L2,aG [v] L [v2] L2∧UL s q v2 L2)=Q;unfold dw.enc
 repeat' (first|refine st ?_|refine sb λnb_ hnb_=>?_|fail)
 revert nb_;intro b1 _;refine Il (rx s.cells ZJ) (by simp[rm,rz,W.free,aa]) ?_;rintro v K ⟨oc,rfl,rfl,hoc⟩;unfold mK;have go:∀(of:Option Nat) (b2 bt:Nat) (L:SH),(of=none→s.futures=[])→EC L ((bt,⟨4,[]⟩)::(b2,⟨7,[[.nils,.ZO 0,.nils,.nils,aS oc s.cells.length,aS of s.futures.length,.sl bt 0 0]]⟩)::(b1,⟨7,[bT]⟩)::(ae oc 1 (s.cells.map aj)++ae of 1 (s.futures.map aj))) []→
   W.loop (ff Q) [.ptr b1 0 0,.ptr b2 0 0,.lst (s.threads.map aH.enc),.ZO s.threads.length,.ZO (0:Nat)] L:=by
  intro of b2 bt L hof hL;refine Sf s.threads q b1 b2 bt _ _ (zh _ _) (zh _ _) _ L (by simpa using hL.perm) h1 hr Q ?_;intro o tb bt z ho;subst hQ;refine⟨_,_,aG.forget (K:=[(b2,_),(b1,_)]) (R:=(bt,⟨4,jc q o tb s.threads⟩)::(qX q o tb s.threads s.threads.length++(ae oc 1 (s.cells.map aj)++ae of 1 (s.futures.map aj)))) ((List.Perm.swap _ _ _).trans ((List.Perm.swap _ _ _).cons _)),⟨oc,of,bt,o,tb,rfl,rfl,hoc,hof,ho⟩⟩
 cases oc
 all_goals
  dsimp only[aS,ae,List.nil_append,List.cons_append]at go ⊢
  repeat' (first|refine st ?_|refine sb λnb_ hnb_=>?_|fail)
  refine Il (rx s.futures ZJ) (by simp[rm,rc,rz,W.free,aa]) ?_;rintro v K ⟨of,rfl,rfl,hof⟩;unfold mJ;cases of
  all_goals
   dsimp only[aS,ae,List.nil_append,List.cons_append]
   repeat' (first|refine st ?_|refine sb λnb_ hnb_=>?_|fail)
   refine gr (i:=0) (j:=s.threads.length) ZJ ZJ ZJ (λbt2 _=>?_)
   repeat' (first|refine st ?_|refine sb λnb_ hnb_=>?_|fail)
 ·exact go none nb_ bt2 _ hof rp
 ·exact go (some _) nb_ bt2 _ hof rp
 ·exact go none nb_ bt2 _ hof rp
 ·exact go (some _) nb_ bt2 _ hof rp
end
end Go.Proofs.YtdnpdghlggbklaaGreatDoor.Am
