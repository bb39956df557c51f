/- A part of the proof; the statement is proved in the last part. -/
import Derived.Test.YtenbpcngcicamaaGreatDoorQcm
set_option linter.unusedSimpArgs false
set_option linter.unusedVariables false
namespace Go.Proofs.YtenbpcngcicamaaGreatDoor.Am
section
set_option maxRecDepth 100000
set_option maxHeartbeats 2000000
def cI.zero:cI:=⟨0,0,0,0,0,[],[]⟩
def Lb(e:Option cI):AV:=match e with
 |some e=>.tup [.agg e.enc,.bool true]
 |none=>.tup [.agg cI.zero.enc,.bool false]
def DZ(c:iD):Prop:=∀i∈c.ins,1≤i.op∧i.op≤28∧∀r∈bU i,0≤r∧r<c.regs
theorem m9{α:Type}{f:α→List AV}{l:List α}{i:Int}{d:α}(h:inB i l.length=true):(l.map f)[i.toNat]? =some (f (l.getD i.toNat d)):=by
 obtain⟨h1,h2⟩:=ay.1 h;have:i.toNat<l.length:=by omega
 simp[this]
theorem iW{α:Type}{l:List α}{i:Int}{d:α}(h:inB i l.length=true):l.getD i.toNat d∈l:=by
 obtain⟨h1,h2⟩:=ay.1 h;have:i.toNat<l.length:=by omega
 simp[this]
theorem Sf{op:Int}(h1:1≤op)(h2:op≤28):(kS.map (AV.W9 ·))[0+op.toNat*1]? =some (AV.W9 (pX op)):=by rcases ops op h1 h2 with rfl|rfl|rfl|rfl|rfl|rfl|rfl|rfl|rfl|rfl|rfl|rfl|rfl|rfl|rfl|rfl|rfl|rfl|rfl|rfl|rfl|rfl|rfl|rfl|rfl|rfl|rfl|rfl<;>rfl
theorem PO(c:bP)(s:el)(t:Int)(hi:∀x∈c.ts,DZ x)(hs:∀x∈s.threads,∀r,(x.tnt r).length*8≤140737488355328):aB Tryz.prog 55 [.agg c.enc,.agg s.enc,.W9 t] (Lb (ie c s t)):=by
 refine ai.fz (DX _ _ _ _ _ ?_);unfold sw;generalize hQ:(λ(v:AV) (L:SH)=>∃v2 L2,aI [v] L [v2] L2∧v2=Lb (ie c s t)∧L2=[])=Q;have no:jz c s t=false→∀L,Q (.tup [.agg [.W9 0,.W9 0,.W9 0,.W9 0,.W9 0,.nils,.nils],.bool false]) L:=λh L=>by subst hQ;exact⟨_,[],aI.all (Fz.tups (.cons (Fz.aggs (m:=cI.zero.enc) (by exact fl)) (.cons (.refl _) .nil))),by rw[ie,h];rfl,rfl⟩
 have non:ie c s t=none→∀L,Q (.tup [.agg [.W9 0,.W9 0,.W9 0,.W9 0,.W9 0,.nils,.nils],.bool false]) L:=λh L=>by subst hQ;exact⟨_,[],aI.all (Fz.tups (.cons (Fz.aggs (m:=cI.zero.enc) (by exact fl)) (.cons (.refl _) .nil))),by rw[h];rfl,rfl⟩
 have yes:∀e v,ie c s t=some e→(∀K,jd K v e.enc)→∀L,Q (.tup [.agg v,.bool true]) L:=λe v h hv L=>by subst hQ;exact⟨_,[],aI.all (Fz.tups (.cons (Fz.aggs (hv _)) (.cons (.refl _) .nil))),by rw[h];rfl,rfl⟩
 clear hQ;by_cases h0:inB t c.ts.length=true∧inB t s.threads.length=true∧inB t s.sync.threads.length=true
 ·obtain⟨i1,i2,i3⟩:=h0;have x1:(c.ts.map iD.enc)[t.toNat]? =some (aD c t).enc:=m9 i1;have x2:(s.threads.map aW.enc)[t.toNat]? =some (bG s t).enc:=m9 i2;have x3:(s.sync.threads.map ThrD.enc)[t.toNat]? =some (cm s.sync t).enc:=m9 i3;have ok1:DZ (aD c t):=hi _ (iW i1);have hs1:=hs _ (iW (d:=aW.zero) i2);rw[show s.threads.getD t.toNat aW.zero=bG s t from rfl]at hs1;have hr:jz c s t=(inB (bG s t).pc (aD c t).ins.length&&decide (((bG s t).regs.length:Int)=(aD c t).regs)&&decide (((bG s t).taint.length:Int)=(aD c t).regs)):=by simp only[jz,i1,i2,i3,Bool.true_and]
  have i1':=ay.1 i1;have i2':=ay.1 i2;have i3':=ay.1 i3;have d1:decide (t<0)=false:=decide_eq_false W4;have d2:decide (t≥c.ts.length)=false:=decide_eq_false W4;have d3:decide (t≥s.threads.length)=false:=decide_eq_false W4;have d4:decide (t≥s.sync.threads.length)=false:=decide_eq_false W4;clear i1 i2 i3;unfold bP.enc el.enc;by_cases hk:jz c s t=true
  ·have hk2:=hk;rw[hr]at hk2;simp only[VS,decide_eq_true_eq]at hk2;obtain⟨⟨j1,j2⟩,j3⟩:=hk2;have x4:((aD c t).ins.map bn.enc)[(bG s t).pc.toNat]? =some (de (aD c t) (bG s t).pc).enc:=dO j1;have j1':=ay.1 j1;have d5:decide ((bG s t).pc<0)=false:=decide_eq_false W4;have d6:decide ((bG s t).pc≥(aD c t).ins.length)=false:=decide_eq_false W4;have d7:decide (((bG s t).regs.length:Int)≠(aD c t).regs)=false:=decide_eq_false (by simpa using j2);have d8:decide (((bG s t).taint.length:Int)≠(aD c t).regs)=false:=decide_eq_false (by simpa using j3);obtain⟨o1,o2,o3⟩:=ok1 _ (iW (d:=default) j1);rw[show(aD c t).ins.getD (bG s t).pc.toNat default=de (aD c t) (bG s t).pc from rfl]at o1 o2 o3;have hp:ie c s t=(if(cm s.sync t).status=1 then some ⟨t,1,-1,0,-1,[],[]⟩
    else if(cm s.sync t).status=4 then some ⟨t,17,(cm s.sync t).cond,0,(de (aD c t) (bG s t).pc).site,[],[]⟩
    else if(cm s.sync t).status=2 then(if pX (de (aD c t) (bG s t).pc).op≠0 then some (l9 (de (aD c t) (bG s t).pc) (bG s t) t)else none)
    else none):=by rw[ie,if_pos hk]
   rw[hp]at yes non;have hin:=N8 (de (aD c t) (bG s t).pc) (bG s t) t o1 o2 (λr hr2=>by have:=o3 r hr2;omega) W4 hs1;clear hp hr hk no hs hi j1 j2 j3 ok1 hs1 o3;have kd:=Sf o1 o2;have h29:(de (aD c t) (bG s t).pc).op.toNat<29:=by omega
   have h00:0≤(de (aD c t) (bG s t).pc).op:=by omega
   generalize de (aD c t) (bG s t).pc=i at *;generalize aD c t=ct at *;generalize bG s t=ts at *;generalize cm s.sync t=th at *;obtain⟨op,ia,ib,ic,m,site⟩:=i;rw[show bn.enc ⟨op,ia,ib,ic,m,site⟩=[.W9 op,.W9 ia,.W9 ib,.W9 ic,.W9 m,.W9 site]from rfl]at *;dsimp only at *;unfold iD.enc aW.enc ThrD.enc at *
   repeat' (first|refine st ?_|refine C1 h00 h29 ?_|refine CZ rfl kd ?_|(refine pf 83 ?_;refine pm (hin) ?_)|refine sb λnb_ hnb_=>?_|refine s2 (λh=>?_) λh=>?_|fail)
   ·exact yes _ _ (if_pos (by simpa using ‹decide (th.status=1)=true›)) (λK=>by exact fl) _
   ·exact yes _ _ (by rw[if_neg (by simpa using ‹decide (th.status=1)=false›),if_pos (by simpa using ‹decide (th.status=4)=true›)]) (λK=>by exact fl) _
   ·refine yes _ _ (by rw[if_neg (by simpa using ‹decide (th.status=1)=false›),if_neg (by simpa using ‹decide (th.status=4)=false›),if_pos (by simpa using ‹decide (th.status=2)=true›),if_pos (by simp_all)]) (λK=>?_) _;exact fl
   ·refine non ?_ _;rw[if_neg (by simpa using ‹decide (th.status=1)=false›),if_neg (by simpa using ‹decide (th.status=4)=false›),if_pos (by simpa using ‹decide (th.status=2)=true›),if_neg (by simp_all)]
   ·refine non ?_ _;rw[if_neg (by simpa using ‹decide (th.status=1)=false›),if_neg (by simpa using ‹decide (th.status=4)=false›),if_neg (by simpa using ‹decide (th.status=2)=false›)]
  ·have hz:=no (by simpa using hk);rw[hr]at hk;generalize aD c t=ct at *;generalize bG s t=ts at *;generalize cm s.sync t=th at *;unfold iD.enc aW.enc ThrD.enc at *
   repeat' (first|refine st ?_|refine sb λnb_ hnb_=>?_|refine s2 (λh=>?_) λh=>?_|fail)
   all_goals first
    |exact hz _
    |(exfalso;simp_all[inB]<;>omega)
 ·have hn:jz c s t=false:=by unfold jz;simp only[Bool.and_eq_false_iff];simp only[not_and,Bool.not_eq_true]at h0;cases h1:inB t c.ts.length<;>cases h2:inB t s.threads.length<;>simp_all
  have hz:=no hn;unfold bP.enc el.enc
  repeat' (first|refine st ?_|refine sb λnb_ hnb_=>?_|refine s2 (λh=>?_) λh=>?_|fail)
  all_goals first
   |exact hz _
   |(exfalso;simp_all[inB]<;>omega)
end
section
set_option maxRecDepth 100000
set_option maxHeartbeats 2000000
set_option linter.unusedSimpArgs false
set_option linter.unusedSectionVars false
theorem p8{b bX i k n by_:Nat}{rows m:List (List AV)}{L L':SH}{KL:AV→SH→Prop}(hX:(bX,(⟨n,m⟩:Blk))∈L)(hd:eN b ⟨n,rows⟩ L L')(hr:rows.length=i)(hk:k=m.length)(h2:2*(i+m.length)*by_≤2^48)(h3:2*(i+m.length)≤2^62)(h4:(m.all λr=>r.all AV.one)=true)
  (h:∀b',b'∉L.names→KL (.sl b' 0 (i+m.length)) ((b',⟨n,rows++m⟩)::L')):W.append n by_ (.sl b 0 i) (.sl bX 0 k) L KL:=by
 subst hk;subst hr;exact qm (y:=⟨n,rows⟩) (l:=rows) hd.mem' rfl W7 W7 (mM hX rfl rfl) h2 h3 h4 hd (λb' hb=>h b' hb)
theorem QO(pc ev:Int)(g:AV)(t:List (List Int))(h1:t.length≤2^30)(h3:∀l∈t,l.length≤2^30)(x1 x2 x4 x5 x6:AV)(b bt:Nat)(R:SH)(n37:W.Kn)
  (hend:∀b',eP n37 ((b',⟨1,t.map cp⟩)::(b,⟨4,[[.W9 pc,g,.sl b' 0 t.length,.W9 ev]]⟩)::R) x2 (.ptr b 0 0) x6 x1 x4 x5) :
  W.loop (gQ n37) [x1,x2,.ptr b 0 0,x4,x5,x6,.lst (t.map cp),.W9 t.length,.W9 (0:Nat)] ((bt,⟨1,[]⟩)::(b,⟨4,[[.W9 pc,g,.sl bt 0 0,.W9 ev]]⟩)::R):=by
 refine cg t.length (λk (b':Nat)=>([x1,x2,.ptr b 0 0,x4,x5,x6,.lst (t.map cp),.W9 t.length,.W9 k],(b',⟨1,(t.take k).map cp⟩)::(b,⟨4,[[.W9 pc,g,.sl b' 0 k,.W9 ev]]⟩)::R)) (λ_ _=>True) bt trivial (.refl _ _) ?_;intro k b' hk _;dsimp only;unfold gQ;rcases Nat.lt_or_ge k t.length with g1|g1
 ·have hd:=bF g1;have hx:=az (f:=cp) g1;have hrk:(t[k]).length*8≤140737488355328:=by have:=h3 _ (VI g1);omega
  repeat' (first|refine st ?_|(refine pf 93 ?_;refine pm (cS _ hrk) ?_)|refine p8 rp rp (by simp;omega) rfl (by simp;omega) (by simp;omega) rfl (λnb_ hnb_=>?_)|refine sb λnb_ hnb_=>?_|refine s2 (λh=>?_) λh=>?_|fail)
  refine⟨k+1,nb_,W4,W4,trivial,?_⟩;rw[aE g1 W4,Vw g1,Vr];exact aI.forget (K:=[(_,_)]) (List.Perm.swap _ _ _)
 ·have hd:=bM g1;have hk0:k=t.length:=by omega
  subst hk0;have:=hend b';rw[Wb (Vo _)]
  repeat' (first|exact this|refine st ?_|refine sb λnb_ hnb_=>?_|refine s2 (λh=>?_) λh=>?_|fail)
def Fd(q:Nat)(o:Option Nat)(tb:Nat)(j:Nat)(s:aW):List AV:=if j=q then [.W9 s.pc,aQ o s.regs.length,.sl tb 0 s.taint.length,.W9 s.ev]else s.enc
def iJ(q:Nat)(o:Option Nat)(tb:Nat)(l:List aW):List (List AV):=l.zipIdx.map λp=>Fd q o tb p.2 p.1
theorem df(q:Nat)(o:Option Nat)(tb:Nat)(l:List aW):(iJ q o tb l).length=l.length:=by simp[iJ]
theorem xI(q:Nat)(o:Option Nat)(tb:Nat)(l:List aW)(j:Nat)(hj:j<l.length):(iJ q o tb l)[j]? =some (Fd q o tb j l[j]):=by simp[iJ,hj]
theorem D0(q:Nat)(o o':Option Nat)(tb tb':Nat)(l:List aW)(k:Nat)(hk:k<l.length)(h:k≤q∨(o=o'∧tb=tb')):(iJ q o' tb' l).take (k+1)=(iJ q o tb l).take k++[Fd q o' tb' k l[k]]:=by
 apply Wt;intro j;rcases Nat.lt_trichotomy j k with hj|hj|hj
 ·rw[VF (by simp[df];omega),VW hj,VW W4,xI _ _ _ _ _ W4,xI _ _ _ _ _ W4];rcases h with h|⟨rfl,rfl⟩
  ·simp[Fd,show j≠q by omega]
  ·rfl
 ·subst hj;rw[VW W4,xI _ _ _ _ _ hk,Vx (by simp[df];omega)];simp[df,Wd (Nat.le_of_lt hk)]
 ·rw[Vu (by simp;omega),Vu (by simp[df];omega)]
def p9(q:Nat)(o:Option Nat)(tb:Nat)(l:List aW)(k:Nat):SH:=if q<k then ah o 1 ((l.getD q aW.zero).regs.map ao)++[(tb,⟨1,(l.getD q aW.zero).taint.map cp⟩)]else []
structure Sg(s:el)(q:Nat)(v:AV)(L:SH):Prop where
 ex:∃(oc of:Option Nat) (bt:Nat) (o:Option Nat) (tb:Nat),v=.agg [.nils,.W9 0,.nils,.nils,aQ oc s.cells.length,aQ of s.futures.length,.sl bt 0 s.threads.length]∧
  L=(bt,⟨4,iJ q o tb s.threads⟩)::(p9 q o tb s.threads s.threads.length++(ah oc 1 (s.cells.map ao)++ah of 1 (s.futures.map ao)))∧(oc=none→s.cells=[])∧(of=none→s.futures=[])∧(o=none→q<s.threads.length→(s.threads.getD q aW.zero).regs=[])
def bK:List AV:=[.nils,.W9 0,.nils,.nils,.nils,.nils,.nils]
theorem PP(l:List aW)(q b1 b2 bt:Nat)(x y:AV)(hx:x=.lst []∨∃b n,x=.sl b 0 n)(hy:y=.lst []∨∃b n,y=.sl b 0 n)(E L0:SH)(hL0:L0.Perm ((bt,⟨4,[]⟩)::(b2,⟨7,[[.nils,.W9 0,.nils,.nils,x,y,.sl bt 0 0]]⟩)::(b1,⟨7,[bK]⟩)::E))(h1:l.length≤2^30)(hr:∀s∈l,s.regs.length<2^40∧s.taint.length≤2^30∧∀r∈s.taint,r.length≤2^30)(Q:R)
  (hend:∀(o:Option Nat) (tb bt:Nat) (z:List AV),(o=none→q<l.length→(l.getD q aW.zero).regs=[])→Q (.agg [.nils,.W9 0,.nils,.nils,x,y,.sl bt 0 l.length]) ((bt,⟨4,iJ q o tb l⟩)::(b2,⟨7,[[.nils,.W9 0,.nils,.nils,x,y,.sl bt 0 l.length]]⟩)::(b1,⟨7,[z]⟩)::(p9 q o tb l l.length++E))) :
  W.loop (eQ Q) [.ptr b1 0 0,.ptr b2 0 0,.lst (l.map aW.enc),.W9 l.length,.W9 (0:Nat)] L0:=by
 refine cg l.length (λk (p:Nat×Option Nat×Nat)=>([.ptr b1 0 0,.ptr b2 0 0,.lst (l.map aW.enc),.W9 l.length,.W9 k],(p.1,⟨4,(iJ q p.2.1 p.2.2 l).take k⟩)::(b2,⟨7,[[.nils,.W9 0,.nils,.nils,x,y,.sl p.1 0 k]]⟩)::(b1,⟨7,[bK]⟩)::(p9 q p.2.1 p.2.2 l k++E))) (λk p=>p.2.1=none→q<k→(l.getD q aW.zero).regs=[]) (bt,none,0) (λ_ h=>by omega) (aI.forget (K:=[]) (by simpa[p9]using hL0)) ?_;rintro k ⟨bt,o,tb⟩ hk ho;dsimp only at ho ⊢;unfold eQ;rcases Nat.lt_or_ge k l.length with g1|g1
 ·have hd:=bF g1;have hxx:=az (f:=aW.enc) g1;obtain⟨r1,r2,r3⟩:=hr _ (VI g1);generalize hT:p9 q o tb l k++E=T;clear hx hy
  repeat' (first|refine st ?_|refine sb λnb_ hnb_=>?_|fail)
  refine Gv (qq _ W4) (by simp[rm,rz,W.free,aa]) ?_;rintro v K ⟨o',rfl,rfl,ho'⟩;unfold ma;have fin:∀(ka kb nb b':Nat) (xa xb:Blk) (L:SH),C7 L ((ka,xa)::(kb,xb)::(ah o' 1 ((l[k]).regs.map ao)++[(b',⟨1,(l[k]).taint.map cp⟩)])) ((nb,⟨4,(iJ q o tb l).take k++[[.W9 (l[k]).pc,aQ o' (l[k]).regs.length,.sl b' 0 (l[k]).taint.length,.W9 (l[k]).ev]]⟩)::(b2,⟨7,[[.nils,.W9 0,.nils,.nils,x,y,.sl nb 0 (k+1)]]⟩)::(b1,⟨7,[bK]⟩)::T)→
    ∃(j:Nat) (p:Nat×Option Nat×Nat),k<j∧j≤l.length∧(p.2.1=none→q<j→(l.getD q aW.zero).regs=[])∧aI [.ptr b1 0 0,.ptr b2 0 0,.lst (l.map aW.enc),.W9 l.length,.W9 (IntKind.i64.wrap ((k:Int)+1))] L
     [.ptr b1 0 0,.ptr b2 0 0,.lst (l.map aW.enc),.W9 l.length,.W9 j] ((p.1,⟨4,(iJ q p.2.1 p.2.2 l).take j⟩)::(b2,⟨7,[[.nils,.W9 0,.nils,.nils,x,y,.sl p.1 0 j]]⟩)::(b1,⟨7,[bK]⟩)::(p9 q p.2.1 p.2.2 l j++E)):=by
   intro ka kb nb b' xa xb L h;have hp:=h.perm.trans VT;subst hT;rw[aE g1 W4];by_cases hkq:k=q
   ·subst hkq;refine⟨k+1,(nb,o',b'),W4,W4,λe _=>by simpa[List.getD,g1]using ho' e,?_⟩;dsimp only;rw[D0 k o o' tb b' l k g1 (.inl (Nat.le_refl _))];have e1:p9 k o tb l k=[]:=by simp[p9]
    have e2:p9 k o' b' l (k+1)=ah o' 1 ((l[k]).regs.map ao)++[(b',⟨1,(l[k]).taint.map cp⟩)]:=by simp[p9,List.getD,g1]
    have e3:Fd k o' b' k l[k]=[.W9 (l[k]).pc,aQ o' (l[k]).regs.length,.sl b' 0 (l[k]).taint.length,.W9 (l[k]).ev]:=by simp[Fd]
    rw[e1]at hp;rw[e2,e3];refine aI.forget (K:=[(ka,xa),(kb,xb)]) (hp.trans ?_);refine List.Perm.append_left [(ka,xa),(kb,xb)] ?_;exact List.perm_append_comm_assoc _ [_,_,_] E
   ·refine⟨k+1,(nb,o,tb),W4,W4,λe hq=>ho e W4,?_⟩;dsimp only;have e1:p9 q o tb l (k+1)=p9 q o tb l k:=by
     by_cases hq:q<k
     ·simp[p9,hq,show q<k+1 by omega]
     ·simp[p9,hq,show¬q<k+1 by omega]
    rw[e1,D0 q o o tb tb l k g1 (.inr ⟨rfl,rfl⟩)];refine aI.row hp W7 ?_;intro j r r' q1 q2;rcases Vt j ((iJ q o tb l).take k).length with hj|hj
    ·rw[VF hj]at q1 q2;rw[q1]at q2;cases q2;exact jd.refl _ _
    ·rw[Vx hj]at q1 q2;rcases hm:j-((iJ q o tb l).take k).length with _|m
     ·rw[hm]at q1 q2;cases q1;cases q2;rw[show Fd q o tb k l[k]=(l[k]).enc by simp[Fd,hkq]];refine .cons (.refl _) (.cons ?_ (.cons ?_ (.cons (.refl _) .nil)))
      ·exact lX rfl ho' λb e=>by subst e;simp[ah]
      ·exact lX (o:=some b') rfl nofun λb e=>by cases e;simp
     ·rw[hm]at q1;simp at q1
  cases o' with
  |none=>
   dsimp only[aQ,ah,List.nil_append]
   repeat' (first|refine st ?_|refine sb λnb_ hnb_=>?_|fail)
   refine fT (i:=0) (j:=l[k].taint.length) W4 W4 W4 (λbt2 _=>?_)
   repeat' (first|refine st ?_|refine sb λnb_ hnb_=>?_|fail)
   refine QO l[k].pc l[k].ev _ l[k].taint r2 r3 _ _ _ _ _ _ bt2 _ _ (λb'=>?_);unfold eP
   repeat' (first|refine st ?_|refine p8 rp rp (by simp[df];omega) rfl (by simp[df];omega) (by simp[df];omega) rfl (λnb_ hnb_=>?_)|refine sb λnb_ hnb_=>?_|fail)
   rename_i ka _ _ kb _;exact fin ka kb nb_ b' _ _ _ rp
  |some c'=>
   dsimp only[aQ,ah,List.cons_append,List.nil_append]
   repeat' (first|refine st ?_|refine sb λnb_ hnb_=>?_|fail)
   refine fT (i:=0) (j:=l[k].taint.length) W4 W4 W4 (λbt2 _=>?_)
   repeat' (first|refine st ?_|refine sb λnb_ hnb_=>?_|fail)
   refine QO l[k].pc l[k].ev _ l[k].taint r2 r3 _ _ _ _ _ _ bt2 _ _ (λb'=>?_);unfold eP
   repeat' (first|refine st ?_|refine p8 rp rp (by simp[df];omega) rfl (by simp[df];omega) (by simp[df];omega) rfl (λnb_ hnb_=>?_)|refine sb λnb_ hnb_=>?_|fail)
   rename_i ka _ _ kb _;exact fin ka kb nb_ b' _ _ _ rp
 ·have hd:=bM g1;have hk0:k=l.length:=by omega
  subst hk0;have:=λz=>hend o tb bt z ho
  rw[Wb (by rw[df];exact Vo _)];unfold bK;rcases hx with rfl|⟨_,_,rfl⟩<;>rcases hy with rfl|⟨_,_,rfl⟩
  all_goals
   repeat' (first|refine st ?_|refine sb λnb_ hnb_=>?_|refine s2 (λh=>?_) λh=>?_|fail)
   exact this _
theorem xJ(o:Option Nat)(n:Nat):aQ o n=.lst []∨∃b m,aQ o n=.sl b 0 m:=by
 cases o with
 |none=>exact .inl rfl
 |some b=>exact .inr ⟨b,n,rfl⟩
theorem PQ(s:el)(q:Nat)(h1:s.threads.length≤2^30)(h2:s.cells.length<2^40)(h3:s.futures.length<2^40)(hr:∀e∈s.threads,e.regs.length<2^40∧e.taint.length≤2^30∧∀r∈e.taint,r.length≤2^30):
  ai Tryz.prog 57 [.agg s.enc] [] (Sg s q):=by
 refine ai.fz (zX _ _ _ ?_);unfold nQ;generalize hQ:(λ(v:AV) (L:SH)=>∃v2 L2,aI [v] L [v2] L2∧Sg s q v2 L2)=Q;unfold el.enc
 repeat' (first|refine st ?_|refine sb λnb_ hnb_=>?_|fail)
 revert nb_;intro b1 _;refine Gv (qq s.cells W4) (by simp[rm,rz,W.free,aa]) ?_;rintro v K ⟨oc,rfl,rfl,hoc⟩;unfold mc;have go:∀(of:Option Nat) (b2 bt:Nat) (L:SH),(of=none→s.futures=[])→C7 L ((bt,⟨4,[]⟩)::(b2,⟨7,[[.nils,.W9 0,.nils,.nils,aQ oc s.cells.length,aQ of s.futures.length,.sl bt 0 0]]⟩)::(b1,⟨7,[bK]⟩)::(ah oc 1 (s.cells.map ao)++ah of 1 (s.futures.map ao))) []→
   W.loop (eQ Q) [.ptr b1 0 0,.ptr b2 0 0,.lst (s.threads.map aW.enc),.W9 s.threads.length,.W9 (0:Nat)] L:=by
  intro of b2 bt L hof hL;refine PP s.threads q b1 b2 bt _ _ (xJ _ _) (xJ _ _) _ L (by simpa using hL.perm) h1 hr Q ?_;intro o tb bt z ho;subst hQ;refine⟨_,_,aI.forget (K:=[(b2,_),(b1,_)]) (R:=(bt,⟨4,iJ q o tb s.threads⟩)::(p9 q o tb s.threads s.threads.length++(ah oc 1 (s.cells.map ao)++ah of 1 (s.futures.map ao)))) ((List.Perm.swap _ _ _).trans ((List.Perm.swap _ _ _).cons _)),⟨oc,of,bt,o,tb,rfl,rfl,hoc,hof,ho⟩⟩
 cases oc
 all_goals
  dsimp only[aQ,ah,List.nil_append,List.cons_append]at go ⊢
  repeat' (first|refine st ?_|refine sb λnb_ hnb_=>?_|fail)
  refine Gv (qq s.futures W4) (by simp[rm,rc,rz,W.free,aa]) ?_;rintro v K ⟨of,rfl,rfl,hof⟩;unfold mb;cases of
  all_goals
   dsimp only[aQ,ah,List.nil_append,List.cons_append]
   repeat' (first|refine st ?_|refine sb λnb_ hnb_=>?_|fail)
   refine fT (i:=0) (j:=s.threads.length) W4 W4 W4 (λbt2 _=>?_)
   repeat' (first|refine st ?_|refine sb λnb_ hnb_=>?_|fail)
 ·exact go none nb_ bt2 _ hof rp
 ·exact go (some _) nb_ bt2 _ hof rp
 ·exact go none nb_ bt2 _ hof rp
 ·exact go (some _) nb_ bt2 _ hof rp
end
end Go.Proofs.YtenbpcngcicamaaGreatDoor.Am
