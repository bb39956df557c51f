/- A part of the proof; the statement is proved in the last part. -/
import Derived.Test.YtdnpdghlggbklaaGreatDoorQem
set_option linter.unusedSimpArgs false
set_option linter.unusedVariables false
namespace Go.Proofs.YtdnpdghlggbklaaGreatDoor.Am
section
set_option maxRecDepth 100000
set_option maxHeartbeats 2000000
def cC.zero:cC:=⟨0,0,0,0,0,[],[]⟩
def Lh(e:Option cC):AV:=match e with
 |some e=>.tup [.agg e.enc,.bool true]
 |none=>.tup [.agg cC.zero.enc,.bool false]
def D5(c:iH):Prop:=∀i∈c.ins,1≤i.op∧i.op≤28∧∀r∈bT i,0≤r∧r<c.regs
theorem m6{α:Type}{f:α→List AV}{l:List α}{i:Int}{d:α}(h:inB i l.length=true):(l.map f)[i.toNat]? =some (f (l.getD i.toNat d)):=by
 obtain⟨h1,h2⟩:=ax.1 h;have:i.toNat<l.length:=by omega
 simp[this]
theorem i9{α:Type}{l:List α}{i:Int}{d:α}(h:inB i l.length=true):l.getD i.toNat d∈l:=by
 obtain⟨h1,h2⟩:=ax.1 h;have:i.toNat<l.length:=by omega
 simp[this]
theorem Sn{op:Int}(h1:1≤op)(h2:op≤28):(kR.map (AV.Xm ·))[0+op.toNat*1]? =some (AV.Xm (pU op)):=by rcases ops op h1 h2 with rfl|rfl|rfl|rfl|rfl|rfl|rfl|rfl|rfl|rfl|rfl|rfl|rfl|rfl|rfl|rfl|rfl|rfl|rfl|rfl|rfl|rfl|rfl|rfl|rfl|rfl|rfl|rfl<;>rfl
theorem PR(c:bM)(s:el)(t:Int)(hi:∀x∈c.ts,D5 x)(hs:∀x∈s.threads,∀r,(x.tnt r).length*8≤140737488355328):az Tryz.prog 26 [.agg c.enc,.agg s.enc,.Xm t] (Lh (gh c s t)):=by
 refine af.fz (D3 _ _ _ _ _ ?_);unfold sJ;generalize hQ:(λ(v:AV) (L:SH)=>∃v2 L2,aJ [v] L [v2] L2∧v2=Lh (gh c s t)∧L2=[])=Q;have no:jF c s t=false→∀L,Q (.tup [.agg [.Xm 0,.Xm 0,.Xm 0,.Xm 0,.Xm 0,.nils,.nils],.bool false]) L:=λh L=>by subst hQ;exact⟨_,[],aJ.all (Fz.tups (.cons (Fz.aggs (m:=cC.zero.enc) (by exact fl)) (.cons (.refl _) .nil))),by rw[gh,h];rfl,rfl⟩
 have non:gh c s t=none→∀L,Q (.tup [.agg [.Xm 0,.Xm 0,.Xm 0,.Xm 0,.Xm 0,.nils,.nils],.bool false]) L:=λh L=>by subst hQ;exact⟨_,[],aJ.all (Fz.tups (.cons (Fz.aggs (m:=cC.zero.enc) (by exact fl)) (.cons (.refl _) .nil))),by rw[h];rfl,rfl⟩
 have yes:∀e v,gh c s t=some e→(∀K,ji K v e.enc)→∀L,Q (.tup [.agg v,.bool true]) L:=λe v h hv L=>by subst hQ;exact⟨_,[],aJ.all (Fz.tups (.cons (Fz.aggs (hv _)) (.cons (.refl _) .nil))),by rw[h];rfl,rfl⟩
 clear hQ;by_cases h0:inB t c.ts.length=true∧inB t s.threads.length=true∧inB t s.sync.threads.length=true
 ·obtain⟨i1,i2,i3⟩:=h0;have x1:(c.ts.map iH.enc)[t.toNat]? =some (aB c t).enc:=m6 i1;have x2:(s.threads.map aV.enc)[t.toNat]? =some (bN s t).enc:=m6 i2;have x3:(s.sync.threads.map ThrD.enc)[t.toNat]? =some (cm s.sync t).enc:=m6 i3;have ok1:D5 (aB c t):=hi _ (i9 i1);have hs1:=hs _ (i9 (d:=aV.zero) i2);rw[show s.threads.getD t.toNat aV.zero=bN s t from rfl]at hs1;have hr:jF c s t=(inB (bN s t).pc (aB c t).ins.length&&decide (((bN s t).regs.length:Int)=(aB c t).regs)&&decide (((bN s t).taint.length:Int)=(aB c t).regs)):=by simp only[jF,i1,i2,i3,Bool.true_and]
  have i1':=ax.1 i1;have i2':=ax.1 i2;have i3':=ax.1 i3;have d1:decide (t<0)=false:=decide_eq_false Xh;have d2:decide (t≥c.ts.length)=false:=decide_eq_false Xh;have d3:decide (t≥s.threads.length)=false:=decide_eq_false Xh;have d4:decide (t≥s.sync.threads.length)=false:=decide_eq_false Xh;clear i1 i2 i3;unfold bM.enc el.enc;by_cases hk:jF c s t=true
  ·have hk2:=hk;rw[hr]at hk2;simp only[VW,decide_eq_true_eq]at hk2;obtain⟨⟨j1,j2⟩,j3⟩:=hk2;have x4:((aB c t).ins.map bj.enc)[(bN s t).pc.toNat]? =some (dm (aB c t) (bN s t).pc).enc:=dN j1;have j1':=ax.1 j1;have d5:decide ((bN s t).pc<0)=false:=decide_eq_false Xh;have d6:decide ((bN s t).pc≥(aB c t).ins.length)=false:=decide_eq_false Xh;have d7:decide (((bN s t).regs.length:Int)≠(aB c t).regs)=false:=decide_eq_false (by simpa using j2);have d8:decide (((bN s t).taint.length:Int)≠(aB c t).regs)=false:=decide_eq_false (by simpa using j3);obtain⟨o1,o2,o3⟩:=ok1 _ (i9 (d:=default) j1);rw[show(aB c t).ins.getD (bN s t).pc.toNat default=dm (aB c t) (bN s t).pc from rfl]at o1 o2 o3;have hp:gh c s t=(if(cm s.sync t).status=1 then some ⟨t,1,-1,0,-1,[],[]⟩
    else if(cm s.sync t).status=4 then some ⟨t,17,(cm s.sync t).cond,0,(dm (aB c t) (bN s t).pc).site,[],[]⟩
    else if(cm s.sync t).status=2 then(if pU (dm (aB c t) (bN s t).pc).op≠0 then some (kD (dm (aB c t) (bN s t).pc) (bN s t) t)else none)
    else none):=by rw[gh,if_pos hk]
   rw[hp]at yes non;have hin:=Oe (dm (aB c t) (bN s t).pc) (bN s t) t o1 o2 (λr hr2=>by have:=o3 r hr2;omega) Xh hs1;clear hp hr hk no hs hi j1 j2 j3 ok1 hs1 o3;have kd:=Sn o1 o2;have h29:(dm (aB c t) (bN s t).pc).op.toNat<29:=by omega
   have h00:0≤(dm (aB c t) (bN s t).pc).op:=by omega
   generalize dm (aB c t) (bN s t).pc=i at *;generalize aB c t=ct at *;generalize bN s t=ts at *;generalize cm s.sync t=th at *;obtain⟨op,ia,ib,ic,m,site⟩:=i;rw[show bj.enc ⟨op,ia,ib,ic,m,site⟩=[.Xm op,.Xm ia,.Xm ib,.Xm ic,.Xm m,.Xm site]from rfl]at *;dsimp only at *;unfold iH.enc aV.enc ThrD.enc at *
   repeat' (first|refine st ?_|refine C7 h00 h29 ?_|refine C5 rfl kd ?_|(refine pf 53 ?_;refine pm (hin) ?_)|refine sb λnb_ hnb_=>?_|refine s2 (λh=>?_) λh=>?_|fail)
   ·exact yes _ _ (if_pos (by simpa using ‹decide (th.status=1)=true›)) (λK=>by exact fl) _
   ·exact yes _ _ (by rw[if_neg (by simpa using ‹decide (th.status=1)=false›),if_pos (by simpa using ‹decide (th.status=4)=true›)]) (λK=>by exact fl) _
   ·refine yes _ _ (by rw[if_neg (by simpa using ‹decide (th.status=1)=false›),if_neg (by simpa using ‹decide (th.status=4)=false›),if_pos (by simpa using ‹decide (th.status=2)=true›),if_pos (by simp_all)]) (λK=>?_) _;exact fl
   ·refine non ?_ _;rw[if_neg (by simpa using ‹decide (th.status=1)=false›),if_neg (by simpa using ‹decide (th.status=4)=false›),if_pos (by simpa using ‹decide (th.status=2)=true›),if_neg (by simp_all)]
   ·refine non ?_ _;rw[if_neg (by simpa using ‹decide (th.status=1)=false›),if_neg (by simpa using ‹decide (th.status=4)=false›),if_neg (by simpa using ‹decide (th.status=2)=false›)]
  ·have hz:=no (by simpa using hk);rw[hr]at hk;generalize aB c t=ct at *;generalize bN s t=ts at *;generalize cm s.sync t=th at *;unfold iH.enc aV.enc ThrD.enc at *
   repeat' (first|refine st ?_|refine sb λnb_ hnb_=>?_|refine s2 (λh=>?_) λh=>?_|fail)
   all_goals first
    |exact hz _
    |(exfalso;simp_all[inB]<;>omega)
 ·have hn:jF c s t=false:=by unfold jF;simp only[Bool.and_eq_false_iff];simp only[not_and,Bool.not_eq_true]at h0;cases h1:inB t c.ts.length<;>cases h2:inB t s.threads.length<;>simp_all
  have hz:=no hn;unfold bM.enc el.enc
  repeat' (first|refine st ?_|refine sb λnb_ hnb_=>?_|refine s2 (λh=>?_) λh=>?_|fail)
  all_goals first
   |exact hz _
   |(exfalso;simp_all[inB]<;>omega)
end
section
set_option maxRecDepth 100000
set_option maxHeartbeats 2000000
set_option linter.unusedSimpArgs false
set_option linter.unusedSectionVars false
theorem pY{b bX i k n by_:Nat}{rows m:List (List AV)}{L L':SH}{KL:AV→SH→Prop}(hX:(bX,(⟨n,m⟩:Blk))∈L)(hd:eQ b ⟨n,rows⟩ L L')(hr:rows.length=i)(hk:k=m.length)(h2:2*(i+m.length)*by_≤2^48)(h3:2*(i+m.length)≤2^62)(h4:(m.all λr=>r.all AV.one)=true)
  (h:∀b',b'∉L.names→KL (.sl b' 0 (i+m.length)) ((b',⟨n,rows++m⟩)::L')):W.append n by_ (.sl b 0 i) (.sl bX 0 k) L KL:=by
 subst hk;subst hr;exact qu (y:=⟨n,rows⟩) (l:=rows) hd.mem' rfl Xk Xk (mJ hX rfl rfl) h2 h3 h4 hd (λb' hb=>h b' hb)
theorem QW(pc ev:Int)(g:AV)(t:List (List Int))(h1:t.length≤2^30)(h3:∀l∈t,l.length≤2^30)(x1 x2 x4 x5 x6:AV)(b bt:Nat)(R:SH)(n37:W.Kn)
  (hend:∀b',eT n37 ((b',⟨1,t.map cp⟩)::(b,⟨4,[[.Xm pc,g,.sl b' 0 t.length,.Xm ev]]⟩)::R) x2 (.ptr b 0 0) x6 x1 x4 x5) :
  W.loop (gV n37) [x1,x2,.ptr b 0 0,x4,x5,x6,.lst (t.map cp),.Xm t.length,.Xm (0:Nat)] ((bt,⟨1,[]⟩)::(b,⟨4,[[.Xm pc,g,.sl bt 0 0,.Xm ev]]⟩)::R):=by
 refine cg t.length (λk (b':Nat)=>([x1,x2,.ptr b 0 0,x4,x5,x6,.lst (t.map cp),.Xm t.length,.Xm k],(b',⟨1,(t.take k).map cp⟩)::(b,⟨4,[[.Xm pc,g,.sl b' 0 k,.Xm ev]]⟩)::R)) (λ_ _=>True) bt trivial (.refl _ _) ?_;intro k b' hk _;dsimp only;unfold gV;rcases Nat.lt_or_ge k t.length with g1|g1
 ·have hd:=bF g1;have hx:=aw (f:=cp) g1;have hrk:(t[k]).length*8≤140737488355328:=by have:=h3 _ (VV g1);omega
  repeat' (first|refine st ?_|(refine pf 81 ?_;refine pm (cR _ hrk) ?_)|refine pY rp rp (by simp;omega) rfl (by simp;omega) (by simp;omega) rfl (λnb_ hnb_=>?_)|refine sb λnb_ hnb_=>?_|refine s2 (λh=>?_) λh=>?_|fail)
  refine⟨k+1,nb_,Xh,Xh,trivial,?_⟩;rw[aE g1 Xh,VJ g1,VF];exact aJ.forget (K:=[(_,_)]) (List.Perm.swap _ _ _)
 ·have hd:=bI g1;have hk0:k=t.length:=by omega
  subst hk0;have:=hend b';rw[Wo (VC _)]
  repeat' (first|exact this|refine st ?_|refine sb λnb_ hnb_=>?_|refine s2 (λh=>?_) λh=>?_|fail)
def Fj(q:Nat)(o:Option Nat)(tb:Nat)(j:Nat)(s:aV):List AV:=if j=q then [.Xm s.pc,aO o s.regs.length,.sl tb 0 s.taint.length,.Xm s.ev]else s.enc
def iN(q:Nat)(o:Option Nat)(tb:Nat)(l:List aV):List (List AV):=l.zipIdx.map λp=>Fj q o tb p.2 p.1
theorem cY(q:Nat)(o:Option Nat)(tb:Nat)(l:List aV):(iN q o tb l).length=l.length:=by simp[iN]
theorem xR(q:Nat)(o:Option Nat)(tb:Nat)(l:List aV)(j:Nat)(hj:j<l.length):(iN q o tb l)[j]? =some (Fj q o tb j l[j]):=by simp[iN,hj]
theorem D6(q:Nat)(o o':Option Nat)(tb tb':Nat)(l:List aV)(k:Nat)(hk:k<l.length)(h:k≤q∨(o=o'∧tb=tb')):(iN q o' tb' l).take (k+1)=(iN q o tb l).take k++[Fj q o' tb' k l[k]]:=by
 apply WI;intro j;rcases Nat.lt_trichotomy j k with hj|hj|hj
 ·rw[VS (by simp[cY];omega),Wa hj,Wa Xh,xR _ _ _ _ _ Xh,xR _ _ _ _ _ Xh];rcases h with h|⟨rfl,rfl⟩
  ·simp[Fj,show j≠q by omega]
  ·rfl
 ·subst hj;rw[Wa Xh,xR _ _ _ _ _ hk,VK (by simp[cY];omega)];simp[cY,Wq (Nat.le_of_lt hk)]
 ·rw[VH (by simp;omega),VH (by simp[cY];omega)]
def pZ(q:Nat)(o:Option Nat)(tb:Nat)(l:List aV)(k:Nat):SH:=if q<k then ae o 1 ((l.getD q aV.zero).regs.map aj)++[(tb,⟨1,(l.getD q aV.zero).taint.map cp⟩)]else []
structure So(s:el)(q:Nat)(v:AV)(L:SH):Prop where
 ex:∃(oc of:Option Nat) (bt:Nat) (o:Option Nat) (tb:Nat),v=.agg [.nils,.Xm 0,.nils,.nils,aO oc s.cells.length,aO of s.futures.length,.sl bt 0 s.threads.length]∧
  L=(bt,⟨4,iN q o tb s.threads⟩)::(pZ q o tb s.threads s.threads.length++(ae oc 1 (s.cells.map aj)++ae of 1 (s.futures.map aj)))∧(oc=none→s.cells=[])∧(of=none→s.futures=[])∧(o=none→q<s.threads.length→(s.threads.getD q aV.zero).regs=[])
def bK:List AV:=[.nils,.Xm 0,.nils,.nils,.nils,.nils,.nils]
theorem PS(l:List aV)(q b1 b2 bt:Nat)(x y:AV)(hx:x=.lst []∨∃b n,x=.sl b 0 n)(hy:y=.lst []∨∃b n,y=.sl b 0 n)(E L0:SH)(hL0:L0.Perm ((bt,⟨4,[]⟩)::(b2,⟨7,[[.nils,.Xm 0,.nils,.nils,x,y,.sl bt 0 0]]⟩)::(b1,⟨7,[bK]⟩)::E))(h1:l.length≤2^30)(hr:∀s∈l,s.regs.length<2^40∧s.taint.length≤2^30∧∀r∈s.taint,r.length≤2^30)(Q:R)
  (hend:∀(o:Option Nat) (tb bt:Nat) (z:List AV),(o=none→q<l.length→(l.getD q aV.zero).regs=[])→Q (.agg [.nils,.Xm 0,.nils,.nils,x,y,.sl bt 0 l.length]) ((bt,⟨4,iN q o tb l⟩)::(b2,⟨7,[[.nils,.Xm 0,.nils,.nils,x,y,.sl bt 0 l.length]]⟩)::(b1,⟨7,[z]⟩)::(pZ q o tb l l.length++E))) :
  W.loop (eU Q) [.ptr b1 0 0,.ptr b2 0 0,.lst (l.map aV.enc),.Xm l.length,.Xm (0:Nat)] L0:=by
 refine cg l.length (λk (p:Nat×Option Nat×Nat)=>([.ptr b1 0 0,.ptr b2 0 0,.lst (l.map aV.enc),.Xm l.length,.Xm k],(p.1,⟨4,(iN q p.2.1 p.2.2 l).take k⟩)::(b2,⟨7,[[.nils,.Xm 0,.nils,.nils,x,y,.sl p.1 0 k]]⟩)::(b1,⟨7,[bK]⟩)::(pZ q p.2.1 p.2.2 l k++E))) (λk p=>p.2.1=none→q<k→(l.getD q aV.zero).regs=[]) (bt,none,0) (λ_ h=>by omega) (aJ.forget (K:=[]) (by simpa[pZ]using hL0)) ?_;rintro k ⟨bt,o,tb⟩ hk ho;dsimp only at ho ⊢;unfold eU;rcases Nat.lt_or_ge k l.length with g1|g1
 ·have hd:=bF g1;have hxx:=aw (f:=aV.enc) g1;obtain⟨r1,r2,r3⟩:=hr _ (VV g1);generalize hT:pZ q o tb l k++E=T;clear hx hy
  repeat' (first|refine st ?_|refine sb λnb_ hnb_=>?_|fail)
  refine GE (qz _ Xh) (by simp[rm,rz,W.free,aa]) ?_;rintro v K ⟨o',rfl,rfl,ho'⟩;unfold l7;have fin:∀(ka kb nb b':Nat) (xa xb:Blk) (L:SH),Dd L ((ka,xa)::(kb,xb)::(ae o' 1 ((l[k]).regs.map aj)++[(b',⟨1,(l[k]).taint.map cp⟩)])) ((nb,⟨4,(iN q o tb l).take k++[[.Xm (l[k]).pc,aO o' (l[k]).regs.length,.sl b' 0 (l[k]).taint.length,.Xm (l[k]).ev]]⟩)::(b2,⟨7,[[.nils,.Xm 0,.nils,.nils,x,y,.sl nb 0 (k+1)]]⟩)::(b1,⟨7,[bK]⟩)::T)→
    ∃(j:Nat) (p:Nat×Option Nat×Nat),k<j∧j≤l.length∧(p.2.1=none→q<j→(l.getD q aV.zero).regs=[])∧aJ [.ptr b1 0 0,.ptr b2 0 0,.lst (l.map aV.enc),.Xm l.length,.Xm (IntKind.i64.wrap ((k:Int)+1))] L
     [.ptr b1 0 0,.ptr b2 0 0,.lst (l.map aV.enc),.Xm l.length,.Xm j] ((p.1,⟨4,(iN q p.2.1 p.2.2 l).take j⟩)::(b2,⟨7,[[.nils,.Xm 0,.nils,.nils,x,y,.sl p.1 0 j]]⟩)::(b1,⟨7,[bK]⟩)::(pZ q p.2.1 p.2.2 l j++E)):=by
   intro ka kb nb b' xa xb L h;have hp:=h.perm.trans V6;subst hT;rw[aE g1 Xh];by_cases hkq:k=q
   ·subst hkq;refine⟨k+1,(nb,o',b'),Xh,Xh,λe _=>by simpa[List.getD,g1]using ho' e,?_⟩;dsimp only;rw[D6 k o o' tb b' l k g1 (.inl (Nat.le_refl _))];have e1:pZ k o tb l k=[]:=by simp[pZ]
    have e2:pZ k o' b' l (k+1)=ae o' 1 ((l[k]).regs.map aj)++[(b',⟨1,(l[k]).taint.map cp⟩)]:=by simp[pZ,List.getD,g1]
    have e3:Fj k o' b' k l[k]=[.Xm (l[k]).pc,aO o' (l[k]).regs.length,.sl b' 0 (l[k]).taint.length,.Xm (l[k]).ev]:=by simp[Fj]
    rw[e1]at hp;rw[e2,e3];refine aJ.forget (K:=[(ka,xa),(kb,xb)]) (hp.trans ?_);refine List.Perm.append_left [(ka,xa),(kb,xb)] ?_;exact List.perm_append_comm_assoc _ [_,_,_] E
   ·refine⟨k+1,(nb,o,tb),Xh,Xh,λe hq=>ho e Xh,?_⟩;dsimp only;have e1:pZ q o tb l (k+1)=pZ q o tb l k:=by
     by_cases hq:q<k
     ·simp[pZ,hq,show q<k+1 by omega]
     ·simp[pZ,hq,show¬q<k+1 by omega]
    rw[e1,D6 q o o tb tb l k g1 (.inr ⟨rfl,rfl⟩)];refine aJ.row hp Xk ?_;intro j r r' q1 q2;rcases VG j ((iN q o tb l).take k).length with hj|hj
    ·rw[VS hj]at q1 q2;rw[q1]at q2;cases q2;exact ji.refl _ _
    ·rw[VK hj]at q1 q2;rcases hm:j-((iN q o tb l).take k).length with _|m
     ·rw[hm]at q1 q2;cases q1;cases q2;rw[show Fj q o tb k l[k]=(l[k]).enc by simp[Fj,hkq]];refine .cons (.refl _) (.cons ?_ (.cons ?_ (.cons (.refl _) .nil)))
      ·exact lV rfl ho' λb e=>by subst e;simp[ae]
      ·exact lV (o:=some b') rfl nofun λb e=>by cases e;simp
     ·rw[hm]at q1;simp at q1
  cases o' with
  |none=>
   dsimp only[aO,ae,List.nil_append]
   repeat' (first|refine st ?_|refine sb λnb_ hnb_=>?_|fail)
   refine fW (i:=0) (j:=l[k].taint.length) Xh Xh Xh (λbt2 _=>?_)
   repeat' (first|refine st ?_|refine sb λnb_ hnb_=>?_|fail)
   refine QW l[k].pc l[k].ev _ l[k].taint r2 r3 _ _ _ _ _ _ bt2 _ _ (λb'=>?_);unfold eT
   repeat' (first|refine st ?_|refine pY rp rp (by simp[cY];omega) rfl (by simp[cY];omega) (by simp[cY];omega) rfl (λnb_ hnb_=>?_)|refine sb λnb_ hnb_=>?_|fail)
   rename_i ka _ _ kb _;exact fin ka kb nb_ b' _ _ _ rp
  |some c'=>
   dsimp only[aO,ae,List.cons_append,List.nil_append]
   repeat' (first|refine st ?_|refine sb λnb_ hnb_=>?_|fail)
   refine fW (i:=0) (j:=l[k].taint.length) Xh Xh Xh (λbt2 _=>?_)
   repeat' (first|refine st ?_|refine sb λnb_ hnb_=>?_|fail)
   refine QW l[k].pc l[k].ev _ l[k].taint r2 r3 _ _ _ _ _ _ bt2 _ _ (λb'=>?_);unfold eT
   repeat' (first|refine st ?_|refine pY rp rp (by simp[cY];omega) rfl (by simp[cY];omega) (by simp[cY];omega) rfl (λnb_ hnb_=>?_)|refine sb λnb_ hnb_=>?_|fail)
   rename_i ka _ _ kb _;exact fin ka kb nb_ b' _ _ _ rp
 ·have hd:=bI g1;have hk0:k=l.length:=by omega
  subst hk0;have:=λz=>hend o tb bt z ho
  rw[Wo (by rw[cY];exact VC _)];unfold bK;rcases hx with rfl|⟨_,_,rfl⟩<;>rcases hy with rfl|⟨_,_,rfl⟩
  all_goals
   repeat' (first|refine st ?_|refine sb λnb_ hnb_=>?_|refine s2 (λh=>?_) λh=>?_|fail)
   exact this _
theorem xS(o:Option Nat)(n:Nat):aO o n=.lst []∨∃b m,aO o n=.sl b 0 m:=by
 cases o with
 |none=>exact .inl rfl
 |some b=>exact .inr ⟨b,n,rfl⟩
theorem PT(s:el)(q:Nat)(h1:s.threads.length≤2^30)(h2:s.cells.length<2^40)(h3:s.futures.length<2^40)(hr:∀e∈s.threads,e.regs.length<2^40∧e.taint.length≤2^30∧∀r∈e.taint,r.length≤2^30):
  af Tryz.prog 51 [.agg s.enc] [] (So s q):=by
 refine af.fz (Ad _ _ _ ?_);unfold nN;generalize hQ:(λ(v:AV) (L:SH)=>∃v2 L2,aJ [v] L [v2] L2∧So s q v2 L2)=Q;unfold el.enc
 repeat' (first|refine st ?_|refine sb λnb_ hnb_=>?_|fail)
 revert nb_;intro b1 _;refine GE (qz s.cells Xh) (by simp[rm,rz,W.free,aa]) ?_;rintro v K ⟨oc,rfl,rfl,hoc⟩;unfold l9;have go:∀(of:Option Nat) (b2 bt:Nat) (L:SH),(of=none→s.futures=[])→Dd L ((bt,⟨4,[]⟩)::(b2,⟨7,[[.nils,.Xm 0,.nils,.nils,aO oc s.cells.length,aO of s.futures.length,.sl bt 0 0]]⟩)::(b1,⟨7,[bK]⟩)::(ae oc 1 (s.cells.map aj)++ae of 1 (s.futures.map aj))) []→
   W.loop (eU Q) [.ptr b1 0 0,.ptr b2 0 0,.lst (s.threads.map aV.enc),.Xm s.threads.length,.Xm (0:Nat)] L:=by
  intro of b2 bt L hof hL;refine PS s.threads q b1 b2 bt _ _ (xS _ _) (xS _ _) _ L (by simpa using hL.perm) h1 hr Q ?_;intro o tb bt z ho;subst hQ;refine⟨_,_,aJ.forget (K:=[(b2,_),(b1,_)]) (R:=(bt,⟨4,iN q o tb s.threads⟩)::(pZ q o tb s.threads s.threads.length++(ae oc 1 (s.cells.map aj)++ae of 1 (s.futures.map aj)))) ((List.Perm.swap _ _ _).trans ((List.Perm.swap _ _ _).cons _)),⟨oc,of,bt,o,tb,rfl,rfl,hoc,hof,ho⟩⟩
 cases oc
 all_goals
  dsimp only[aO,ae,List.nil_append,List.cons_append]at go ⊢
  repeat' (first|refine st ?_|refine sb λnb_ hnb_=>?_|fail)
  refine GE (qz s.futures Xh) (by simp[rm,rc,rz,W.free,aa]) ?_;rintro v K ⟨of,rfl,rfl,hof⟩;unfold l8;cases of
  all_goals
   dsimp only[aO,ae,List.nil_append,List.cons_append]
   repeat' (first|refine st ?_|refine sb λnb_ hnb_=>?_|fail)
   refine fW (i:=0) (j:=s.threads.length) Xh Xh Xh (λbt2 _=>?_)
   repeat' (first|refine st ?_|refine sb λnb_ hnb_=>?_|fail)
 ·exact go none nb_ bt2 _ hof rp
 ·exact go (some _) nb_ bt2 _ hof rp
 ·exact go none nb_ bt2 _ hof rp
 ·exact go (some _) nb_ bt2 _ hof rp
end
end Go.Proofs.YtdnpdghlggbklaaGreatDoor.Am
