/- A part of the proof; the statement is proved in the last part. -/
import Derived.Test.YtdnpdghlggbklaaGreatDoorQso
set_option linter.unusedSimpArgs false
set_option linter.unusedVariables false
namespace Go.Proofs.YtdnpdghlggbklaaGreatDoor.Am
section
set_option maxRecDepth 100000
set_option maxHeartbeats 2000000
def dD.zero:dD:=⟨0,0,0,0,0,[],[]⟩
def ie(e:Option dD):AV:=match e with
 |some e=>.tup [.agg e.enc,.bool true]
 |none=>.tup [.agg dD.zero.enc,.bool false]
def Ek(c:gL):Prop:=∀i∈c.ins,1≤i.op∧i.op≤28∧∀r∈bY i,0≤r∧r<c.regs
theorem mY{α:Type}{f:α→List AV}{l:List α}{i:Int}{d:α}(h:inB i l.length=true):(l.map f)[i.toNat]? =some (f (l.getD i.toNat d)):=by
 obtain⟨h1,h2⟩:=aw.1 h;have:i.toNat<l.length:=by omega
 simp[this]
theorem ku{α:Type}{l:List α}{i:Int}{d:α}(h:inB i l.length=true):l.getD i.toNat d∈l:=by
 obtain⟨h1,h2⟩:=aw.1 h;have:i.toNat<l.length:=by omega
 simp[this]
theorem Sz{op:Int}(h1:1≤op)(h2:op≤28):(ja.map (AV.Xw ·))[0+op.toNat*1]? =some (AV.Xw (lT op)):=by rcases ops op h1 h2 with rfl|rfl|rfl|rfl|rfl|rfl|rfl|rfl|rfl|rfl|rfl|rfl|rfl|rfl|rfl|rfl|rfl|rfl|rfl|rfl|rfl|rfl|rfl|rfl|rfl|rfl|rfl|rfl<;>rfl
theorem Hk(c:bI)(s:dE)(t:Int)(hi:∀x∈c.ts,Ek x)(hs:∀x∈s.threads,∀r,(x.tnt r).length*8≤140737488355328):ax Tryz.prog 26 [.agg c.enc,.agg s.enc,.Xw t] (ie (cJ c s t)):=by
 refine af.fz (Ei _ _ _ _ _ ?_);unfold sj;generalize hQ:(λ(v:AV) (L:SH)=>∃v2 L2,aF [v] L [v2] L2∧v2=ie (cJ c s t)∧L2=[])=Q;have no:gb c s t=false→∀L,Q (.tup [.agg [.Xw 0,.Xw 0,.Xw 0,.Xw 0,.Xw 0,.nils,.nils],.bool false]) L:=λh L=>by subst hQ;exact⟨_,[],aF.all (Fz.tups (.cons (Fz.aggs (m:=dD.zero.enc) (by exact fl)) (.cons (.refl _) .nil))),by rw[cJ,h];rfl,rfl⟩
 have non:cJ c s t=none→∀L,Q (.tup [.agg [.Xw 0,.Xw 0,.Xw 0,.Xw 0,.Xw 0,.nils,.nils],.bool false]) L:=λh L=>by subst hQ;exact⟨_,[],aF.all (Fz.tups (.cons (Fz.aggs (m:=dD.zero.enc) (by exact fl)) (.cons (.refl _) .nil))),by rw[h];rfl,rfl⟩
 have yes:∀e v,cJ c s t=some e→(∀K,iU K v e.enc)→∀L,Q (.tup [.agg v,.bool true]) L:=λe v h hv L=>by subst hQ;exact⟨_,[],aF.all (Fz.tups (.cons (Fz.aggs (hv _)) (.cons (.refl _) .nil))),by rw[h];rfl,rfl⟩
 clear hQ;by_cases h0:inB t c.ts.length=true∧inB t s.threads.length=true∧inB t s.sync.threads.length=true
 ·obtain⟨i1,i2,i3⟩:=h0;have x1:(c.ts.map gL.enc)[t.toNat]? =some (az c t).enc:=mY i1;have x2:(s.threads.map aU.enc)[t.toNat]? =some (bz s t).enc:=mY i2;have x3:(s.sync.threads.map ThrD.enc)[t.toNat]? =some (bE s.sync t).enc:=mY i3;have ok1:Ek (az c t):=hi _ (ku i1);have hs1:=hs _ (ku (d:=aU.zero) i2);rw[show s.threads.getD t.toNat aU.zero=bz s t from rfl]at hs1;have hr:gb c s t=(inB (bz s t).pc (az c t).ins.length&&decide (((bz s t).regs.length:Int)=(az c t).regs)&&decide (((bz s t).taint.length:Int)=(az c t).regs)):=by simp only[gb,i1,i2,i3,Bool.true_and]
  have i1':=aw.1 i1;have i2':=aw.1 i2;have i3':=aw.1 i3;have d1:decide (t<0)=false:=decide_eq_false Xr;have d2:decide (t≥c.ts.length)=false:=decide_eq_false Xr;have d3:decide (t≥s.threads.length)=false:=decide_eq_false Xr;have d4:decide (t≥s.sync.threads.length)=false:=decide_eq_false Xr;clear i1 i2 i3;unfold bI.enc dE.enc;by_cases hk:gb c s t=true
  ·have hk2:=hk;rw[hr]at hk2;simp only[V5,decide_eq_true_eq]at hk2;obtain⟨⟨j1,j2⟩,j3⟩:=hk2;have x4:((az c t).ins.map bj.enc)[(bz s t).pc.toNat]? =some (cM (az c t) (bz s t).pc).enc:=dK j1;have j1':=aw.1 j1;have d5:decide ((bz s t).pc<0)=false:=decide_eq_false Xr;have d6:decide ((bz s t).pc≥(az c t).ins.length)=false:=decide_eq_false Xr;have d7:decide (((bz s t).regs.length:Int)≠(az c t).regs)=false:=decide_eq_false (by simpa using j2);have d8:decide (((bz s t).taint.length:Int)≠(az c t).regs)=false:=decide_eq_false (by simpa using j3);obtain⟨o1,o2,o3⟩:=ok1 _ (ku (d:=default) j1);rw[show(az c t).ins.getD (bz s t).pc.toNat default=cM (az c t) (bz s t).pc from rfl]at o1 o2 o3;have hp:cJ c s t=(if(bE s.sync t).status=1 then some ⟨t,1,-1,0,-1,[],[]⟩
    else if(bE s.sync t).status=4 then some ⟨t,17,(bE s.sync t).cond,0,(cM (az c t) (bz s t).pc).site,[],[]⟩
    else if(bE s.sync t).status=2 then(if lT (cM (az c t) (bz s t).pc).op≠0 then some (pQ (cM (az c t) (bz s t).pc) (bz s t) t)else none)
    else none):=by rw[cJ,if_pos hk]
   rw[hp]at yes non;have hin:=OD (cM (az c t) (bz s t).pc) (bz s t) t o1 o2 (λr hr2=>by have:=o3 r hr2;omega) Xr hs1;clear hp hr hk no hs hi j1 j2 j3 ok1 hs1 o3;have kd:=Sz o1 o2;have h29:(cM (az c t) (bz s t).pc).op.toNat<29:=by omega
   have h00:0≤(cM (az c t) (bz s t).pc).op:=by omega
   generalize cM (az c t) (bz s t).pc=i at *;generalize az c t=ct at *;generalize bz s t=ts at *;generalize bE s.sync t=th at *;obtain⟨op,ia,ib,ic,m,site⟩:=i;rw[show bj.enc ⟨op,ia,ib,ic,m,site⟩=[.Xw op,.Xw ia,.Xw ib,.Xw ic,.Xw m,.Xw site]from rfl]at *;dsimp only at *;unfold gL.enc aU.enc ThrD.enc at *
   repeat' (first|refine st ?_|refine De h00 h29 ?_|refine Dc rfl kd ?_|(refine pf 53 ?_;refine pm (hin) ?_)|refine sb λnb_ hnb_=>?_|refine s2 (λh=>?_) λh=>?_|fail)
   ·exact yes _ _ (if_pos (by simpa using ‹decide (th.status=1)=true›)) (λK=>by exact fl) _
   ·exact yes _ _ (by rw[if_neg (by simpa using ‹decide (th.status=1)=false›),if_pos (by simpa using ‹decide (th.status=4)=true›)]) (λK=>by exact fl) _
   ·refine yes _ _ (by rw[if_neg (by simpa using ‹decide (th.status=1)=false›),if_neg (by simpa using ‹decide (th.status=4)=false›),if_pos (by simpa using ‹decide (th.status=2)=true›),if_pos (by simp_all)]) (λK=>?_) _;exact fl
   ·refine non ?_ _;rw[if_neg (by simpa using ‹decide (th.status=1)=false›),if_neg (by simpa using ‹decide (th.status=4)=false›),if_pos (by simpa using ‹decide (th.status=2)=true›),if_neg (by simp_all)]
   ·refine non ?_ _;rw[if_neg (by simpa using ‹decide (th.status=1)=false›),if_neg (by simpa using ‹decide (th.status=4)=false›),if_neg (by simpa using ‹decide (th.status=2)=false›)]
  ·have hz:=no (by simpa using hk);rw[hr]at hk;generalize az c t=ct at *;generalize bz s t=ts at *;generalize bE s.sync t=th at *;unfold gL.enc aU.enc ThrD.enc at *
   repeat' (first|refine st ?_|refine sb λnb_ hnb_=>?_|refine s2 (λh=>?_) λh=>?_|fail)
   all_goals first
    |exact hz _
    |(exfalso;simp_all[inB]<;>omega)
 ·have hn:gb c s t=false:=by unfold gb;simp only[Bool.and_eq_false_iff];simp only[not_and,Bool.not_eq_true]at h0;cases h1:inB t c.ts.length<;>cases h2:inB t s.threads.length<;>simp_all
  have hz:=no hn;unfold bI.enc dE.enc
  repeat' (first|refine st ?_|refine sb λnb_ hnb_=>?_|refine s2 (λh=>?_) λh=>?_|fail)
  all_goals first
   |exact hz _
   |(exfalso;simp_all[inB]<;>omega)
end
section
set_option maxRecDepth 100000
set_option maxHeartbeats 2000000
set_option linter.unusedSimpArgs false
set_option linter.unusedSectionVars false
theorem pU{b bX i k n by_:Nat}{rows m:List (List AV)}{L L':SH}{KL:AV→SH→Prop}(hX:(bX,(⟨n,m⟩:Blk))∈L)(hd:eI b ⟨n,rows⟩ L L')(hr:rows.length=i)(hk:k=m.length)(h2:2*(i+m.length)*by_≤2^48)(h3:2*(i+m.length)≤2^62)(h4:(m.all λr=>r.all AV.one)=true)
  (h:∀b',b'∉L.names→KL (.sl b' 0 (i+m.length)) ((b',⟨n,rows++m⟩)::L')):W.append n by_ (.sl b 0 i) (.sl bX 0 k) L KL:=by
 subst hk;subst hr;exact qh (y:=⟨n,rows⟩) (l:=rows) hd.mem' rfl Xu Xu (mD hX rfl rfl) h2 h3 h4 hd (λb' hb=>h b' hb)
theorem Rb(pc ev:Int)(g:AV)(t:List (List Int))(h1:t.length≤2^30)(h3:∀l∈t,l.length≤2^30)(x1 x2 x4 x5 x6:AV)(b bt:Nat)(R:SH)(n37:W.Kn)
  (hend:∀b',eK n37 ((b',⟨1,t.map cp⟩)::(b,⟨4,[[.Xw pc,g,.sl b' 0 t.length,.Xw ev]]⟩)::R) x2 (.ptr b 0 0) x6 x1 x4 x5) :
  W.loop (gQ n37) [x1,x2,.ptr b 0 0,x4,x5,x6,.lst (t.map cp),.Xw t.length,.Xw (0:Nat)] ((bt,⟨1,[]⟩)::(b,⟨4,[[.Xw pc,g,.sl bt 0 0,.Xw ev]]⟩)::R):=by
 refine cb t.length (λk (b':Nat)=>([x1,x2,.ptr b 0 0,x4,x5,x6,.lst (t.map cp),.Xw t.length,.Xw k],(b',⟨1,(t.take k).map cp⟩)::(b,⟨4,[[.Xw pc,g,.sl b' 0 k,.Xw ev]]⟩)::R)) (λ_ _=>True) bt trivial (.refl _ _) ?_;intro k b' hk _;dsimp only;unfold gQ;rcases Nat.lt_or_ge k t.length with g1|g1
 ·have hd:=bK g1;have hx:=ay (f:=cp) g1;have hrk:(t[k]).length*8≤140737488355328:=by have:=h3 _ (V3 g1);omega
  repeat' (first|refine st ?_|(refine pf 81 ?_;refine pm (cR _ hrk) ?_)|refine pU rp rp (by simp;omega) rfl (by simp;omega) (by simp;omega) rfl (λnb_ hnb_=>?_)|refine sb λnb_ hnb_=>?_|refine s2 (λh=>?_) λh=>?_|fail)
  refine⟨k+1,nb_,Xr,Xr,trivial,?_⟩;rw[aD g1 Xr,VV g1,VQ];exact aF.forget (K:=[(_,_)]) (List.Perm.swap _ _ _)
 ·have hd:=bO g1;have hk0:k=t.length:=by omega
  subst hk0;have:=hend b';rw[Wx (VL _)]
  repeat' (first|exact this|refine st ?_|refine sb λnb_ hnb_=>?_|refine s2 (λh=>?_) λh=>?_|fail)
def FD(q:Nat)(o:Option Nat)(tb:Nat)(j:Nat)(s:aU):List AV:=if j=q then [.Xw s.pc,aP o s.regs.length,.sl tb 0 s.taint.length,.Xw s.ev]else s.enc
def iH(q:Nat)(o:Option Nat)(tb:Nat)(l:List aU):List (List AV):=l.zipIdx.map λp=>FD q o tb p.2 p.1
theorem cY(q:Nat)(o:Option Nat)(tb:Nat)(l:List aU):(iH q o tb l).length=l.length:=by simp[iH]
theorem xG(q:Nat)(o:Option Nat)(tb:Nat)(l:List aU)(j:Nat)(hj:j<l.length):(iH q o tb l)[j]? =some (FD q o tb j l[j]):=by simp[iH,hj]
theorem El(q:Nat)(o o':Option Nat)(tb tb':Nat)(l:List aU)(k:Nat)(hk:k<l.length)(h:k≤q∨(o=o'∧tb=tb')):(iH q o' tb' l).take (k+1)=(iH q o tb l).take k++[FD q o' tb' k l[k]]:=by
 apply WU;intro j;rcases Nat.lt_trichotomy j k with hj|hj|hj
 ·rw[V1 (by simp[cY];omega),Wj hj,Wj Xr,xG _ _ _ _ _ Xr,xG _ _ _ _ _ Xr];rcases h with h|⟨rfl,rfl⟩
  ·simp[FD,show j≠q by omega]
  ·rfl
 ·subst hj;rw[Wj Xr,xG _ _ _ _ _ hk,VS (by simp[cY];omega)];simp[cY,Wz (Nat.le_of_lt hk)]
 ·rw[VP (by simp;omega),VP (by simp[cY];omega)]
def pV(q:Nat)(o:Option Nat)(tb:Nat)(l:List aU)(k:Nat):SH:=if q<k then ae o 1 ((l.getD q aU.zero).regs.map aj)++[(tb,⟨1,(l.getD q aU.zero).taint.map cp⟩)]else []
structure SA(s:dE)(q:Nat)(v:AV)(L:SH):Prop where
 ex:∃(oc of:Option Nat) (bt:Nat) (o:Option Nat) (tb:Nat),v=.agg [.nils,.Xw 0,.nils,.nils,aP oc s.cells.length,aP of s.futures.length,.sl bt 0 s.threads.length]∧
  L=(bt,⟨4,iH q o tb s.threads⟩)::(pV q o tb s.threads s.threads.length++(ae oc 1 (s.cells.map aj)++ae of 1 (s.futures.map aj)))∧(oc=none→s.cells=[])∧(of=none→s.futures=[])∧(o=none→q<s.threads.length→(s.threads.getD q aU.zero).regs=[])
def bL:List AV:=[.nils,.Xw 0,.nils,.nils,.nils,.nils,.nils]
theorem Qd(l:List aU)(q b1 b2 bt:Nat)(x y:AV)(hx:x=.lst []∨∃b n,x=.sl b 0 n)(hy:y=.lst []∨∃b n,y=.sl b 0 n)(E L0:SH)(hL0:L0.Perm ((bt,⟨4,[]⟩)::(b2,⟨7,[[.nils,.Xw 0,.nils,.nils,x,y,.sl bt 0 0]]⟩)::(b1,⟨7,[bL]⟩)::E))(h1:l.length≤2^30)(hr:∀s∈l,s.regs.length<2^40∧s.taint.length≤2^30∧∀r∈s.taint,r.length≤2^30)(Q:R)
  (hend:∀(o:Option Nat) (tb bt:Nat) (z:List AV),(o=none→q<l.length→(l.getD q aU.zero).regs=[])→Q (.agg [.nils,.Xw 0,.nils,.nils,x,y,.sl bt 0 l.length]) ((bt,⟨4,iH q o tb l⟩)::(b2,⟨7,[[.nils,.Xw 0,.nils,.nils,x,y,.sl bt 0 l.length]]⟩)::(b1,⟨7,[z]⟩)::(pV q o tb l l.length++E))) :
  W.loop (eM Q) [.ptr b1 0 0,.ptr b2 0 0,.lst (l.map aU.enc),.Xw l.length,.Xw (0:Nat)] L0:=by
 refine cb l.length (λk (p:Nat×Option Nat×Nat)=>([.ptr b1 0 0,.ptr b2 0 0,.lst (l.map aU.enc),.Xw l.length,.Xw k],(p.1,⟨4,(iH q p.2.1 p.2.2 l).take k⟩)::(b2,⟨7,[[.nils,.Xw 0,.nils,.nils,x,y,.sl p.1 0 k]]⟩)::(b1,⟨7,[bL]⟩)::(pV q p.2.1 p.2.2 l k++E))) (λk p=>p.2.1=none→q<k→(l.getD q aU.zero).regs=[]) (bt,none,0) (λ_ h=>by omega) (aF.forget (K:=[]) (by simpa[pV]using hL0)) ?_;rintro k ⟨bt,o,tb⟩ hk ho;dsimp only at ho ⊢;unfold eM;rcases Nat.lt_or_ge k l.length with g1|g1
 ·have hd:=bK g1;have hxx:=ay (f:=aU.enc) g1;obtain⟨r1,r2,r3⟩:=hr _ (V3 g1);generalize hT:pV q o tb l k++E=T;clear hx hy
  repeat' (first|refine st ?_|refine sb λnb_ hnb_=>?_|fail)
  refine GR (qk _ Xr) (by simp[rm,rz,W.free,aa]) ?_;rintro v K ⟨o',rfl,rfl,ho'⟩;unfold lU;have fin:∀(ka kb nb b':Nat) (xa xb:Blk) (L:SH),Dl L ((ka,xa)::(kb,xb)::(ae o' 1 ((l[k]).regs.map aj)++[(b',⟨1,(l[k]).taint.map cp⟩)])) ((nb,⟨4,(iH q o tb l).take k++[[.Xw (l[k]).pc,aP o' (l[k]).regs.length,.sl b' 0 (l[k]).taint.length,.Xw (l[k]).ev]]⟩)::(b2,⟨7,[[.nils,.Xw 0,.nils,.nils,x,y,.sl nb 0 (k+1)]]⟩)::(b1,⟨7,[bL]⟩)::T)→
    ∃(j:Nat) (p:Nat×Option Nat×Nat),k<j∧j≤l.length∧(p.2.1=none→q<j→(l.getD q aU.zero).regs=[])∧aF [.ptr b1 0 0,.ptr b2 0 0,.lst (l.map aU.enc),.Xw l.length,.Xw (IntKind.i64.wrap ((k:Int)+1))] L
     [.ptr b1 0 0,.ptr b2 0 0,.lst (l.map aU.enc),.Xw l.length,.Xw j] ((p.1,⟨4,(iH q p.2.1 p.2.2 l).take j⟩)::(b2,⟨7,[[.nils,.Xw 0,.nils,.nils,x,y,.sl p.1 0 j]]⟩)::(b1,⟨7,[bL]⟩)::(pV q p.2.1 p.2.2 l j++E)):=by
   intro ka kb nb b' xa xb L h;have hp:=h.perm.trans Wf;subst hT;rw[aD g1 Xr];by_cases hkq:k=q
   ·subst hkq;refine⟨k+1,(nb,o',b'),Xr,Xr,λe _=>by simpa[List.getD,g1]using ho' e,?_⟩;dsimp only;rw[El k o o' tb b' l k g1 (.inl (Nat.le_refl _))];have e1:pV k o tb l k=[]:=by simp[pV]
    have e2:pV k o' b' l (k+1)=ae o' 1 ((l[k]).regs.map aj)++[(b',⟨1,(l[k]).taint.map cp⟩)]:=by simp[pV,List.getD,g1]
    have e3:FD k o' b' k l[k]=[.Xw (l[k]).pc,aP o' (l[k]).regs.length,.sl b' 0 (l[k]).taint.length,.Xw (l[k]).ev]:=by simp[FD]
    rw[e1]at hp;rw[e2,e3];refine aF.forget (K:=[(ka,xa),(kb,xb)]) (hp.trans ?_);refine List.Perm.append_left [(ka,xa),(kb,xb)] ?_;exact List.perm_append_comm_assoc _ [_,_,_] E
   ·refine⟨k+1,(nb,o,tb),Xr,Xr,λe hq=>ho e Xr,?_⟩;dsimp only;have e1:pV q o tb l (k+1)=pV q o tb l k:=by
     by_cases hq:q<k
     ·simp[pV,hq,show q<k+1 by omega]
     ·simp[pV,hq,show¬q<k+1 by omega]
    rw[e1,El q o o tb tb l k g1 (.inr ⟨rfl,rfl⟩)];refine aF.row hp Xu ?_;intro j r r' q1 q2;rcases VO j ((iH q o tb l).take k).length with hj|hj
    ·rw[V1 hj]at q1 q2;rw[q1]at q2;cases q2;exact iU.refl _ _
    ·rw[VS hj]at q1 q2;rcases hm:j-((iH q o tb l).take k).length with _|m
     ·rw[hm]at q1 q2;cases q1;cases q2;rw[show FD q o tb k l[k]=(l[k]).enc by simp[FD,hkq]];refine .cons (.refl _) (.cons ?_ (.cons ?_ (.cons (.refl _) .nil)))
      ·exact lM rfl ho' λb e=>by subst e;simp[ae]
      ·exact lM (o:=some b') rfl nofun λb e=>by cases e;simp
     ·rw[hm]at q1;simp at q1
  cases o' with
  |none=>
   dsimp only[aP,ae,List.nil_append]
   repeat' (first|refine st ?_|refine sb λnb_ hnb_=>?_|fail)
   refine fR (i:=0) (j:=l[k].taint.length) Xr Xr Xr (λbt2 _=>?_)
   repeat' (first|refine st ?_|refine sb λnb_ hnb_=>?_|fail)
   refine Rb l[k].pc l[k].ev _ l[k].taint r2 r3 _ _ _ _ _ _ bt2 _ _ (λb'=>?_);unfold eK
   repeat' (first|refine st ?_|refine pU rp rp (by simp[cY];omega) rfl (by simp[cY];omega) (by simp[cY];omega) rfl (λnb_ hnb_=>?_)|refine sb λnb_ hnb_=>?_|fail)
   rename_i ka _ _ kb _;exact fin ka kb nb_ b' _ _ _ rp
  |some c'=>
   dsimp only[aP,ae,List.cons_append,List.nil_append]
   repeat' (first|refine st ?_|refine sb λnb_ hnb_=>?_|fail)
   refine fR (i:=0) (j:=l[k].taint.length) Xr Xr Xr (λbt2 _=>?_)
   repeat' (first|refine st ?_|refine sb λnb_ hnb_=>?_|fail)
   refine Rb l[k].pc l[k].ev _ l[k].taint r2 r3 _ _ _ _ _ _ bt2 _ _ (λb'=>?_);unfold eK
   repeat' (first|refine st ?_|refine pU rp rp (by simp[cY];omega) rfl (by simp[cY];omega) (by simp[cY];omega) rfl (λnb_ hnb_=>?_)|refine sb λnb_ hnb_=>?_|fail)
   rename_i ka _ _ kb _;exact fin ka kb nb_ b' _ _ _ rp
 ·have hd:=bO g1;have hk0:k=l.length:=by omega
  subst hk0;have:=λz=>hend o tb bt z ho
  rw[Wx (by rw[cY];exact VL _)];unfold bL;rcases hx with rfl|⟨_,_,rfl⟩<;>rcases hy with rfl|⟨_,_,rfl⟩
  all_goals
   repeat' (first|refine st ?_|refine sb λnb_ hnb_=>?_|refine s2 (λh=>?_) λh=>?_|fail)
   exact this _
theorem xH(o:Option Nat)(n:Nat):aP o n=.lst []∨∃b m,aP o n=.sl b 0 m:=by
 cases o with
 |none=>exact .inl rfl
 |some b=>exact .inr ⟨b,n,rfl⟩
theorem Qe(s:dE)(q:Nat)(h1:s.threads.length≤2^30)(h2:s.cells.length<2^40)(h3:s.futures.length<2^40)(hr:∀e∈s.threads,e.regs.length<2^40∧e.taint.length≤2^30∧∀r∈e.taint,r.length≤2^30):
  af Tryz.prog 51 [.agg s.enc] [] (SA s q):=by
 refine af.fz (Ag _ _ _ ?_);unfold nI;generalize hQ:(λ(v:AV) (L:SH)=>∃v2 L2,aF [v] L [v2] L2∧SA s q v2 L2)=Q;unfold dE.enc
 repeat' (first|refine st ?_|refine sb λnb_ hnb_=>?_|fail)
 revert nb_;intro b1 _;refine GR (qk s.cells Xr) (by simp[rm,rz,W.free,aa]) ?_;rintro v K ⟨oc,rfl,rfl,hoc⟩;unfold lW;have go:∀(of:Option Nat) (b2 bt:Nat) (L:SH),(of=none→s.futures=[])→Dl L ((bt,⟨4,[]⟩)::(b2,⟨7,[[.nils,.Xw 0,.nils,.nils,aP oc s.cells.length,aP of s.futures.length,.sl bt 0 0]]⟩)::(b1,⟨7,[bL]⟩)::(ae oc 1 (s.cells.map aj)++ae of 1 (s.futures.map aj))) []→
   W.loop (eM Q) [.ptr b1 0 0,.ptr b2 0 0,.lst (s.threads.map aU.enc),.Xw s.threads.length,.Xw (0:Nat)] L:=by
  intro of b2 bt L hof hL;refine Qd s.threads q b1 b2 bt _ _ (xH _ _) (xH _ _) _ L (by simpa using hL.perm) h1 hr Q ?_;intro o tb bt z ho;subst hQ;refine⟨_,_,aF.forget (K:=[(b2,_),(b1,_)]) (R:=(bt,⟨4,iH q o tb s.threads⟩)::(pV q o tb s.threads s.threads.length++(ae oc 1 (s.cells.map aj)++ae of 1 (s.futures.map aj)))) ((List.Perm.swap _ _ _).trans ((List.Perm.swap _ _ _).cons _)),⟨oc,of,bt,o,tb,rfl,rfl,hoc,hof,ho⟩⟩
 cases oc
 all_goals
  dsimp only[aP,ae,List.nil_append,List.cons_append]at go ⊢
  repeat' (first|refine st ?_|refine sb λnb_ hnb_=>?_|fail)
  refine GR (qk s.futures Xr) (by simp[rm,rc,rz,W.free,aa]) ?_;rintro v K ⟨of,rfl,rfl,hof⟩;unfold lV;cases of
  all_goals
   dsimp only[aP,ae,List.nil_append,List.cons_append]
   repeat' (first|refine st ?_|refine sb λnb_ hnb_=>?_|fail)
   refine fR (i:=0) (j:=s.threads.length) Xr Xr Xr (λbt2 _=>?_)
   repeat' (first|refine st ?_|refine sb λnb_ hnb_=>?_|fail)
 ·exact go none nb_ bt2 _ hof rp
 ·exact go (some _) nb_ bt2 _ hof rp
 ·exact go none nb_ bt2 _ hof rp
 ·exact go (some _) nb_ bt2 _ hof rp
end
end Go.Proofs.YtdnpdghlggbklaaGreatDoor.Am
