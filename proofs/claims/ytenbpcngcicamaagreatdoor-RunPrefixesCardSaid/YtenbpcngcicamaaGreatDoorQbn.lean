/- A part of the proof; the statement is proved in the last part. -/
import Derived.Test.YtenbpcngcicamaaGreatDoorQbm
set_option linter.unusedSimpArgs false
set_option linter.unusedVariables false
namespace Go.Proofs.YtenbpcngcicamaaGreatDoor.Am
section
set_option maxRecDepth 100000
set_option maxHeartbeats 2000000
def da.zero:da:=⟨0,0,0,0,0,[],[]⟩
def Ll(e:Option da):AV:=match e with
 |some e=>.tup [.agg e.enc,.bool true]
 |none=>.tup [.agg da.zero.enc,.bool false]
def D1(c:iy):Prop:=∀i∈c.ins,1≤i.op∧i.op≤28∧∀r∈bS i,0≤r∧r<c.regs
theorem mZ{α:Type}{f:α→List AV}{l:List α}{i:Int}{d:α}(h:inB i l.length=true):(l.map f)[i.toNat]? =some (f (l.getD i.toNat d)):=by
 obtain⟨h1,h2⟩:=ax.1 h;have:i.toNat<l.length:=by omega
 simp[this]
theorem iS{α:Type}{l:List α}{i:Int}{d:α}(h:inB i l.length=true):l.getD i.toNat d∈l:=by
 obtain⟨h1,h2⟩:=ax.1 h;have:i.toNat<l.length:=by omega
 simp[this]
theorem Sc{op:Int}(h1:1≤op)(h2:op≤28):(kJ.map (AV.W6 ·))[0+op.toNat*1]? =some (AV.W6 (pP op)):=by rcases ops op h1 h2 with rfl|rfl|rfl|rfl|rfl|rfl|rfl|rfl|rfl|rfl|rfl|rfl|rfl|rfl|rfl|rfl|rfl|rfl|rfl|rfl|rfl|rfl|rfl|rfl|rfl|rfl|rfl|rfl<;>rfl
theorem PP(c:bN)(s:eh)(t:Int)(hi:∀x∈c.ts,D1 x)(hs:∀x∈s.threads,∀r,(x.tnt r).length*8≤140737488355328):az Tryz.prog 55 [.agg c.enc,.agg s.enc,.W6 t] (Ll (hM c s t)):=by
 refine af.fz (DZ _ _ _ _ _ ?_);unfold sB;generalize hQ:(λ(v:AV) (L:SH)=>∃v2 L2,aG [v] L [v2] L2∧v2=Ll (hM c s t)∧L2=[])=Q;have no:jv c s t=false→∀L,Q (.tup [.agg [.W6 0,.W6 0,.W6 0,.W6 0,.W6 0,.nils,.nils],.bool false]) L:=λh L=>by subst hQ;exact⟨_,[],aG.all (Fz.tups (.cons (Fz.aggs (m:=da.zero.enc) (by exact fl)) (.cons (.refl _) .nil))),by rw[hM,h];rfl,rfl⟩
 have non:hM c s t=none→∀L,Q (.tup [.agg [.W6 0,.W6 0,.W6 0,.W6 0,.W6 0,.nils,.nils],.bool false]) L:=λh L=>by subst hQ;exact⟨_,[],aG.all (Fz.tups (.cons (Fz.aggs (m:=da.zero.enc) (by exact fl)) (.cons (.refl _) .nil))),by rw[h];rfl,rfl⟩
 have yes:∀e v,hM c s t=some e→(∀K,i9 K v e.enc)→∀L,Q (.tup [.agg v,.bool true]) L:=λe v h hv L=>by subst hQ;exact⟨_,[],aG.all (Fz.tups (.cons (Fz.aggs (hv _)) (.cons (.refl _) .nil))),by rw[h];rfl,rfl⟩
 clear hQ;by_cases h0:inB t c.ts.length=true∧inB t s.threads.length=true∧inB t s.sync.threads.length=true
 ·obtain⟨i1,i2,i3⟩:=h0;have x1:(c.ts.map iy.enc)[t.toNat]? =some (aB c t).enc:=mZ i1;have x2:(s.threads.map aV.enc)[t.toNat]? =some (bJ s t).enc:=mZ i2;have x3:(s.sync.threads.map ThrD.enc)[t.toNat]? =some (cj s.sync t).enc:=mZ i3;have ok1:D1 (aB c t):=hi _ (iS i1);have hs1:=hs _ (iS (d:=aV.zero) i2);rw[show s.threads.getD t.toNat aV.zero=bJ s t from rfl]at hs1;have hr:jv c s t=(inB (bJ s t).pc (aB c t).ins.length&&decide (((bJ s t).regs.length:Int)=(aB c t).regs)&&decide (((bJ s t).taint.length:Int)=(aB c t).regs)):=by simp only[jv,i1,i2,i3,Bool.true_and]
  have i1':=ax.1 i1;have i2':=ax.1 i2;have i3':=ax.1 i3;have d1:decide (t<0)=false:=decide_eq_false W1;have d2:decide (t≥c.ts.length)=false:=decide_eq_false W1;have d3:decide (t≥s.threads.length)=false:=decide_eq_false W1;have d4:decide (t≥s.sync.threads.length)=false:=decide_eq_false W1;clear i1 i2 i3;unfold bN.enc eh.enc;by_cases hk:jv c s t=true
  ·have hk2:=hk;rw[hr]at hk2;simp only[VP,decide_eq_true_eq]at hk2;obtain⟨⟨j1,j2⟩,j3⟩:=hk2;have x4:((aB c t).ins.map bj.enc)[(bJ s t).pc.toNat]? =some (dk (aB c t) (bJ s t).pc).enc:=dJ j1;have j1':=ax.1 j1;have d5:decide ((bJ s t).pc<0)=false:=decide_eq_false W1;have d6:decide ((bJ s t).pc≥(aB c t).ins.length)=false:=decide_eq_false W1;have d7:decide (((bJ s t).regs.length:Int)≠(aB c t).regs)=false:=decide_eq_false (by simpa using j2);have d8:decide (((bJ s t).taint.length:Int)≠(aB c t).regs)=false:=decide_eq_false (by simpa using j3);obtain⟨o1,o2,o3⟩:=ok1 _ (iS (d:=default) j1);rw[show(aB c t).ins.getD (bJ s t).pc.toNat default=dk (aB c t) (bJ s t).pc from rfl]at o1 o2 o3;have hp:hM c s t=(if(cj s.sync t).status=1 then some ⟨t,1,-1,0,-1,[],[]⟩
    else if(cj s.sync t).status=4 then some ⟨t,17,(cj s.sync t).cond,0,(dk (aB c t) (bJ s t).pc).site,[],[]⟩
    else if(cj s.sync t).status=2 then(if pP (dk (aB c t) (bJ s t).pc).op≠0 then some (lW (dk (aB c t) (bJ s t).pc) (bJ s t) t)else none)
    else none):=by rw[hM,if_pos hk]
   rw[hp]at yes non;have hin:=Od (dk (aB c t) (bJ s t).pc) (bJ s t) t o1 o2 (λr hr2=>by have:=o3 r hr2;omega) W1 hs1;clear hp hr hk no hs hi j1 j2 j3 ok1 hs1 o3;have kd:=Sc o1 o2;have h29:(dk (aB c t) (bJ s t).pc).op.toNat<29:=by omega
   have h00:0≤(dk (aB c t) (bJ s t).pc).op:=by omega
   generalize dk (aB c t) (bJ s t).pc=i at *;generalize aB c t=ct at *;generalize bJ s t=ts at *;generalize cj s.sync t=th at *;obtain⟨op,ia,ib,ic,m,site⟩:=i;rw[show bj.enc ⟨op,ia,ib,ic,m,site⟩=[.W6 op,.W6 ia,.W6 ib,.W6 ic,.W6 m,.W6 site]from rfl]at *;dsimp only at *;unfold iy.enc aV.enc ThrD.enc at *
   repeat' (first|refine st ?_|refine C2 h00 h29 ?_|refine C0 rfl kd ?_|(refine pf 83 ?_;refine pm (hin) ?_)|refine sb λnb_ hnb_=>?_|refine s2 (λh=>?_) λh=>?_|fail)
   ·exact yes _ _ (if_pos (by simpa using ‹decide (th.status=1)=true›)) (λK=>by exact fl) _
   ·exact yes _ _ (by rw[if_neg (by simpa using ‹decide (th.status=1)=false›),if_pos (by simpa using ‹decide (th.status=4)=true›)]) (λK=>by exact fl) _
   ·refine yes _ _ (by rw[if_neg (by simpa using ‹decide (th.status=1)=false›),if_neg (by simpa using ‹decide (th.status=4)=false›),if_pos (by simpa using ‹decide (th.status=2)=true›),if_pos (by simp_all)]) (λK=>?_) _;exact fl
   ·refine non ?_ _;rw[if_neg (by simpa using ‹decide (th.status=1)=false›),if_neg (by simpa using ‹decide (th.status=4)=false›),if_pos (by simpa using ‹decide (th.status=2)=true›),if_neg (by simp_all)]
   ·refine non ?_ _;rw[if_neg (by simpa using ‹decide (th.status=1)=false›),if_neg (by simpa using ‹decide (th.status=4)=false›),if_neg (by simpa using ‹decide (th.status=2)=false›)]
  ·have hz:=no (by simpa using hk);rw[hr]at hk;generalize aB c t=ct at *;generalize bJ s t=ts at *;generalize cj s.sync t=th at *;unfold iy.enc aV.enc ThrD.enc at *
   repeat' (first|refine st ?_|refine sb λnb_ hnb_=>?_|refine s2 (λh=>?_) λh=>?_|fail)
   all_goals first
    |exact hz _
    |(exfalso;simp_all[inB]<;>omega)
 ·have hn:jv c s t=false:=by unfold jv;simp only[Bool.and_eq_false_iff];simp only[not_and,Bool.not_eq_true]at h0;cases h1:inB t c.ts.length<;>cases h2:inB t s.threads.length<;>simp_all
  have hz:=no hn;unfold bN.enc eh.enc
  repeat' (first|refine st ?_|refine sb λnb_ hnb_=>?_|refine s2 (λh=>?_) λh=>?_|fail)
  all_goals first
   |exact hz _
   |(exfalso;simp_all[inB]<;>omega)
end
section
set_option maxRecDepth 100000
set_option maxHeartbeats 2000000
set_option linter.unusedSimpArgs false
set_option linter.unusedSectionVars false
theorem pT{b bX i k n by_:Nat}{rows m:List (List AV)}{L L':SH}{KL:AV→SH→Prop}(hX:(bX,(⟨n,m⟩:Blk))∈L)(hd:eJ b ⟨n,rows⟩ L L')(hr:rows.length=i)(hk:k=m.length)(h2:2*(i+m.length)*by_≤2^48)(h3:2*(i+m.length)≤2^62)(h4:(m.all λr=>r.all AV.one)=true)
  (h:∀b',b'∉L.names→KL (.sl b' 0 (i+m.length)) ((b',⟨n,rows++m⟩)::L')):W.append n by_ (.sl b 0 i) (.sl bX 0 k) L KL:=by
 subst hk;subst hr;exact qk (y:=⟨n,rows⟩) (l:=rows) hd.mem' rfl W4 W4 (mF hX rfl rfl) h2 h3 h4 hd (λb' hb=>h b' hb)
theorem QM(pc ev:Int)(g:AV)(t:List (List Int))(h1:t.length≤2^30)(h3:∀l∈t,l.length≤2^30)(x1 x2 x4 x5 x6:AV)(b bt:Nat)(R:SH)(n37:W.Kn)
  (hend:∀b',eM n37 ((b',⟨1,t.map cm⟩)::(b,⟨4,[[.W6 pc,g,.sl b' 0 t.length,.W6 ev]]⟩)::R) x2 (.ptr b 0 0) x6 x1 x4 x5) :
  W.loop (gL n37) [x1,x2,.ptr b 0 0,x4,x5,x6,.lst (t.map cm),.W6 t.length,.W6 (0:Nat)] ((bt,⟨1,[]⟩)::(b,⟨4,[[.W6 pc,g,.sl bt 0 0,.W6 ev]]⟩)::R):=by
 refine cb t.length (λk (b':Nat)=>([x1,x2,.ptr b 0 0,x4,x5,x6,.lst (t.map cm),.W6 t.length,.W6 k],(b',⟨1,(t.take k).map cm⟩)::(b,⟨4,[[.W6 pc,g,.sl b' 0 k,.W6 ev]]⟩)::R)) (λ_ _=>True) bt trivial (.refl _ _) ?_;intro k b' hk _;dsimp only;unfold gL;rcases Nat.lt_or_ge k t.length with g1|g1
 ·have hd:=bI g1;have hx:=aw (f:=cm) g1;have hrk:(t[k]).length*8≤140737488355328:=by have:=h3 _ (VF g1);omega
  repeat' (first|refine st ?_|(refine pf 93 ?_;refine pm (cN _ hrk) ?_)|refine pT rp rp (by simp;omega) rfl (by simp;omega) (by simp;omega) rfl (λnb_ hnb_=>?_)|refine sb λnb_ hnb_=>?_|refine s2 (λh=>?_) λh=>?_|fail)
  refine⟨k+1,nb_,W1,W1,trivial,?_⟩;rw[aD g1 W1,Vw g1,Vo];exact aG.forget (K:=[(_,_)]) (List.Perm.swap _ _ _)
 ·have hd:=bO g1;have hk0:k=t.length:=by omega
  subst hk0;have:=hend b';rw[V8 (Vl _)]
  repeat' (first|exact this|refine st ?_|refine sb λnb_ hnb_=>?_|refine s2 (λh=>?_) λh=>?_|fail)
def Fh(q:Nat)(o:Option Nat)(tb:Nat)(j:Nat)(s:aV):List AV:=if j=q then [.W6 s.pc,aO o s.regs.length,.sl tb 0 s.taint.length,.W6 s.ev]else s.enc
def iE(q:Nat)(o:Option Nat)(tb:Nat)(l:List aV):List (List AV):=l.zipIdx.map λp=>Fh q o tb p.2 p.1
theorem cW(q:Nat)(o:Option Nat)(tb:Nat)(l:List aV):(iE q o tb l).length=l.length:=by simp[iE]
theorem xH(q:Nat)(o:Option Nat)(tb:Nat)(l:List aV)(j:Nat)(hj:j<l.length):(iE q o tb l)[j]? =some (Fh q o tb j l[j]):=by simp[iE,hj]
theorem D2(q:Nat)(o o':Option Nat)(tb tb':Nat)(l:List aV)(k:Nat)(hk:k<l.length)(h:k≤q∨(o=o'∧tb=tb')):(iE q o' tb' l).take (k+1)=(iE q o tb l).take k++[Fh q o' tb' k l[k]]:=by
 apply Wr;intro j;rcases Nat.lt_trichotomy j k with hj|hj|hj
 ·rw[VC (by simp[cW];omega),VT hj,VT W1,xH _ _ _ _ _ W1,xH _ _ _ _ _ W1];rcases h with h|⟨rfl,rfl⟩
  ·simp[Fh,show j≠q by omega]
  ·rfl
 ·subst hj;rw[VT W1,xH _ _ _ _ _ hk,Vt (by simp[cW];omega)];simp[cW,Wb (Nat.le_of_lt hk)]
 ·rw[Vq (by simp;omega),Vq (by simp[cW];omega)]
def pU(q:Nat)(o:Option Nat)(tb:Nat)(l:List aV)(k:Nat):SH:=if q<k then ae o 1 ((l.getD q aV.zero).regs.map aj)++[(tb,⟨1,(l.getD q aV.zero).taint.map cm⟩)]else []
structure Sd(s:eh)(q:Nat)(v:AV)(L:SH):Prop where
 ex:∃(oc of:Option Nat) (bt:Nat) (o:Option Nat) (tb:Nat),v=.agg [.nils,.W6 0,.nils,.nils,aO oc s.cells.length,aO of s.futures.length,.sl bt 0 s.threads.length]∧
  L=(bt,⟨4,iE q o tb s.threads⟩)::(pU q o tb s.threads s.threads.length++(ae oc 1 (s.cells.map aj)++ae of 1 (s.futures.map aj)))∧(oc=none→s.cells=[])∧(of=none→s.futures=[])∧(o=none→q<s.threads.length→(s.threads.getD q aV.zero).regs=[])
def bG:List AV:=[.nils,.W6 0,.nils,.nils,.nils,.nils,.nils]
theorem PQ(l:List aV)(q b1 b2 bt:Nat)(x y:AV)(hx:x=.lst []∨∃b n,x=.sl b 0 n)(hy:y=.lst []∨∃b n,y=.sl b 0 n)(E L0:SH)(hL0:L0.Perm ((bt,⟨4,[]⟩)::(b2,⟨7,[[.nils,.W6 0,.nils,.nils,x,y,.sl bt 0 0]]⟩)::(b1,⟨7,[bG]⟩)::E))(h1:l.length≤2^30)(hr:∀s∈l,s.regs.length<2^40∧s.taint.length≤2^30∧∀r∈s.taint,r.length≤2^30)(Q:R)
  (hend:∀(o:Option Nat) (tb bt:Nat) (z:List AV),(o=none→q<l.length→(l.getD q aV.zero).regs=[])→Q (.agg [.nils,.W6 0,.nils,.nils,x,y,.sl bt 0 l.length]) ((bt,⟨4,iE q o tb l⟩)::(b2,⟨7,[[.nils,.W6 0,.nils,.nils,x,y,.sl bt 0 l.length]]⟩)::(b1,⟨7,[z]⟩)::(pU q o tb l l.length++E))) :
  W.loop (eN Q) [.ptr b1 0 0,.ptr b2 0 0,.lst (l.map aV.enc),.W6 l.length,.W6 (0:Nat)] L0:=by
 refine cb l.length (λk (p:Nat×Option Nat×Nat)=>([.ptr b1 0 0,.ptr b2 0 0,.lst (l.map aV.enc),.W6 l.length,.W6 k],(p.1,⟨4,(iE q p.2.1 p.2.2 l).take k⟩)::(b2,⟨7,[[.nils,.W6 0,.nils,.nils,x,y,.sl p.1 0 k]]⟩)::(b1,⟨7,[bG]⟩)::(pU q p.2.1 p.2.2 l k++E))) (λk p=>p.2.1=none→q<k→(l.getD q aV.zero).regs=[]) (bt,none,0) (λ_ h=>by omega) (aG.forget (K:=[]) (by simpa[pU]using hL0)) ?_;rintro k ⟨bt,o,tb⟩ hk ho;dsimp only at ho ⊢;unfold eN;rcases Nat.lt_or_ge k l.length with g1|g1
 ·have hd:=bI g1;have hxx:=aw (f:=aV.enc) g1;obtain⟨r1,r2,r3⟩:=hr _ (VF g1);generalize hT:pU q o tb l k++E=T;clear hx hy
  repeat' (first|refine st ?_|refine sb λnb_ hnb_=>?_|fail)
  refine GB (qn _ W1) (by simp[rm,rz,W.free,aa]) ?_;rintro v K ⟨o',rfl,rfl,ho'⟩;unfold lX;have fin:∀(ka kb nb b':Nat) (xa xb:Blk) (L:SH),C9 L ((ka,xa)::(kb,xb)::(ae o' 1 ((l[k]).regs.map aj)++[(b',⟨1,(l[k]).taint.map cm⟩)])) ((nb,⟨4,(iE q o tb l).take k++[[.W6 (l[k]).pc,aO o' (l[k]).regs.length,.sl b' 0 (l[k]).taint.length,.W6 (l[k]).ev]]⟩)::(b2,⟨7,[[.nils,.W6 0,.nils,.nils,x,y,.sl nb 0 (k+1)]]⟩)::(b1,⟨7,[bG]⟩)::T)→
    ∃(j:Nat) (p:Nat×Option Nat×Nat),k<j∧j≤l.length∧(p.2.1=none→q<j→(l.getD q aV.zero).regs=[])∧aG [.ptr b1 0 0,.ptr b2 0 0,.lst (l.map aV.enc),.W6 l.length,.W6 (IntKind.i64.wrap ((k:Int)+1))] L
     [.ptr b1 0 0,.ptr b2 0 0,.lst (l.map aV.enc),.W6 l.length,.W6 j] ((p.1,⟨4,(iE q p.2.1 p.2.2 l).take j⟩)::(b2,⟨7,[[.nils,.W6 0,.nils,.nils,x,y,.sl p.1 0 j]]⟩)::(b1,⟨7,[bG]⟩)::(pU q p.2.1 p.2.2 l j++E)):=by
   intro ka kb nb b' xa xb L h;have hp:=h.perm.trans VQ;subst hT;rw[aD g1 W1];by_cases hkq:k=q
   ·subst hkq;refine⟨k+1,(nb,o',b'),W1,W1,λe _=>by simpa[List.getD,g1]using ho' e,?_⟩;dsimp only;rw[D2 k o o' tb b' l k g1 (.inl (Nat.le_refl _))];have e1:pU k o tb l k=[]:=by simp[pU]
    have e2:pU k o' b' l (k+1)=ae o' 1 ((l[k]).regs.map aj)++[(b',⟨1,(l[k]).taint.map cm⟩)]:=by simp[pU,List.getD,g1]
    have e3:Fh k o' b' k l[k]=[.W6 (l[k]).pc,aO o' (l[k]).regs.length,.sl b' 0 (l[k]).taint.length,.W6 (l[k]).ev]:=by simp[Fh]
    rw[e1]at hp;rw[e2,e3];refine aG.forget (K:=[(ka,xa),(kb,xb)]) (hp.trans ?_);refine List.Perm.append_left [(ka,xa),(kb,xb)] ?_;exact List.perm_append_comm_assoc _ [_,_,_] E
   ·refine⟨k+1,(nb,o,tb),W1,W1,λe hq=>ho e W1,?_⟩;dsimp only;have e1:pU q o tb l (k+1)=pU q o tb l k:=by
     by_cases hq:q<k
     ·simp[pU,hq,show q<k+1 by omega]
     ·simp[pU,hq,show¬q<k+1 by omega]
    rw[e1,D2 q o o tb tb l k g1 (.inr ⟨rfl,rfl⟩)];refine aG.row hp W4 ?_;intro j r r' q1 q2;rcases Vp j ((iE q o tb l).take k).length with hj|hj
    ·rw[VC hj]at q1 q2;rw[q1]at q2;cases q2;exact i9.refl _ _
    ·rw[Vt hj]at q1 q2;rcases hm:j-((iE q o tb l).take k).length with _|m
     ·rw[hm]at q1 q2;cases q1;cases q2;rw[show Fh q o tb k l[k]=(l[k]).enc by simp[Fh,hkq]];refine .cons (.refl _) (.cons ?_ (.cons ?_ (.cons (.refl _) .nil)))
      ·exact lP rfl ho' λb e=>by subst e;simp[ae]
      ·exact lP (o:=some b') rfl nofun λb e=>by cases e;simp
     ·rw[hm]at q1;simp at q1
  cases o' with
  |none=>
   dsimp only[aO,ae,List.nil_append]
   repeat' (first|refine st ?_|refine sb λnb_ hnb_=>?_|fail)
   refine fP (i:=0) (j:=l[k].taint.length) W1 W1 W1 (λbt2 _=>?_)
   repeat' (first|refine st ?_|refine sb λnb_ hnb_=>?_|fail)
   refine QM l[k].pc l[k].ev _ l[k].taint r2 r3 _ _ _ _ _ _ bt2 _ _ (λb'=>?_);unfold eM
   repeat' (first|refine st ?_|refine pT rp rp (by simp[cW];omega) rfl (by simp[cW];omega) (by simp[cW];omega) rfl (λnb_ hnb_=>?_)|refine sb λnb_ hnb_=>?_|fail)
   rename_i ka _ _ kb _;exact fin ka kb nb_ b' _ _ _ rp
  |some c'=>
   dsimp only[aO,ae,List.cons_append,List.nil_append]
   repeat' (first|refine st ?_|refine sb λnb_ hnb_=>?_|fail)
   refine fP (i:=0) (j:=l[k].taint.length) W1 W1 W1 (λbt2 _=>?_)
   repeat' (first|refine st ?_|refine sb λnb_ hnb_=>?_|fail)
   refine QM l[k].pc l[k].ev _ l[k].taint r2 r3 _ _ _ _ _ _ bt2 _ _ (λb'=>?_);unfold eM
   repeat' (first|refine st ?_|refine pT rp rp (by simp[cW];omega) rfl (by simp[cW];omega) (by simp[cW];omega) rfl (λnb_ hnb_=>?_)|refine sb λnb_ hnb_=>?_|fail)
   rename_i ka _ _ kb _;exact fin ka kb nb_ b' _ _ _ rp
 ·have hd:=bO g1;have hk0:k=l.length:=by omega
  subst hk0;have:=λz=>hend o tb bt z ho
  rw[V8 (by rw[cW];exact Vl _)];unfold bG;rcases hx with rfl|⟨_,_,rfl⟩<;>rcases hy with rfl|⟨_,_,rfl⟩
  all_goals
   repeat' (first|refine st ?_|refine sb λnb_ hnb_=>?_|refine s2 (λh=>?_) λh=>?_|fail)
   exact this _
theorem xI(o:Option Nat)(n:Nat):aO o n=.lst []∨∃b m,aO o n=.sl b 0 m:=by
 cases o with
 |none=>exact .inl rfl
 |some b=>exact .inr ⟨b,n,rfl⟩
theorem PR(s:eh)(q:Nat)(h1:s.threads.length≤2^30)(h2:s.cells.length<2^40)(h3:s.futures.length<2^40)(hr:∀e∈s.threads,e.regs.length<2^40∧e.taint.length≤2^30∧∀r∈e.taint,r.length≤2^30):
  af Tryz.prog 57 [.agg s.enc] [] (Sd s q):=by
 refine af.fz (zZ _ _ _ ?_);unfold nJ;generalize hQ:(λ(v:AV) (L:SH)=>∃v2 L2,aG [v] L [v2] L2∧Sd s q v2 L2)=Q;unfold eh.enc
 repeat' (first|refine st ?_|refine sb λnb_ hnb_=>?_|fail)
 revert nb_;intro b1 _;refine GB (qn s.cells W1) (by simp[rm,rz,W.free,aa]) ?_;rintro v K ⟨oc,rfl,rfl,hoc⟩;unfold lZ;have go:∀(of:Option Nat) (b2 bt:Nat) (L:SH),(of=none→s.futures=[])→C9 L ((bt,⟨4,[]⟩)::(b2,⟨7,[[.nils,.W6 0,.nils,.nils,aO oc s.cells.length,aO of s.futures.length,.sl bt 0 0]]⟩)::(b1,⟨7,[bG]⟩)::(ae oc 1 (s.cells.map aj)++ae of 1 (s.futures.map aj))) []→
   W.loop (eN Q) [.ptr b1 0 0,.ptr b2 0 0,.lst (s.threads.map aV.enc),.W6 s.threads.length,.W6 (0:Nat)] L:=by
  intro of b2 bt L hof hL;refine PQ s.threads q b1 b2 bt _ _ (xI _ _) (xI _ _) _ L (by simpa using hL.perm) h1 hr Q ?_;intro o tb bt z ho;subst hQ;refine⟨_,_,aG.forget (K:=[(b2,_),(b1,_)]) (R:=(bt,⟨4,iE q o tb s.threads⟩)::(pU q o tb s.threads s.threads.length++(ae oc 1 (s.cells.map aj)++ae of 1 (s.futures.map aj)))) ((List.Perm.swap _ _ _).trans ((List.Perm.swap _ _ _).cons _)),⟨oc,of,bt,o,tb,rfl,rfl,hoc,hof,ho⟩⟩
 cases oc
 all_goals
  dsimp only[aO,ae,List.nil_append,List.cons_append]at go ⊢
  repeat' (first|refine st ?_|refine sb λnb_ hnb_=>?_|fail)
  refine GB (qn s.futures W1) (by simp[rm,rc,rz,W.free,aa]) ?_;rintro v K ⟨of,rfl,rfl,hof⟩;unfold lY;cases of
  all_goals
   dsimp only[aO,ae,List.nil_append,List.cons_append]
   repeat' (first|refine st ?_|refine sb λnb_ hnb_=>?_|fail)
   refine fP (i:=0) (j:=s.threads.length) W1 W1 W1 (λbt2 _=>?_)
   repeat' (first|refine st ?_|refine sb λnb_ hnb_=>?_|fail)
 ·exact go none nb_ bt2 _ hof rp
 ·exact go (some _) nb_ bt2 _ hof rp
 ·exact go none nb_ bt2 _ hof rp
 ·exact go (some _) nb_ bt2 _ hof rp
end
end Go.Proofs.YtenbpcngcicamaaGreatDoor.Am
