/- SilentSettles: a thread of a program settles from every instruction, in the specified state, at an event instruction, and a settled state stays as it is: the law returns true for every tape, thread, instruction, registers and taints. -/
import Derived.Test.YtljkdffikfkcgaaGreatQ2n
import Derived.Test.YtljkdffikfkcgaaGreatChecked
set_option linter.unusedSimpArgs false
set_option linter.unusedVariables false
section
namespace Go.Proofs.YtljkdffikfkcgaaGreat.Am
set_option linter.unusedVariables false
set_option maxRecDepth 100000
theorem G5(a:Int)(l:List Int):a≤tP a l∧∀r∈l,r<tP a l:=by
 unfold tP
 induction l generalizing a with
 | nil=>exact⟨Int.le_refl _,nofun⟩
 | cons x l ih=>
  rw[List.foldl_cons]
  obtain⟨h1,h2⟩:=ih (max a (x+1))
  refine⟨by omega,fun r hr=>?_⟩
  rcases List.mem_cons.1 hr with h | h
  ·subst h;omega
  ·exact h2 r h
theorem G6{a b:Int}{l:List Int}(ha:a≤b)(h:∀r∈l,r<b):tP a l≤b:=by
 unfold tP
 induction l generalizing a with
 | nil=>exact ha
 | cons x l ih=>
  rw[List.foldl_cons]
  have:=h x (.head _)
  exact ih (by omega) fun r hr=>h r (.tail _ hr)
theorem G7(a:Int)(l:List av):a≤mP a l∧∀i∈l,∀r∈aO i,r<mP a l:=by
 unfold mP
 induction l generalizing a with
 | nil=>exact⟨Int.le_refl _,nofun⟩
 | cons x l ih=>
  rw[List.foldl_cons]
  obtain⟨h1,h2⟩:=ih (tP a (aO x))
  obtain⟨h3,h4⟩:=G5 a (aO x)
  refine⟨by omega,fun i hi r hr=>?_⟩
  rcases List.mem_cons.1 hi with h | h
  ·subst h;have:=h4 r hr;omega
  ·exact h2 i h r hr
theorem G8{a b:Int}{l:List av}(ha:a≤b)(h:∀i∈l,∀r∈aO i,r<b):mP a l≤b:=by
 unfold mP
 induction l generalizing a with
 | nil=>exact ha
 | cons x l ih=>
  rw[List.foldl_cons]
  exact ih (G6 ha (h x (.head _))) fun i hi=>h i (.tail _ hi)
structure Ju(w:bu)(t:Nat)(c:sx):Prop where
 r0:0≤c.regs
 r32:c.regs≤32
 ne:0<c.ins.length
 short:c.ins.length<2^21
 op:∀i∈c.ins,1≤i.op∧i.op≤28
 last:∀(k:Nat) (i:av),c.ins[k]? =some i→(i.op=28↔k+1=c.ins.length)
 obj:∀i∈c.ins,Cs w i=true
 regs:∀i∈c.ins,∀r∈aO i,0≤r∧r<c.regs
 endS:∀i∈c.ins,i.op=28→i.site=-1
 site:∀i∈c.ins,i.op≠28→∃(k:Nat) (h:k<w.sites.length),i.site=k∧w.sites[k].thread=t
 jmp:∀i∈c.ins,i.op=5→0≤i.a∧i.a<c.ins.length
 br:∀i∈c.ins,i.op=10→0≤i.b∧i.b<c.ins.length
 lans:∀k,k<c.ins.length→mQ c.ins k
def lf:Nat→List ai→List fx
 | _,[]=>[]
 | k,t::l=>sitL k 0 t.body++lf (k+1) l
theorem KJ(ts:List ai):∀(w:bu),(ts.foldl cH w).sites=w.sites++lf w.threads.length ts:=by
 induction ts with
 | nil=>intro w;simp[lf]
 | cons t l ih=>intro w;rw[List.foldl_cons,ih];simp[cH,lf]
theorem zj:∀(ts:List ai) (k i j:Nat) (hi:i<ts.length) (hj:j<aa.cnts ts[i].body),(lf k ts)[bo (fun t=>aa.cnts t.body) (ts.take i)+j]? =(sitL (k+i) 0 ts[i].body)[j]?
 | t::l,k,0,j,hi,hj=>by
  simp only[lf,List.take_zero,bo,List.map_nil,List.sum_nil,Nat.zero_add,List.getElem_cons_zero,Nat.add_zero]
  rw[List.getElem?_append_left (by rw[sitL_len];exact hj)]
 | t::l,k,i+1,j,hi,hj=>by
  have:=zj l (k+1) i j (by simpa using hi) (by simpa using hj)
  simp only[lf,List.take_succ_cons,List.getElem_cons_succ]
  have e:bo (fun t=>aa.cnts t.body) (t::l.take i)=aa.cnts t.body+bo (fun t=>aa.cnts t.body) (l.take i):=by simp[bo]
  rw[e,List.getElem?_append_right (by rw[sitL_len];omega),sitL_len,show aa.cnts t.body+bo (fun t=>aa.cnts t.body) (l.take i)+j-aa.cnts t.body=bo (fun t=>aa.cnts t.body) (l.take i)+j by omega,this,show k+1+i=k+(i+1) by omega]
section
variable {p:aL} (hd:p.decls=aR)
include hd
theorem Ct:(bG p).sites=lf 0 p.threads:=by
 unfold bG
 rw[KJ,hd]
 rfl
def Cu(p:aL)(i:Nat):Nat:=bo (fun t=>aa.cnts t.body) (p.threads.take i)
theorem G9{i k:Nat}(hi:i<p.threads.length)(h1:Cu p i≤k)(h2:k<Cu p (i+1)):∃(h:k<(bG p).sites.length),(bG p).sites[k].thread=i:=by
 unfold Cu at h1 h2
 rw[co hi]at h2
 have hj:k-bo (fun t:ai=>aa.cnts t.body) (p.threads.take i)<aa.cnts p.threads[i].body:=by omega
 have:=zj p.threads 0 i _ hi hj
 rw[show bo (fun t:ai=>aa.cnts t.body) (p.threads.take i)+(k-bo (fun t:ai=>aa.cnts t.body) (p.threads.take i))=k by omega,Nat.zero_add,←Ct hd]at this
 have hlt:k-bo (fun t:ai=>aa.cnts t.body) (p.threads.take i)<(sitL i 0 p.threads[i].body).length:=by rw[sitL_len];exact hj
 rw[List.getElem?_eq_getElem hlt]at this
 obtain⟨h,e⟩:=List.getElem?_eq_some_iff.1 this
 exact⟨h,by rw[e];exact(sitL_at i 0 _ _ hlt).1⟩
theorem FZ(hp:fH p)(hw:p.wt≤200000):∃(cs:Nat→List av) (tcs:List sx),FU p (Cu p) cs tcs∧∀i (h:i<tcs.length),Ju (bG p) i tcs[i]:=by
 have hbw:∀i (h:i<p.threads.length),aa.wts p.threads[i].body≤200000:=fun i h=>by
  have:=p.thread_wt h;unfold ai.wt at this;omega
 have hloc:∀i (h:i<p.threads.length),p.threads[i].locals.length≤4:=fun i h=>(hp.threads.locals i h).few
 have hsh:∀i (h:i<p.threads.length),shSs p.threads[i].body=true:=fun i h=>by
  have h1:=hp.shaped
  unfold Ff at h1
  simp only[Bool.and_eq_true]at h1
  have h2:=List.all_eq_true.1 h1.2.1 _ (List.getElem_mem h)
  unfold GO at h2
  simp only[Bool.and_eq_true]at h2
  rw[vt];exact h2.2.2
 have hnx:∀i (h:i<p.threads.length),Cu p (i+1)=Cu p i+aa.cnts p.threads[i].body:=fun i h=>co h
 have hfew:∀i,Cu p i<2^20:=fun i=>by
  have h1:=jD (fun t:ai=>aa.cnts t.body) p.threads i
  have h2:=hp.stmts
  unfold Cu;omega
 have hall:∀i:Nat,∃c:List av,c.length<2^20∧∀h:i<p.threads.length,StsC (bG p) p.threads[i].locals p.threads[i].body (Cu p i) 0 c (Cu p (i+1))∧∀x∈c,HW (bG p) (Cu p i) (Cu p (i+1)) 0 c.length x:=fun i=>by
  by_cases h:i<p.threads.length
  ·obtain⟨c,h1,h2,h3⟩:=sts_ex hd (hloc i h) p.threads[i].body (hsh i h) (hp.sts i h) (Cu p i) 0
   have:=hbw i h
   rw[←hnx i h]at h1 h3
   exact⟨c,by omega,fun _=>⟨h1,by simpa using h3⟩⟩
  ·exact⟨[],by simp,fun g=>absurd g h⟩
 obtain⟨cs,hcs⟩:=Classical.axiomOfChoice hall
 have hregs:∀i,i<p.threads.length→∀x∈cs i++[jG],∀r∈aO x,0≤r∧r<16:=fun i h=>bH (fun x hx=>(((hcs i).2 h).2 x hx).regs) (bI (by simp[aO,jG]))
 refine⟨cs,p.threads.mapIdx fun i t=>DV t.locals (cs i),⟨by simp[Cu,bo],by simp,fun i h=>((hcs i).2 h).1,fun i h=>by simp,fun i=>(hcs i).1,hfew,fun i h x hx r hr=>by have:=hregs i h x hx r hr;omega⟩,fun i h=>?_⟩
 have hi:i<p.threads.length:=by simpa using h
 obtain⟨hS,hG⟩:=(hcs i).2 hi
 rw[List.getElem_mapIdx]
 have hR:=G7 p.threads[i].locals.length (cs i++[jG])
 have hm:∀x∈cs i++[jG],x∈cs i∨x=jG:=fun x hx=>by
  rcases List.mem_append.1 hx with h | h
  ·exact .inl h
  ·exact .inr (List.mem_singleton.1 h)
 refine⟨?_,?_,?_,?_,?_,?_,?_,?_,?_,?_,?_,?_,?_⟩
 ·show 0≤mP _ _;omega
 ·show mP _ _≤32
  exact G8 (by have:=hloc i hi;omega) fun x hx r hr=>by have:=hregs i hi x hx r hr;omega
 ·simp[DV]
 ·have:=(hcs i).1;simp[DV];omega
 ·intro x hx
  rcases hm x hx with h | rfl
  ·have:=(hG x h).op;omega
  ·exact⟨by decide,by decide⟩
 ·intro k x hk
  have hk':(cs i++[jG])[k]? =some x:=hk
  have hlen:(DV p.threads[i].locals (cs i)).ins.length=(cs i).length+1:=by simp[DV]
  rw[hlen]
  rcases Nat.lt_or_ge k (cs i).length with g | g
  ·rw[List.getElem?_append_left g]at hk'
   have:=(hG x (List.mem_of_getElem? hk')).op
   constructor<;>intro<;>omega
  ·rw[List.getElem?_append_right g]at hk'
   have:k-(cs i).length=0:=by
    rcases Nat.eq_zero_or_pos (k-(cs i).length)with e | e
    ·exact e
    ·rw[List.getElem?_eq_none (by simp;omega)]at hk';cases hk'
   rw[this]at hk'
   cases hk'
   constructor
   ·intro;omega
   ·intro;rfl
 ·intro x hx
  rcases hm x hx with h | rfl
  ·exact(hG x h).obj
  ·rfl
 ·intro x hx r hr
  exact⟨(hregs i hi x hx r hr).1,hR.2 x hx r hr⟩
 ·intro x hx ho
  rcases hm x hx with h | rfl
  ·have:=(hG x h).op;omega
  ·rfl
 ·intro x hx ho
  rcases hm x hx with h | rfl
  ·have hs:=(hG x h).site
   obtain⟨h1,h2⟩:=G9 hd hi (k:=x.site.toNat) (by omega) (by omega)
   exact⟨x.site.toNat,h1,by omega,h2⟩
  ·exact absurd rfl ho
 ·intro x hx ho
  rcases hm x hx with h | rfl
  ·have:=(hG x h).jmp ho
   simp[DV];omega
  ·cases ho
 ·intro x hx ho
  rcases hm x hx with h | rfl
  ·have:=(hG x h).br ho
   simp[DV];omega
  ·cases ho
 ·have hst:et (cs i++[jG]) (cs i) 0:=fun k x hk=>by
   rw[Nat.zero_add,List.getElem?_append_left (List.getElem?_eq_some_iff.1 hk).1];exact hk
  have hend:mQ (cs i++[jG]) (0+(cs i).length):=lD (i:=jG) (by rw[Nat.zero_add,List.getElem?_append_right (Nat.le_refl _),Nat.sub_self];rfl) (by decide)
  have hA:=Jt.2 hS hst hend
  intro k hk
  have hk':k<(cs i++[jG]).length:=hk
  exact hA k (Nat.zero_le _) (by simp at hk';omega)
end
end Go.Proofs.YtljkdffikfkcgaaGreat.Am
end
section
namespace Go.Proofs.YtljkdffikfkcgaaGreat.Am
set_option linter.unusedVariables false
theorem Ha{n a:Int}(h:n=4∨n=5):(xY n a).2=true:=by
 unfold xY
 rcases h with rfl | rfl<;>rfl
theorem F0{n a b:Int}(h:6≤n∧n≤18):(iA n a b).2=true:=by
 have:n=6∨n=7∨n=8∨n=9∨n=10∨n=11∨n=12∨n=13∨n=14∨n=15∨n=16∨n=17∨n=18:=by omega
 unfold iA
 rcases this with rfl | rfl | rfl | rfl | rfl | rfl | rfl | rfl | rfl | rfl | rfl | rfl | rfl<;>rfl
structure ud(c:sx)(s:bC):Prop where
 regs:(s.regs.length:Int)=c.regs
 taint:(s.taint.length:Int)=c.regs
section
variable {w:bu} {t:Nat} {c:sx} (hV:Ju w t c)
include hV
theorem DQ{i:av}(hi:i∈c.ins)(hs:i.sil){s:bC}(hf:ud c s):∃s2,aK i s=some s2∧ud c s2∧s2.pc=(if i.op=5 then i.a else IntKind.i64.wrap (s.pc+1))∧s2.ev=s.ev:=by
 have hr:=hV.regs i hi
 have ho:=hV.obj i hi
 have has:∀r∈aO i,s.has r=true:=fun r hr'=>by
  have:=hr r hr'
  have:=hf.regs
  unfold bC.has;rw[hM];omega
 obtain⟨h1,h5⟩:=hs
 have hop:i.op=1∨i.op=2∨i.op=3∨i.op=4∨i.op=5:=by omega
 have fit:∀a v l,ud c (s.put a v l):=fun a v l=>⟨by simp[bC.put,hf.regs],by simp[bC.put,hf.taint]⟩
 unfold aK
 rcases hop with e | e | e | e | e
 ·have ha:=has i.a (by simp[aO,e])
  rw[if_pos e,if_pos ha]
  exact⟨_,rfl,fit _ _ _,by simp[e,bC.put],rfl⟩
 ·have ha:=has i.a (by simp[aO,e]);have hb:=has i.b (by simp[aO,e])
  rw[if_neg (by omega),if_pos e,if_pos (by simp[ha,hb])]
  exact⟨_,rfl,fit _ _ _,by simp[e,bC.put],rfl⟩
 ·have ha:=has i.a (by simp[aO,e]);have hb:=has i.b (by simp[aO,e])
  have hn:i.n=4∨i.n=5:=by simpa[Cs,e]using ho
  rw[if_neg (by omega),if_neg (by omega),if_pos e,if_pos (by simp[ha,hb,Ha hn])]
  exact⟨_,rfl,fit _ _ _,by simp[e,bC.put],rfl⟩
 ·have ha:=has i.a (by simp[aO,e]);have hb:=has i.b (by simp[aO,e]);have hc:=has i.c (by simp[aO,e])
  have hn:6≤i.n∧i.n≤18:=by simpa[Cs,e]using ho
  rw[if_neg (by omega),if_neg (by omega),if_neg (by omega),if_pos e,if_pos (by simp[ha,hb,hc,F0 hn])]
  exact⟨_,rfl,fit _ _ _,by simp[e,bC.put],rfl⟩
 ·rw[if_neg (by omega),if_neg (by omega),if_neg (by omega),if_neg (by omega)]
  exact⟨_,rfl,⟨hf.regs,hf.taint⟩,by simp[e],rfl⟩
theorem F1:∀(m:Nat) {k:Nat} {s:bC},yG c.ins k m→s.pc=k→ud c s→∀n,m≤n→∃(k':Nat) (i:av) (s2:bC),cx c.ins n s=(s2,true)∧ud c s2∧s2.pc=k'∧c.ins[k']? =some i∧¬i.sil∧s2.ev=s.ev:=by
 intro m
 induction m with
 | zero=>
  intro k s hl hp hf n _
  cases hl with
  | ev _ i hi hs=>
  have hk:=(List.getElem?_eq_some_iff.1 hi).1
  have hin:inB s.pc c.ins.length=true:=by rw[hM];omega
  have hg:c.ins.getD s.pc.toNat default=i:=by rw[hp];simp[List.getD,hi]
  have hop:(c.ins.getD s.pc.toNat default).op<1∨5<(c.ins.getD s.pc.toNat default).op:=by rw[hg];unfold av.sil at hs;omega
  refine⟨k,i,s,?_,hf,hp,hi,hs,rfl⟩
  cases n with
  | zero=>unfold cx;rw[if_pos hin,if_pos hop]
  | succ n=>unfold cx;rw[if_pos hin,if_pos hop]
 | succ m ih=>
  intro k s hl hp hf n hn
  obtain⟨n,rfl⟩:∃n',n=n'+1:=⟨n-1,by omega⟩
  have hk:=hl.lt
  have hsh:=hV.short
  have hin:inB s.pc c.ins.length=true:=by rw[hM];omega
  have key:∀(i:av) (k2:Nat),c.ins[k]? =some i→i.sil→((if i.op=5 then i.a else IntKind.i64.wrap (s.pc+1))=(k2:Int))→yG c.ins k2 m→∃(k':Nat) (i:av) (s2:bC),cx c.ins (n+1) s=(s2,true)∧ud c s2∧s2.pc=k'∧c.ins[k']? =some i∧¬i.sil∧s2.ev=s.ev:=by
   intro i k2 hi hs he hl2
   obtain⟨s2,h1,h2,h3,h4⟩:=DQ hV (List.mem_of_getElem? hi) hs hf
   have hg:c.ins.getD s.pc.toNat default=i:=by rw[hp];simp[List.getD,hi]
   have hop:¬((c.ins.getD s.pc.toNat default).op<1∨5<(c.ins.getD s.pc.toNat default).op):=by rw[hg];unfold av.sil at hs;omega
   obtain⟨k',i',s3,r1,r2,r3,r4,r5,r6⟩:=ih hl2 (by rw[h3];exact he) h2 n (by omega)
   refine⟨k',i',s3,?_,r2,r3,r4,r5,r6.trans h4⟩
   rw[←hg]at h1
   unfold cx
   rw[if_pos hin,if_neg hop,h1]
   exact r1
  cases hl with
  | go _ _ i hi hs h5 hl2=>exact key i (k+1) hi hs (by rw[if_neg h5,hp,IntWalk.i64_in _ (by omega)];omega) hl2
  | jump _ _ j i hi h5 ha hl2=>exact key i j hi ⟨by omega,by omega⟩ (by rw[if_pos h5,ha]) hl2
theorem BI{k:Nat}{s:bC}(hk:k<c.ins.length)(hp:s.pc=k)(hf:ud c s):∃(k':Nat) (i:av) (s2:bC),bL c s=(s2,true)∧ud c s2∧s2.pc=k'∧c.ins[k']? =some i∧¬i.sil∧s2.ev=s.ev:=by
 obtain⟨m,hm⟩:=hV.lans k hk
 unfold bL
 rw[if_pos ⟨hf.regs,hf.taint⟩]
 exact F1 hV m hm hp hf _ (Nat.le_of_lt hm.bound)
end
end Go.Proofs.YtljkdffikfkcgaaGreat.Am
end
section
namespace Go.Proofs.YtljkdffikfkcgaaGreat.Am
set_option linter.unusedVariables false
set_option maxRecDepth 100000
theorem Cv(s:UInt8):∀a∈nu s,bF a:=fun a h=>by rw[List.mem_singleton.1 h];exact .int _ _
structure F2(t:List UInt8)(p:aL)(cs:Nat→List av)(c:yF):Prop where
 prog:aD Tryz.prog 11 [.lst (t.map nu)] (.agg p.enc)
 code:aD Tryz.prog 4 [.lst (t.map nu)] (.agg c.enc)
 decls:p.decls=aR
 ok:fH p
 w:c.w=bG p
 codes:FU p (Cu p) cs c.ts
 valid:∀i (h:i<c.ts.length),Ju c.w i c.ts[i]
theorem Hb(t:List UInt8)(ht:t.length<2^40):∃p cs c,F2 t p cs c:=by
 obtain⟨v,K,⟨p,rfl,rfl,hw,hp,hd,hpass⟩,hprog⟩:=(GU t ht).pure (by simp only[List.forall_mem_cons,List.not_mem_nil,false_implies,implies_true,and_true];exact .lmap fun x _=>Cv x) (fun u K ⟨p,h1,_⟩=>by rw[h1];exact p.pure)
 obtain⟨cs,tcs,hC,hV⟩:=FZ hd hp hw
 have hs:∀i (h:i<p.threads.length),Cn (bG p) p.threads[i].locals:=fun i h=>by
  obtain⟨h1,h2,h3,h4,h5⟩:=Cr hd
  have:=(hp.threads.locals i h).few
  have:=hp.few
  exact⟨by rw[h1];decide,by rw[h2];decide,by rw[h3];decide,by rw[h4];decide,by rw[h5];simp;omega,by omega⟩
 have hP:=Cp p hp hpass hw hC hs
 refine⟨p,cs,⟨bG p,tcs⟩,hprog,?_,hd,hp,rfl,hC,hV⟩
 refine aj.fz (zY _ _ _ ?_)
 unfold ua
 generalize hQ:(fun(v:AV) (L:SH)=>∃v2 L2,aN [v] L [v2] L2∧v2=AV.agg (yF.enc ⟨bG p,tcs⟩)∧L2=[])=Q
 have hq:∀L,Q (.agg (yF.enc ⟨bG p,tcs⟩)) L:=fun L=>by
  subst hQ;exact⟨_,[],aN.all (.refl _),rfl,rfl⟩
 clear hQ
 repeat' (first | refine st ?_ | ((with_reducible refine ao 11 ?_);refine af (hprog) ?_) | ((with_reducible refine al 11 ?_);refine ab (hprog) ?_) | ((with_reducible refine ao 10 ?_);refine af (hP) ?_) | ((with_reducible refine al 10 ?_);refine ab (hP) ?_) | refine sb (fun nb_ hnb_=>?_) | refine s2 (fun h=>?_) (fun h=>?_) | fail)
 exact hq _
end Go.Proofs.YtljkdffikfkcgaaGreat.Am
end
section
namespace Go.Proofs.YtljkdffikfkcgaaGreat.Am
set_option maxRecDepth 100000
set_option maxHeartbeats 2000000
set_option linter.unusedVariables false
theorem KK{k k':IntKind}{n m:Int}{K:AV→Prop}(e:k.wrap n=m)(h:K (.int k m)):W.conv k (.int k' n) K:=Er (by rw[e];exact h)
theorem KM{P:Program}{F:TypeId→Option (List TypeId)}{t:TypeId}{k:IntKind}{a b m:Int}{K:AV→Prop}(e:a.tmod b=m)(hb:b≠0)(h:K (.int k m)):W.bin P F .rem t (.int k a) (.int k b) K:=Ht hb (by rw[e];exact h)
def xO:List Int:=(List.range 256).map Int.ofNat
theorem DR{x:Int}(h:0≤x∧x<256):x∈xO:=List.mem_map.2 ⟨x.toNat,List.mem_range.2 (by omega),by show((x.toNat:Nat):Int)=x;omega⟩
theorem F3{n:Nat}{taint:List Int}{l:List Int}(h:l∈ft [] n (taint.map fun x=>[x])):l=[]∨∃x∈taint,l=[x]:=by
 unfold ft at h
 rcases List.mem_append.1 h with h | h
 ·obtain⟨x,hx,rfl⟩:=List.mem_map.1 (List.mem_of_mem_take h)
  exact .inr ⟨x,hx,rfl⟩
 ·exact .inl (List.mem_replicate.1 h).2
theorem F4{t:List UInt8}{p:aL}{cs:Nat→List av}{c:yF}(h:F2 t p cs c):0<c.ts.length∧c.ts.length≤4:=by
 have h1:=h.ok.shaped
 unfold Ff at h1
 simp only[Bool.and_eq_true,decide_eq_true_eq]at h1
 have:=h.codes.len
 have:=h.ok.few
 omega
theorem Cw(n:Nat)(ins:List av)(pc:Int)(regs taint:List Int)(hn:n<2^20)(hi:0<ins.length)(hi2:ins.length<2^40)(hp:0≤pc∧pc<256)(hr:regs.length<2^63)(ht:taint.length<2^63)(ht2:∀x∈taint,0≤x∧x<256):
  aD Tryz.prog 5 [.agg (sx.enc ⟨n,ins⟩),.int .u8 pc,.lst (regs.map az),.lst (taint.map Dx)] (.agg (Lk ⟨n,ins⟩ n pc regs taint).enc):=by
 refine aj.fz ((E3 n ins pc regs taint hn hi hi2 hp hr ht ht2).mono ?_)
 rintro u K ⟨v,bR,rfl,rfl,rfl⟩
 exact⟨_,[],aN.all (Fz.aggs (.cons (.refl _) (.cons (Fz.sls (l:=ft 0 n regs) (f:=az) (.head _) rfl (by decide) ls.symm) (.cons (.refl _) (.cons (.refl _) .nil))))),rfl,rfl⟩
section
variable {t:List UInt8} {thread pc:Int} {regs taint:List Int}
theorem settles(hth:0≤thread∧thread<256)(hp:0≤pc∧pc<256)(hr:regs.length<2^63)(hta:taint.length<2^63)(ht2:∀x∈taint,0≤x∧x<256):
  aD Tryz.prog 3 [.lst (t.map nu),.int .u8 thread,.int .u8 pc,.lst (regs.map az),.lst (taint.map Dx)] (.bool true):=by
 refine aj.fz (jA _ _ _ _ _ _ _ ?_)
 unfold eY
 generalize hQ:(fun(v:AV) (L:SH)=>∃v2 L2,aN [v] L [v2] L2∧v2=AV.bool true∧L2=[])=Q
 have hq:∀L,Q (.bool true) L:=fun L=>by subst hQ;exact⟨_,[],aN.all (.refl _),rfl,rfl⟩
 clear hQ
 rcases Nat.lt_or_ge 200 t.length with ht | ht
 ·have hd:decide ((200:Int)<(t.length:Int))=true:=decide_eq_true (by omega)
  repeat' (first | refine st ?_ | refine sb (fun nb_ hnb_=>?_) | refine s2 (fun h=>?_) (fun h=>?_) | fail)
  exact hq _
 obtain⟨p,cs,c,hC⟩:=Hb t (by omega)
 have hd2:decide ((200:Int)<(t.length:Int))=false:=decide_eq_false (by omega)
 obtain⟨hpos,hfew⟩:=F4 hC
 obtain⟨j,hj,hjm⟩:∃j:Nat,j<c.ts.length∧thread.tmod (c.ts.length:Int)=(j:Int):=by
  refine⟨(thread.tmod (c.ts.length:Int)).toNat,?_,?_⟩
  ·have:=Int.tmod_lt_of_pos thread (show(0:Int)<(c.ts.length:Int) by omega)
   have:=Int.tmod_nonneg (c.ts.length:Int) hth.1
   omega
  ·have:=Int.tmod_nonneg (c.ts.length:Int) hth.1
   omega
 have hV:=hC.valid j hj
 obtain⟨n,hn⟩:∃n:Nat,c.ts[j].regs=(n:Int):=⟨c.ts[j].regs.toNat,by have:=hV.r0;omega⟩
 have hn32:n≤32:=by have:=hV.r32;omega
 have hx:=aw (f:=sx.enc) hj
 generalize htc:c.ts[j]=tc at *
 obtain⟨rg,ins⟩:=tc
 dsimp only at hn
 subst hn
 have hne:=hV.ne
 have hsh:=hV.short
 dsimp only at hne hsh
 have hcode:=hC.code
 have hcv:IntKind.i64.wrap thread=thread:=IntWalk.i64_in thread (by omega)
 have hz:(c.ts.length:Int)≠0:=by omega
 have hst:=Cw n ins pc regs taint (by omega) hne (by omega) hp hr hta ht2
 generalize hsd:Lk ⟨n,ins⟩ n pc regs taint=s at hst
 have hsrl:s.regs.length=n:=by rw[←hsd];exact ls
 have hstl:s.taint.length=n:=by rw[←hsd];exact ls
 obtain⟨k,hk,hpk⟩:∃k:Nat,k<ins.length∧s.pc=k:=by
  have h1:=Int.tmod_lt_of_pos pc (show(0:Int)<(ins.length:Int) by omega)
  have h2:=Int.tmod_nonneg (ins.length:Int) hp.1
  exact⟨(pc.tmod (ins.length:Int)).toNat,by omega,by rw[←hsd];show pc.tmod (ins.length:Int)=_;omega⟩
 have hU:∀l∈s.taint,l.length≤1∧∀x∈l,x∈xO:=fun l hl=>by
  rw[←hsd]at hl
  rcases F3 hl with rfl | ⟨x,hx,rfl⟩
  ·simp
  ·exact⟨Nat.le_refl _,fun y hy=>by rw[List.mem_singleton.1 hy];exact DR (ht2 x hx)⟩
 obtain⟨k1,i1,a,ha,a2,a3,a4,a5,a6⟩:=BI hV hk hpk ⟨by rw[hsrl],by rw[hstl]⟩
 have hT:iR xO s:=⟨by omega,by omega,fun l hl=>by have:=(hU l hl).1;omega,fun l hl=>(hU l hl).2⟩
 have hTa:=Be (U:=xO) (by decide) (c:=⟨n,ins⟩) hT
 have hs1:=zb ⟨n,ins⟩ s xO (by decide) hT.small (by omega) hT.short hT.sub (by show ins.length<_;omega)
 have hs2:=Cc ⟨n,ins⟩ s xO (by decide) hT.small (by omega) hT.short hT.sub (by show ins.length<_;omega)
 have hagain:bL ⟨n,ins⟩ a=(a,true):=by
  have h1:cx ins ins.length s=(a,true):=by have:=ha;unfold bL at this;rw[if_pos ⟨by rw[hsrl],by rw[hstl]⟩]at this;exact this
  have h2:=DD ins.length (s:=s) (by rw[h1]) ins.length
  rw[h1]at h2
  unfold bL;rw[if_pos ⟨a2.regs,a2.taint⟩];exact h2
 rw[ha]at hs1 hs2 hTa
 dsimp only at hTa
 have hsm:=Fb a hTa.small (by rw[hTa.len];exact hTa.small) hTa.short
 have hs3:=zb ⟨n,ins⟩ a xO (by decide) hTa.small (by rw[hTa.len];exact hTa.small) hTa.short hTa.sub (by show ins.length<_;omega)
 rw[hagain]at hs3
 unfold zK at hs1 hs2 hs3
 dsimp only at hs1 hs2 hs3
 have hk1:k1<ins.length:=(List.getElem?_eq_some_iff.1 a4).1
 have hxi:(ins.map av.enc)[k1]? =some i1.enc:=Gq a4
 have hsil:=ze i1.op
 rw[show zR i1.op=false by unfold zR;unfold av.sil at a5;simp;omega]at hsil
 have d1:decide (a.pc<0)=false:=decide_eq_false (by omega)
 have d2:decide ((ins.length:Int)≤a.pc)=false:=decide_eq_false (by omega)
 unfold yF.enc at hcode
 unfold bC.enc at hst hs1 hs2 hs3 hsm
 rw[a3]at *
 unfold av.enc at hxi
 repeat' (first | refine KK hcv ?_ | refine dy (KM hjm hz ?_) | refine st ?_ | ((with_reducible refine ao 4 ?_);refine af (hcode) ?_) | ((with_reducible refine al 4 ?_);refine ab (hcode) ?_) | ((with_reducible refine ao 5 ?_);refine af (hst) ?_) | ((with_reducible refine al 5 ?_);refine ab (hst) ?_) | ((with_reducible refine ao 6 ?_);refine af (hs1) ?_) | ((with_reducible refine al 6 ?_);refine ab (hs1) ?_) | ((with_reducible refine ao 6 ?_);refine af (hs3) ?_) | ((with_reducible refine al 6 ?_);refine ab (hs3) ?_) | ((with_reducible refine ao 7 ?_);refine af (hs2) ?_) | ((with_reducible refine al 7 ?_);refine ab (hs2) ?_) | ((with_reducible refine ao 8 ?_);refine af (hsm) ?_) | ((with_reducible refine al 8 ?_);refine ab (hsm) ?_) | ((with_reducible refine ao 9 ?_);refine af (hsil) ?_) | ((with_reducible refine al 9 ?_);refine ab (hsil) ?_) | refine sb (fun nb_ hnb_=>?_) | refine s2 (fun h=>?_) (fun h=>?_) | fail)
 all_goals first | exact hq _ | skip
end
end Go.Proofs.YtljkdffikfkcgaaGreat.Am
end
section
namespace Go.Proofs.YtljkdffikfkcgaaGreat.Am
open Go.ChangeShapes Go.WideShapes Go.ChangeAt Go.RowKit
set_option linter.unusedVariables false
def BJ:bz:=⟨fun _=>none,fun _=>False⟩
def DS:Nat→Prop:=fun _=>False
def KO{α:Type}(e:α→List AV)(G:α→Prop):Rel α:=fun w _ x cs=>G x∧du w BJ DS (e x) cs
theorem sw{w:World}{σ:bz}{T:Nat→Prop}{a:AV}{v:Value}(h:bq w σ T a v):du w σ T [a] [v]:=⟨rfl,fun i x u h1 h2=>by
 match i with
 | 0=>cases h1;cases h2;exact h
 | i+1=>simp at h1⟩
theorem jj{w:World}{σ:bz}{T:Nat→Prop}{a:AV}{v:Value}{l:List AV}{m:List Value}(h:du w σ T [a] [v])(hl:du w σ T l m):du w σ T (a::l) (v::m):=⟨by simp[hl.1],fun i x u h1 h2=>by
 match i with
 | 0=>exact h.2 0 x u h1 h2
 | i+1=>exact hl.2 i x u (by simpa using h1) (by simpa using h2)⟩
theorem F5{w:World}{σ:bz}{T:Nat→Prop}:du w σ T [] []:=⟨rfl,fun i x u h1 h2=>by simp at h1⟩
section
variable {H:Type} {enc:TypeId×Value→H} {P:Program} {w:World} {base:Nat} {spare:Nat→Bool} {held:Bool}
theorem F6{t:TypeId}{k:IntKind}(ht:P.underlying t=some (.int k)):Opens H enc P w base spare held t (KO (fun n:Int=>[.int k n]) fun n=>(Lit.int k n).wf=true):=fun fuel cs x h=>by
 obtain⟨n,rfl,hn⟩:=opens_int ht fuel cs x h
 exact⟨n,hn,sw (.int k n)⟩
theorem BK{α:Type}{t e:TypeId}{size:Nat}{f:α→List AV}{G:α→Prop}(ht:P.underlying t=some (.slice e))(hc:P.cellsOf e=size)(hs:0<size)(he:Opens H enc P w base spare held e (KO f G)):
  Opens H enc P w base spare held t (KO (fun l:List α=>[.lst (l.map f)]) fun l=>l.length≤maxLen∧∀x∈l,G x):=fun fuel cs x h=>by
 obtain⟨l,A,c,rfl,h1,h2,h3⟩:=opens_slice ht hc hs he fuel cs x h
 refine⟨l,⟨by omega,fun x hx=>?_⟩,sw ?_⟩
 ·obtain⟨i,hi,rfl⟩:=List.getElem_of_mem hx
  obtain⟨b,o,_,_,hall⟩:=h3 (by omega)
  obtain⟨cs',_,hR,_⟩:=hall i l[i] (List.getElem?_eq_getElem hi)
  exact hR.1
 ·rcases Nat.eq_zero_or_pos l.length with h0 | h0
  ·have:l=[]:=List.length_eq_zero_iff.1 h0
   subst this
   exact .lst0 A c h2
  ·obtain⟨b,o,rfl,hb,hall⟩:=h3 h0
   have:=bq.lst (w:=w) (σ:=BJ) (T:=DS) (l.map f) b o size c ⟨fun h=>h,fun i r hr=>?_,fun i j hi hj=>?_,hs,by simpa using h0⟩ (by simpa using h1) h2 (fun i r j a u hr ha hu=>?_)
   ·simpa using this
   ·rw[List.getElem?_map]at hr
    cases hx:l[i]? with
    | none=>rw[hx]at hr;cases hr
    | some y=>
     rw[hx]at hr;cases hr
     obtain⟨cs',k1,k2,_⟩:=hall i y hx
     rw[k2.2.1,k1]
   ·have hi':i<l.length:=by simpa using hi
    obtain⟨cs',k1,k2,k3⟩:=hall i l[i] (List.getElem?_eq_getElem hi')
    exact⟨cs'[j],k3 j _ (List.getElem?_eq_getElem (by omega))⟩
   ·rw[List.getElem?_map]at hr
    cases hx:l[i]? with
    | none=>rw[hx]at hr;cases hr
    | some y=>
     rw[hx]at hr;cases hr
     obtain⟨cs',k1,k2,k3⟩:=hall i y hx
     have hj:j<cs'.length:=by rw[←k2.2.1];exact ax ha
     have hu':=k3 j _ (List.getElem?_eq_getElem hj)
     rw[hu]at hu'
     cases hu'
     exact k2.2.2 j a _ ha (List.getElem?_eq_getElem hj)
end
theorem DT{P:Program}{f:FuncId}{args:List AV}{vs:List Value}(h:aD P f args (.bool true))(w:World)(hv:du w BJ DS args vs):Calls P f vs.toArray w fun e w'=>e=.returned (.bool true)∧Below w.heap.size w w':=by
 obtain⟨v,H',L',h1,h2,rfl,rfl⟩:=h.2 ah.empty (fun b _=>dF b) ⟨List.nodup_nil,fun p hp=>by simp at hp⟩
 have hown:aS BJ ah.empty=DS:=by
  funext c
  apply propext
  constructor
  ·rintro(h | ⟨b,x,pl,h4,_,_⟩)
   ·exact h
   ·rw[dF]at h4;cases h4
  ·exact fun h=>h.elim
 have hW:bn w BJ ah.empty:=⟨fun b pl hb=>(by cases hb),fun b pl hb=>(by cases hb),fun b x hb=>(by rw[dF]at hb;cases hb),fun c hc=>hc.elim,fun b b' x x' pl pl' hb=>(by rw[dF]at hb;cases hb)⟩
 refine(h1 w BJ vs hW (by rw[hown];exact hv)).mono ?_
 rintro e w' ⟨v',σ',rfl,k1,k2,k3,_⟩
 cases k1
 rw[hown]at k3
 exact⟨rfl,k3.os,k3.tape,k3.output,k3.size,fun k hk=>k3.keep k hk fun h=>h⟩
end Go.Proofs.YtljkdffikfkcgaaGreat.Am
end
section
namespace Go.Proofs.YtljkdffikfkcgaaGreat.Am
open Go.ChangeShapes Go.WideShapes Go.ChangeAt Go.RowKit
set_option linter.unusedVariables false
def Lm(l:List Int):List UInt8:=l.map fun x=>UInt8.ofNat x.toNat
theorem Dd{x:Int}(h:(Lit.int .u8 x).wf=true):0≤x∧x<256:=by
 simp only[Lit.wf,Bool.and_eq_true,decide_eq_true_eq]at h
 have h1:IntKind.u8.min=0:=by decide
 have h2:IntKind.u8.max=255:=by decide
 omega
theorem Hd{l:List Int}(h:∀x∈l,0≤x∧x<256):(Lm l).map nu=l.map Dx:=by
 unfold Lm
 rw[List.map_map]
 refine List.map_congr_left fun x hx=>?_
 have:=h x hx
 show [AV.int .u8 (((UInt8.ofNat x.toNat).toNat:Nat):Int)]=[AV.int .u8 x]
 rw[UInt8.toNat_ofNat_of_lt' (by show x.toNat<256;omega),Int.toNat_of_nonneg this.1]
section
variable {H:Type} {enc:TypeId×Value→H} {w:World} {base:Nat} {spare:Nat→Bool} {held:Bool}
theorem F7:Opens H enc Tryz.prog w base spare held 22 (KO (fun l:List Int=>[.lst (l.map Dx)]) fun l=>l.length≤maxLen∧∀x∈l,(Lit.int .u8 x).wf=true):=
 BK (size:=1) Tryz.underlying22 (by kernel_rfl) (by decide) (F6 (by kernel_rfl))
theorem He:Opens H enc Tryz.prog w base spare held 23 (KO (fun l:List Int=>[.lst (l.map az)]) fun l=>l.length≤maxLen∧∀x∈l,(Lit.int .i64 x).wf=true):=
 BK (size:=1) Tryz.underlying23 (by kernel_rfl) (by decide) (F6 (by kernel_rfl))
end
end Go.Proofs.YtljkdffikfkcgaaGreat.Am
end
section
namespace Go.Proofs.YtljkdffikfkcgaaGreat.silentSettles
open Go.ChangeShapes Go.WideShapes Go.ChangeAt Go.RowKit Am
set_option linter.unusedVariables false
set_option linter.unusedSimpArgs false
theorem law(l:List Int)(hl:l.length≤maxLen∧∀x∈l,(Lit.int .u8 x).wf=true)(t:Int)(ht:(Lit.int .u8 t).wf=true)(k:Int)(hk:(Lit.int .u8 k).wf=true)(r:List Int)(hr:r.length≤maxLen∧∀x∈r,(Lit.int .i64 x).wf=true)(a:List Int)(ha:a.length≤maxLen∧∀x∈a,(Lit.int .u8 x).wf=true):
  aD Tryz.prog 3 [.lst (l.map Dx),.int .u8 t,.int .u8 k,.lst (r.map az),.lst (a.map Dx)] (.bool true):=by
 have hm:maxLen<2^63:=by decide
 rw[←Hd fun x hx=>Dd (hl.2 x hx)]
 exact settles (Dd ht) (Dd hk) (by omega) (by omega) fun x hx=>Dd (ha.2 x hx)
theorem own:ownKnob Tryz.prog.godebug=none:=by kernel_rfl
theorem laidOut:laidOutB Tryz.prog=true:=by kernel_rfl
theorem agg_of{n:Nat}(hn:n≠1){v:Value}(h:v.cells.toList.length=n):∃cs:List Value,v=.agg cs.toArray∧v.cells.toList=cs:=by
 cases v with
 | agg a=>exact⟨a.toList,by simp,rfl⟩
 | _=>simp[Value.cells]at h;omega
set_option maxRecDepth 100000 in
theorem lifted(os:Os)(started:os.Started)(H:Type)(enc:TypeId×Value→H):
  ReturnsInHanded {} Tryz.checked os 3 .any (Rows.silentSettlesSpec.pre6 enc Tryz.prog Tryz.f3 Rows.silentSettlesRow.domain false) (Rows.silentSettlesSpec.post enc Tryz.prog Tryz.f3 false true false false):=by
 refine returnsInHanded_of_change (C:=Tryz.checked) own started (by kernel_rfl) Tryz.func3
  (ChangeSpec.witness6 (enc:=enc) (C:=Tryz.checked) false ⟨#[],#[.slice none 0 0,.int .u8 0,.int .u8 0,.slice none 0 0,.slice none 0 0],[]⟩ 8 (by kernel_rfl) (by kernel_rfl) (by kernel_rfl) (by kernel_rfl)) ?_
 intro W base args ds gs before hval0 hW hcnd _
 have hval:∀(j:Nat) t v,Tryz.f3.params[j]? =some t→args[j]? =some v→Value.okWide Tryz.prog W .any base t v:=hval0
 have hW':=hW
 obtain⟨p,q,hA0,hV,rfl,hfz,hnd⟩:=hW
 have hA:DataW.TrodAll enc Tryz.prog W 0 (fun _=>true) true Tryz.f3.params.toList args.toList ds p:=hA0
 rw[Tryz.params3]at hA hval
 obtain⟨v0,vs0,d0,ds0,p0,q0,hargs,rfl,rfl,h0,r0⟩:=trodAll_cons hA
 obtain⟨v1,vs1,d1,ds1,p1,q1,rfl,rfl,rfl,h1,r1⟩:=trodAll_cons r0
 obtain⟨v2,vs2,d2,ds2,p2,q2,rfl,rfl,rfl,h2,r2⟩:=trodAll_cons r1
 obtain⟨v3,vs3,d3,ds3,p3,q3,rfl,rfl,rfl,h3,r3⟩:=trodAll_cons r2
 obtain⟨v4,vs4,d4,ds4,p4,q4,rfl,rfl,rfl,h4,r4⟩:=trodAll_cons r3
 obtain⟨rfl,rfl,rfl⟩:=trodAll_nil r4
 obtain rfl:args=#[v0,v1,v2,v3,v4]:=by cases args;simp_all
 obtain⟨rfl,rfl⟩:=trodVars_none hV
 obtain⟨fuel0,hf0⟩:=h0
 obtain⟨a0,n0,c0,rfl⟩:=okWide_slice Tryz.underlying22 (hval 0 22 v0 rfl rfl)
 obtain⟨x0,g0,k0⟩:=F7 _ _ _ hf0
 obtain⟨fuel1,hf1⟩:=h1
 obtain⟨x1,rfl,_,_,g1⟩:=open_int Tryz.underlying5 (hval 1 5 v1 rfl rfl) ⟨fuel1,hf1⟩
 have k1:=sw (bq.int (w:=W) (σ:=BJ) (T:=DS) .u8 x1)
 obtain⟨fuel2,hf2⟩:=h2
 obtain⟨x2,rfl,_,_,g2⟩:=open_int Tryz.underlying5 (hval 2 5 v2 rfl rfl) ⟨fuel2,hf2⟩
 have k2:=sw (bq.int (w:=W) (σ:=BJ) (T:=DS) .u8 x2)
 obtain⟨fuel3,hf3⟩:=h3
 obtain⟨a3,n3,c3,rfl⟩:=okWide_slice Tryz.underlying23 (hval 3 23 v3 rfl rfl)
 obtain⟨x3,g3,k3⟩:=He _ _ _ hf3
 obtain⟨fuel4,hf4⟩:=h4
 obtain⟨a4,n4,c4,rfl⟩:=okWide_slice Tryz.underlying22 (hval 4 22 v4 rfl rfl)
 obtain⟨x4,g4,k4⟩:=F7 _ _ _ hf4
 refine(DT (law x0 g0 x1 g1 x2 g2 x3 g3 x4 g4) W (jj k0 (jj k1 (jj k2 (jj k3 (jj k4 F5)))))).mono fun e W' ⟨he,hb⟩=>⟨.bool true,he,?_⟩
 exact law_post laidOut (of_decide_eq_true (by kernel_rfl)) rfl rfl Tryz.underlying4 hW' rfl rfl rfl hb
theorem over:Rows.silentSettlesRow.holds Tryz.pinned (OpenSpec.ofChange Rows.silentSettlesSpec):=
 OpenClaim.holds_of_wide 3 Tryz.f3 rfl rfl rfl rfl rfl rfl rfl ⟨rfl,rfl,rfl,rfl,rfl⟩ rfl rfl rfl rfl rfl (by kernel_rfl) Tryz.func3 (by kernel_rfl)
  (of_decide_eq_true (by kernel_rfl)) (by unfold Func.isWrapper;first | (rw[if_pos (by decide +kernel)];kernel_rfl) | (rw[if_neg (by decide +kernel)];exact⟨rfl,rfl⟩))
  (fun os started H enc _=>lifted os started H enc)
theorem proved:Rows.SilentSettlesSaid:=
 over
#print axioms proved
end Go.Proofs.YtljkdffikfkcgaaGreat.silentSettles
end
