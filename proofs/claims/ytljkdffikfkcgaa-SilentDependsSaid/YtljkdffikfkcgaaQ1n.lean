/- SilentDepends: a register whose taint is empty has the same value whatever the registers with a taint contained: the law returns true for every tape, thread, instruction, registers, other registers and taints. -/
import Derived.Test.YtljkdffikfkcgaaQ1m
import Derived.Test.YtljkdffikfkcgaaChecked
set_option linter.unusedSimpArgs false
set_option linter.unusedVariables false
section
namespace Go.Proofs.Ytljkdffikfkcgaa.Am
set_option linter.unusedVariables false
set_option maxRecDepth 100000
theorem Fh(a:Int)(l:List Int):a≤sV a l∧∀r∈l,r<sV a l:=by
 unfold sV
 induction l generalizing a with
 | nil=>exact⟨Int.le_refl _,nofun⟩
 | cons x l ih=>
  rw[List.foldl_cons]
  obtain⟨h1,h2⟩:=ih (max a (x+1))
  refine⟨by omega,fun r hr=>?_⟩
  rcases List.mem_cons.1 hr with h | h
  ·subst h;omega
  ·exact h2 r h
theorem Fi{a b:Int}{l:List Int}(ha:a≤b)(h:∀r∈l,r<b):sV a l≤b:=by
 unfold sV
 induction l generalizing a with
 | nil=>exact ha
 | cons x l ih=>
  rw[List.foldl_cons]
  have:=h x (.head _)
  exact ih (by omega) fun r hr=>h r (.tail _ hr)
theorem Fj(a:Int)(l:List aw):a≤mq a l∧∀i∈l,∀r∈aU i,r<mq a l:=by
 unfold mq
 induction l generalizing a with
 | nil=>exact⟨Int.le_refl _,nofun⟩
 | cons x l ih=>
  rw[List.foldl_cons]
  obtain⟨h1,h2⟩:=ih (sV a (aU x))
  obtain⟨h3,h4⟩:=Fh a (aU x)
  refine⟨by omega,fun i hi r hr=>?_⟩
  rcases List.mem_cons.1 hi with h | h
  ·subst h;have:=h4 r hr;omega
  ·exact h2 i h r hr
theorem Fk{a b:Int}{l:List aw}(ha:a≤b)(h:∀i∈l,∀r∈aU i,r<b):mq a l≤b:=by
 unfold mq
 induction l generalizing a with
 | nil=>exact ha
 | cons x l ih=>
  rw[List.foldl_cons]
  exact ih (Fi ha (h x (.head _))) fun i hi=>h i (.tail _ hi)
structure Fm(w:bj)(t:Nat)(c:lf):Prop where
 r0:0≤c.regs
 r32:c.regs≤32
 ne:0<c.ins.length
 short:c.ins.length<2^21
 op:∀i∈c.ins,1≤i.op∧i.op≤28
 last:∀(k:Nat) (i:aw),c.ins[k]? =some i→(i.op=28↔k+1=c.ins.length)
 obj:∀i∈c.ins,AE w i=true
 regs:∀i∈c.ins,∀r∈aU i,0≤r∧r<c.regs
 endS:∀i∈c.ins,i.op=28→i.site=-1
 site:∀i∈c.ins,i.op≠28→∃(k:Nat) (h:k<w.sites.length),i.site=k∧w.sites[k].thread=t
 jmp:∀i∈c.ins,i.op=5→0≤i.a∧i.a<c.ins.length
 br:∀i∈c.ins,i.op=10→0≤i.b∧i.b<c.ins.length
 lans:∀k,k<c.ins.length→ms c.ins k
def kP:Nat→List ai→List ft
 | _,[]=>[]
 | k,t::l=>sitL k 0 t.body++kP (k+1) l
theorem IS(ts:List ai):∀(w:bj),(ts.foldl cD w).sites=w.sites++kP w.threads.length ts:=by
 induction ts with
 | nil=>intro w;simp[kP]
 | cons t l ih=>intro w;rw[List.foldl_cons,ih];simp[cD,kP]
theorem xk:∀(ts:List ai) (k i j:Nat) (hi:i<ts.length) (hj:j<aa.cnts ts[i].body),(kP k ts)[bf (fun t=>aa.cnts t.body) (ts.take i)+j]? =(sitL (k+i) 0 ts[i].body)[j]?
 | t::l,k,0,j,hi,hj=>by
  simp only[kP,List.take_zero,bf,List.map_nil,List.sum_nil,Nat.zero_add,List.getElem_cons_zero,Nat.add_zero]
  rw[List.getElem?_append_left (by rw[sitL_len];exact hj)]
 | t::l,k,i+1,j,hi,hj=>by
  have:=xk l (k+1) i j (by simpa using hi) (by simpa using hj)
  simp only[kP,List.take_succ_cons,List.getElem_cons_succ]
  have e:bf (fun t=>aa.cnts t.body) (t::l.take i)=aa.cnts t.body+bf (fun t=>aa.cnts t.body) (l.take i):=by simp[bf]
  rw[e,List.getElem?_append_right (by rw[sitL_len];omega),sitL_len,show aa.cnts t.body+bf (fun t=>aa.cnts t.body) (l.take i)+j-aa.cnts t.body=bf (fun t=>aa.cnts t.body) (l.take i)+j by omega,this,show k+1+i=k+(i+1) by omega]
section
variable {p:aK} (hd:p.decls=aP)
include hd
theorem AF:(bD p).sites=kP 0 p.threads:=by
 unfold bD
 rw[IS,hd]
 rfl
def AG(p:aK)(i:Nat):Nat:=bf (fun t=>aa.cnts t.body) (p.threads.take i)
theorem Fn{i k:Nat}(hi:i<p.threads.length)(h1:AG p i≤k)(h2:k<AG p (i+1)):∃(h:k<(bD p).sites.length),(bD p).sites[k].thread=i:=by
 unfold AG at h1 h2
 rw[ck hi]at h2
 have hj:k-bf (fun t:ai=>aa.cnts t.body) (p.threads.take i)<aa.cnts p.threads[i].body:=by omega
 have:=xk p.threads 0 i _ hi hj
 rw[show bf (fun t:ai=>aa.cnts t.body) (p.threads.take i)+(k-bf (fun t:ai=>aa.cnts t.body) (p.threads.take i))=k by omega,Nat.zero_add,←AF hd]at this
 have hlt:k-bf (fun t:ai=>aa.cnts t.body) (p.threads.take i)<(sitL i 0 p.threads[i].body).length:=by rw[sitL_len];exact hj
 rw[List.getElem?_eq_getElem hlt]at this
 obtain⟨h,e⟩:=List.getElem?_eq_some_iff.1 this
 exact⟨h,by rw[e];exact(sitL_at i 0 _ _ hlt).1⟩
theorem Ea(hp:fD p)(hw:p.wt≤200000):∃(cs:Nat→List aw) (tcs:List lf),D5 p (AG p) cs tcs∧∀i (h:i<tcs.length),Fm (bD p) i tcs[i]:=by
 have hbw:∀i (h:i<p.threads.length),aa.wts p.threads[i].body≤200000:=fun i h=>by
  have:=p.thread_wt h;unfold ai.wt at this;omega
 have hloc:∀i (h:i<p.threads.length),p.threads[i].locals.length≤4:=fun i h=>(hp.threads.locals i h).few
 have hsh:∀i (h:i<p.threads.length),shSs p.threads[i].body=true:=fun i h=>by
  have h1:=hp.shaped
  unfold Du at h1
  simp only[Bool.and_eq_true]at h1
  have h2:=List.all_eq_true.1 h1.2.1 _ (List.getElem_mem h)
  unfold E0 at h2
  simp only[Bool.and_eq_true]at h2
  rw[uj];exact h2.2.2
 have hnx:∀i (h:i<p.threads.length),AG p (i+1)=AG p i+aa.cnts p.threads[i].body:=fun i h=>ck h
 have hfew:∀i,AG p i<2^20:=fun i=>by
  have h1:=jw (fun t:ai=>aa.cnts t.body) p.threads i
  have h2:=hp.stmts
  unfold AG;omega
 have hall:∀i:Nat,∃c:List aw,c.length<2^20∧∀h:i<p.threads.length,StsC (bD p) p.threads[i].locals p.threads[i].body (AG p i) 0 c (AG p (i+1))∧∀x∈c,F6 (bD p) (AG p i) (AG p (i+1)) 0 c.length x:=fun i=>by
  by_cases h:i<p.threads.length
  ·obtain⟨c,h1,h2,h3⟩:=sts_ex hd (hloc i h) p.threads[i].body (hsh i h) (hp.sts i h) (AG p i) 0
   have:=hbw i h
   rw[←hnx i h]at h1 h3
   exact⟨c,by omega,fun _=>⟨h1,by simpa using h3⟩⟩
  ·exact⟨[],by simp,fun g=>absurd g h⟩
 obtain⟨cs,hcs⟩:=Classical.axiomOfChoice hall
 have hregs:∀i,i<p.threads.length→∀x∈cs i++[jz],∀r∈aU x,0≤r∧r<16:=fun i h=>bE (fun x hx=>(((hcs i).2 h).2 x hx).regs) (bF (by simp[aU,jz]))
 refine⟨cs,p.threads.mapIdx fun i t=>Cd t.locals (cs i),⟨by simp[AG,bf],by simp,fun i h=>((hcs i).2 h).1,fun i h=>by simp,fun i=>(hcs i).1,hfew,fun i h x hx r hr=>by have:=hregs i h x hx r hr;omega⟩,fun i h=>?_⟩
 have hi:i<p.threads.length:=by simpa using h
 obtain⟨hS,hG⟩:=(hcs i).2 hi
 rw[List.getElem_mapIdx]
 have hR:=Fj p.threads[i].locals.length (cs i++[jz])
 have hm:∀x∈cs i++[jz],x∈cs i∨x=jz:=fun x hx=>by
  rcases List.mem_append.1 hx with h | h
  ·exact .inl h
  ·exact .inr (List.mem_singleton.1 h)
 refine⟨?_,?_,?_,?_,?_,?_,?_,?_,?_,?_,?_,?_,?_⟩
 ·show 0≤mq _ _;omega
 ·show mq _ _≤32
  exact Fk (by have:=hloc i hi;omega) fun x hx r hr=>by have:=hregs i hi x hx r hr;omega
 ·simp[Cd]
 ·have:=(hcs i).1;simp[Cd];omega
 ·intro x hx
  rcases hm x hx with h | rfl
  ·have:=(hG x h).op;omega
  ·exact⟨by decide,by decide⟩
 ·intro k x hk
  have hk':(cs i++[jz])[k]? =some x:=hk
  have hlen:(Cd p.threads[i].locals (cs i)).ins.length=(cs i).length+1:=by simp[Cd]
  rw[hlen]
  rcases Nat.lt_or_ge k (cs i).length with g | g
  ·rw[List.getElem?_append_left g]at hk'
   have:=(hG x (List.mem_of_getElem? hk')).op
   constructor<;>intro<;>omega
  ·rw[List.getElem?_append_right g]at hk'
   have:k-(cs i).length=0:=by
    rcases Nat.eq_zero_or_pos (k-(cs i).length)with e | e
    ·exact e
    ·rw[List.getElem?_eq_none (by simp;omega)]at hk';cases hk'
   rw[this]at hk'
   cases hk'
   constructor
   ·intro;omega
   ·intro;rfl
 ·intro x hx
  rcases hm x hx with h | rfl
  ·exact(hG x h).obj
  ·rfl
 ·intro x hx r hr
  exact⟨(hregs i hi x hx r hr).1,hR.2 x hx r hr⟩
 ·intro x hx ho
  rcases hm x hx with h | rfl
  ·have:=(hG x h).op;omega
  ·rfl
 ·intro x hx ho
  rcases hm x hx with h | rfl
  ·have hs:=(hG x h).site
   obtain⟨h1,h2⟩:=Fn hd hi (k:=x.site.toNat) (by omega) (by omega)
   exact⟨x.site.toNat,h1,by omega,h2⟩
  ·exact absurd rfl ho
 ·intro x hx ho
  rcases hm x hx with h | rfl
  ·have:=(hG x h).jmp ho
   simp[Cd];omega
  ·cases ho
 ·intro x hx ho
  rcases hm x hx with h | rfl
  ·have:=(hG x h).br ho
   simp[Cd];omega
  ·cases ho
 ·have hst:eh (cs i++[jz]) (cs i) 0:=fun k x hk=>by
   rw[Nat.zero_add,List.getElem?_append_left (List.getElem?_eq_some_iff.1 hk).1];exact hk
  have hend:ms (cs i++[jz]) (0+(cs i).length):=la (i:=jz) (by rw[Nat.zero_add,List.getElem?_append_right (Nat.le_refl _),Nat.sub_self];rfl) (by decide)
  have hA:=Hz.2 hS hst hend
  intro k hk
  have hk':k<(cs i++[jz]).length:=hk
  exact hA k (Nat.zero_le _) (by simp at hk';omega)
end
end Go.Proofs.Ytljkdffikfkcgaa.Am
end
section
namespace Go.Proofs.Ytljkdffikfkcgaa.Am
set_option linter.unusedVariables false
theorem Fo{n a:Int}(h:n=4∨n=5):(BN n a).2=true:=by
 unfold BN
 rcases h with rfl | rfl<;>rfl
theorem Eb{n a b:Int}(h:6≤n∧n≤18):(rS n a b).2=true:=by
 have:n=6∨n=7∨n=8∨n=9∨n=10∨n=11∨n=12∨n=13∨n=14∨n=15∨n=16∨n=17∨n=18:=by omega
 unfold rS
 rcases this with rfl | rfl | rfl | rfl | rfl | rfl | rfl | rfl | rfl | rfl | rfl | rfl | rfl<;>rfl
structure tj(c:lf)(s:bK):Prop where
 regs:(s.regs.length:Int)=c.regs
 taint:(s.taint.length:Int)=c.regs
section
variable {w:bj} {t:Nat} {c:lf} (hV:Fm w t c)
include hV
theorem B9{i:aw}(hi:i∈c.ins)(hs:i.sil){s:bK}(hf:tj c s):∃s2,bu i s=some s2∧tj c s2∧s2.pc=(if i.op=5 then i.a else IntKind.i64.wrap (s.pc+1))∧s2.ev=s.ev:=by
 have hr:=hV.regs i hi
 have ho:=hV.obj i hi
 have has:∀r∈aU i,s.has r=true:=fun r hr'=>by
  have:=hr r hr'
  have:=hf.regs
  unfold bK.has;rw[gX];omega
 obtain⟨h1,h5⟩:=hs
 have hop:i.op=1∨i.op=2∨i.op=3∨i.op=4∨i.op=5:=by omega
 have fit:∀a v l,tj c (s.put a v l):=fun a v l=>⟨by simp[bK.put,hf.regs],by simp[bK.put,hf.taint]⟩
 unfold bu
 rcases hop with e | e | e | e | e
 ·have ha:=has i.a (by simp[aU,e])
  rw[if_pos e,if_pos ha]
  exact⟨_,rfl,fit _ _ _,by simp[e,bK.put],rfl⟩
 ·have ha:=has i.a (by simp[aU,e]);have hb:=has i.b (by simp[aU,e])
  rw[if_neg (by omega),if_pos e,if_pos (by simp[ha,hb])]
  exact⟨_,rfl,fit _ _ _,by simp[e,bK.put],rfl⟩
 ·have ha:=has i.a (by simp[aU,e]);have hb:=has i.b (by simp[aU,e])
  have hn:i.n=4∨i.n=5:=by simpa[AE,e]using ho
  rw[if_neg (by omega),if_neg (by omega),if_pos e,if_pos (by simp[ha,hb,Fo hn])]
  exact⟨_,rfl,fit _ _ _,by simp[e,bK.put],rfl⟩
 ·have ha:=has i.a (by simp[aU,e]);have hb:=has i.b (by simp[aU,e]);have hc:=has i.c (by simp[aU,e])
  have hn:6≤i.n∧i.n≤18:=by simpa[AE,e]using ho
  rw[if_neg (by omega),if_neg (by omega),if_neg (by omega),if_pos e,if_pos (by simp[ha,hb,hc,Eb hn])]
  exact⟨_,rfl,fit _ _ _,by simp[e,bK.put],rfl⟩
 ·rw[if_neg (by omega),if_neg (by omega),if_neg (by omega),if_neg (by omega)]
  exact⟨_,rfl,⟨hf.regs,hf.taint⟩,by simp[e],rfl⟩
theorem Ec:∀(m:Nat) {k:Nat} {s:bK},wU c.ins k m→s.pc=k→tj c s→∀n,m≤n→∃(k':Nat) (i:aw) (s2:bK),dz c.ins n s=(s2,true)∧tj c s2∧s2.pc=k'∧c.ins[k']? =some i∧¬i.sil∧s2.ev=s.ev:=by
 intro m
 induction m with
 | zero=>
  intro k s hl hp hf n _
  cases hl with
  | ev _ i hi hs=>
  have hk:=(List.getElem?_eq_some_iff.1 hi).1
  have hin:inB s.pc c.ins.length=true:=by rw[gX];omega
  have hg:c.ins.getD s.pc.toNat default=i:=by rw[hp];simp[List.getD,hi]
  have hop:(c.ins.getD s.pc.toNat default).op<1∨5<(c.ins.getD s.pc.toNat default).op:=by rw[hg];unfold aw.sil at hs;omega
  refine⟨k,i,s,?_,hf,hp,hi,hs,rfl⟩
  cases n with
  | zero=>unfold dz;rw[if_pos hin,if_pos hop]
  | succ n=>unfold dz;rw[if_pos hin,if_pos hop]
 | succ m ih=>
  intro k s hl hp hf n hn
  obtain⟨n,rfl⟩:∃n',n=n'+1:=⟨n-1,by omega⟩
  have hk:=hl.lt
  have hsh:=hV.short
  have hin:inB s.pc c.ins.length=true:=by rw[gX];omega
  have key:∀(i:aw) (k2:Nat),c.ins[k]? =some i→i.sil→((if i.op=5 then i.a else IntKind.i64.wrap (s.pc+1))=(k2:Int))→wU c.ins k2 m→∃(k':Nat) (i:aw) (s2:bK),dz c.ins (n+1) s=(s2,true)∧tj c s2∧s2.pc=k'∧c.ins[k']? =some i∧¬i.sil∧s2.ev=s.ev:=by
   intro i k2 hi hs he hl2
   obtain⟨s2,h1,h2,h3,h4⟩:=B9 hV (List.mem_of_getElem? hi) hs hf
   have hg:c.ins.getD s.pc.toNat default=i:=by rw[hp];simp[List.getD,hi]
   have hop:¬((c.ins.getD s.pc.toNat default).op<1∨5<(c.ins.getD s.pc.toNat default).op):=by rw[hg];unfold aw.sil at hs;omega
   obtain⟨k',i',s3,r1,r2,r3,r4,r5,r6⟩:=ih hl2 (by rw[h3];exact he) h2 n (by omega)
   refine⟨k',i',s3,?_,r2,r3,r4,r5,r6.trans h4⟩
   rw[←hg]at h1
   unfold dz
   rw[if_pos hin,if_neg hop,h1]
   exact r1
  cases hl with
  | go _ _ i hi hs h5 hl2=>exact key i (k+1) hi hs (by rw[if_neg h5,hp,IntWalk.i64_in _ (by omega)];omega) hl2
  | jump _ _ j i hi h5 ha hl2=>exact key i j hi ⟨by omega,by omega⟩ (by rw[if_pos h5,ha]) hl2
theorem tk{k:Nat}{s:bK}(hk:k<c.ins.length)(hp:s.pc=k)(hf:tj c s):∃(k':Nat) (i:aw) (s2:bK),cg c s=(s2,true)∧tj c s2∧s2.pc=k'∧c.ins[k']? =some i∧¬i.sil∧s2.ev=s.ev:=by
 obtain⟨m,hm⟩:=hV.lans k hk
 unfold cg
 rw[if_pos ⟨hf.regs,hf.taint⟩]
 exact Ec hV m hm hp hf _ (Nat.le_of_lt hm.bound)
end
end Go.Proofs.Ytljkdffikfkcgaa.Am
end
section
namespace Go.Proofs.Ytljkdffikfkcgaa.Am
set_option linter.unusedVariables false
set_option maxRecDepth 100000
theorem AH(s:UInt8):∀a∈mM s,bB a:=fun a h=>by rw[List.mem_singleton.1 h];exact .int _ _
structure Ed(t:List UInt8)(p:aK)(cs:Nat→List aw)(c:wT):Prop where
 prog:aO Try.prog 9 [.lst (t.map mM)] (.agg p.enc)
 code:aO Try.prog 4 [.lst (t.map mM)] (.agg c.enc)
 decls:p.decls=aP
 ok:fD p
 w:c.w=bD p
 codes:D5 p (AG p) cs c.ts
 valid:∀i (h:i<c.ts.length),Fm c.w i c.ts[i]
theorem Fq(t:List UInt8)(ht:t.length<2^40):∃p cs c,Ed t p cs c:=by
 obtain⟨v,K,⟨p,rfl,rfl,hw,hp,hd,hpass⟩,hprog⟩:=(E6 t ht).pure (by simp only[List.forall_mem_cons,List.not_mem_nil,false_implies,implies_true,and_true];exact .lmap fun x _=>AH x) (fun u K ⟨p,h1,_⟩=>by rw[h1];exact p.pure)
 obtain⟨cs,tcs,hC,hV⟩:=Ea hd hp hw
 have hs:∀i (h:i<p.threads.length),Az (bD p) p.threads[i].locals:=fun i h=>by
  obtain⟨h1,h2,h3,h4,h5⟩:=AD hd
  have:=(hp.threads.locals i h).few
  have:=hp.few
  exact⟨by rw[h1];decide,by rw[h2];decide,by rw[h3];decide,by rw[h4];decide,by rw[h5];simp;omega,by omega⟩
 have hP:=AB p hp hpass hw hC hs
 refine⟨p,cs,⟨bD p,tcs⟩,hprog,?_,hd,hp,rfl,hC,hV⟩
 refine am.fz (xX _ _ _ ?_)
 unfold tf
 generalize hQ:(fun(v:AV) (L:SH)=>∃v2 L2,aV [v] L [v2] L2∧v2=AV.agg (wT.enc ⟨bD p,tcs⟩)∧L2=[])=Q
 have hq:∀L,Q (.agg (wT.enc ⟨bD p,tcs⟩)) L:=fun L=>by
  subst hQ;exact⟨_,[],aV.all (.refl _),rfl,rfl⟩
 clear hQ
 repeat' (first | refine st ?_ | ((with_reducible refine aq 9 ?_);refine aj (hprog) ?_) | ((with_reducible refine al 9 ?_);refine ab (hprog) ?_) | ((with_reducible refine aq 8 ?_);refine aj (hP) ?_) | ((with_reducible refine al 8 ?_);refine ab (hP) ?_) | refine sb (fun nb_ hnb_=>?_) | refine s2 (fun h=>?_) (fun h=>?_) | fail)
 exact hq _
end Go.Proofs.Ytljkdffikfkcgaa.Am
end
section
namespace Go.Proofs.Ytljkdffikfkcgaa.Am
set_option maxRecDepth 100000
set_option maxHeartbeats 2000000
set_option linter.unusedVariables false
theorem IU{k k':IntKind}{n m:Int}{K:AV→Prop}(e:k.wrap n=m)(h:K (.int k m)):W.conv k (.int k' n) K:=CI (by rw[e];exact h)
theorem IV{P:Program}{F:TypeId→Option (List TypeId)}{t:TypeId}{k:IntKind}{a b m:Int}{K:AV→Prop}(e:a.tmod b=m)(hb:b≠0)(h:K (.int k m)):W.bin P F .rem t (.int k a) (.int k b) K:=FF hb (by rw[e];exact h)
def xl:List Int:=(List.range 256).map Int.ofNat
theorem Ca{x:Int}(h:0≤x∧x<256):x∈xl:=List.mem_map.2 ⟨x.toNat,List.mem_range.2 (by omega),by show((x.toNat:Nat):Int)=x;omega⟩
theorem Ee{n:Nat}{taint:List Int}{l:List Int}(h:l∈eK [] n (taint.map fun x=>[x])):l=[]∨∃x∈taint,l=[x]:=by
 unfold eK at h
 rcases List.mem_append.1 h with h | h
 ·obtain⟨x,hx,rfl⟩:=List.mem_map.1 (List.mem_of_mem_take h)
  exact .inr ⟨x,hx,rfl⟩
 ·exact .inl (List.mem_replicate.1 h).2
theorem Ef{t:List UInt8}{p:aK}{cs:Nat→List aw}{c:wT}(h:Ed t p cs c):0<c.ts.length∧c.ts.length≤4:=by
 have h1:=h.ok.shaped
 unfold Du at h1
 simp only[Bool.and_eq_true,decide_eq_true_eq]at h1
 have:=h.codes.len
 have:=h.ok.few
 omega
theorem AI(n:Nat)(ins:List aw)(pc:Int)(regs taint:List Int)(hn:n<2^20)(hi:0<ins.length)(hi2:ins.length<2^40)(hp:0≤pc∧pc<256)(hr:regs.length<2^63)(ht:taint.length<2^63)(ht2:∀x∈taint,0≤x∧x<256):
  aO Try.prog 5 [.agg (lf.enc ⟨n,ins⟩),.int .u8 pc,.lst (regs.map aJ),.lst (taint.map BT)] (.agg (Jf ⟨n,ins⟩ n pc regs taint).enc):=by
 refine am.fz ((zo n ins pc regs taint hn hi hi2 hp hr ht ht2).mono ?_)
 rintro u K ⟨v,bR,rfl,rfl,rfl⟩
 exact⟨_,[],aV.all (Fz.aggs (.cons (.refl _) (.cons (Fz.sls (l:=eK 0 n regs) (f:=aJ) (.head _) rfl (by decide) kT.symm) (.cons (.refl _) (.cons (.refl _) .nil))))),rfl,rfl⟩
theorem HA{Q:R}(hq:∀L,Q (.bool true) L){a b:bK}(n:Nat)(hn:n<2^40)(hal:eN a b)(hla:a.regs.length=n)(hta:a.taint.length=n)(hsh:∀l∈a.taint,l.length<2^40):W.loop (cX Q) [.pptr [a.enc] 0 0,.pptr [b.enc] 0 0,.int .i64 0] []:=by
 obtain⟨apc,ar,at_,ae⟩:=a
 obtain⟨bpc,br,bt,be⟩:=b
 obtain⟨h1,h2,h3,h4,h5,h6⟩:=hal
 dsimp only at h1 h2 h3 h4 h5 h6 hla hta hsh
 subst h3
 refine eJ n (fun _=>True) (fun i=>[.pptr [bK.enc ⟨apc,ar,bt,ae⟩] 0 0,.pptr [bK.enc ⟨bpc,br,bt,be⟩] 0 0,.int .i64 i]) (by omega) trivial rfl (fun i hi hd hi1 _ nx hx=>?_) (fun i hi hd _ nx=>?_)
 all_goals unfold cX bK.enc
 ·have ga:i<ar.length:=by omega
  have gb:i<br.length:=by omega
  have gt:i<bt.length:=by omega
  have x1:=aC (f:=aJ) ga
  have x2:=aC (f:=aJ) gb
  have x3:=aC (f:=cC) gt
  have hs:=Do bt[i] (by have:=hsh _ (List.getElem_mem gt);omega)
  rw[←hla]at hd
  by_cases h0:bt[i].length=0
  ·have hz:decide ((bt[i].length:Int)=0)=true:=by simpa using h0
   have hv:=h6 i (by simp[List.getD,gt,List.length_eq_zero_iff.1 h0])
   have hv2:ar[i]=br[i]:=by simpa[List.getD,ga,gb]using hv
   have hne:decide (ar[i]≠br[i])=false:=by simpa using hv2
   repeat' (first | refine st ?_ | ((with_reducible refine aq 7 ?_);refine aj (hs) ?_) | ((with_reducible refine al 7 ?_);refine ab (hs) ?_) | refine sb (fun nb_ hnb_=>?_) | refine s2 (fun h=>?_) (fun h=>?_) | fail)
   exact hx trivial
  ·have hz:decide ((bt[i].length:Int)=0)=false:=decide_eq_false (by omega)
   repeat' (first | refine st ?_ | ((with_reducible refine aq 7 ?_);refine aj (hs) ?_) | ((with_reducible refine al 7 ?_);refine ab (hs) ?_) | refine sb (fun nb_ hnb_=>?_) | refine s2 (fun h=>?_) (fun h=>?_) | fail)
   exact hx trivial
 ·rw[←hla]at hd
  repeat' (first | refine st ?_ | refine sb (fun nb_ hnb_=>?_) | refine s2 (fun h=>?_) (fun h=>?_) | fail)
  exact hq _
theorem HB{Q:R}(hq:∀L,Q (.bool true) L){w:bj}{j n k:Nat}{ins:List aw}(hV:Fm w j ⟨n,ins⟩)(hn:n≤32){s:bK}(hk:k<ins.length)(hpc:s.pc=k)(hrl:s.regs.length=n)(htl:s.taint.length=n)(hU:∀l∈s.taint,l.length≤1∧∀x∈l,x∈xl){other:List Int}(ho:other.length<2^63){bR:Nat}:
  W.loop (cY Q) [.lst (other.map aJ),.pptr [lf.enc ⟨n,ins⟩] 0 0,.pptr [s.enc] 0 0,.pptr [[.int .i64 s.pc,.sl bR 0 n,.lst (s.taint.map cC),.int .i64 s.ev]] 0 0,.int .i64 0] [(bR,⟨1,s.regs.map aJ⟩)]:=by
 have hne:=hV.ne
 have hsh:=hV.short
 dsimp only at hne hsh
 refine cH (β:=List Int) n (fun i rs=>([.lst (other.map aJ),.pptr [lf.enc ⟨n,ins⟩] 0 0,.pptr [s.enc] 0 0,.pptr [[.int .i64 s.pc,.sl bR 0 n,.lst (s.taint.map cC),.int .i64 s.ev]] 0 0,.int .i64 i],[(bR,⟨1,rs.map aJ⟩)])) (fun i rs=>rs.length=n∧∀k:Nat,s.taint.getD k []=[]→s.regs.getD k 0=rs.getD k 0) s.regs ⟨hrl,fun _ _=>rfl⟩ (.refl _ _) ?_
 rintro i rs hi ⟨hrs,hG⟩
 dsimp only
 have hend:∃a b:bK,cg ⟨n,ins⟩ s=(a,true)∧cg ⟨n,ins⟩ ⟨s.pc,rs,s.taint,s.ev⟩=(b,true)∧eN a b∧a.regs.length=n∧a.taint.length=n∧∀l∈a.taint,l.length<2^40:=by
  have hal:eN s ⟨s.pc,rs,s.taint,s.ev⟩:=⟨rfl,rfl,rfl,by show rs.length=_;omega,by omega,hG⟩
  obtain⟨k1,i1,a,a1,a2,a3,a4,a5,a6⟩:=tk hV hk hpc ⟨by rw[hrl],by rw[htl]⟩
  obtain⟨k2,i2,b,b1,b2,b3,b4,b5,b6⟩:=tk hV (s:=⟨s.pc,rs,s.taint,s.ev⟩) hk hpc ⟨by show(rs.length:Int)=_;rw[hrs],by show(s.taint.length:Int)=_;rw[htl]⟩
  obtain⟨g1,g2⟩:=xR (c:=⟨n,ins⟩) hal
  rw[a1,b1]at g2
  have ht:kj xl s:=⟨by omega,by omega,fun l hl=>by have:=(hU l hl).1;omega,fun l hl=>(hU l hl).2⟩
  have ha:=zl (U:=xl) (by decide) (c:=⟨n,ins⟩) ht
  rw[a1]at ha
  refine⟨a,b,a1,b1,g2,?_,?_,fun l hl=>by have:=ha.short l hl;omega⟩
  ·have:=a2.regs;dsimp only at this;omega
  ·have:=a2.taint;dsimp only at this;omega
 obtain⟨a,b,ha,hb,hal,hla,hta,hshr⟩:=hend
 have hs1:=xf ⟨n,ins⟩ s xl (by decide) (by omega) (by omega) (fun l hl=>by have:=(hU l hl).1;omega) (fun l hl=>(hU l hl).2) (by show ins.length<_;omega)
 have hs2:=xf ⟨n,ins⟩ ⟨s.pc,rs,s.taint,s.ev⟩ xl (by decide) (by show rs.length<_;omega) (by show s.taint.length<_;omega) (fun l hl=>by have:=(hU l hl).1;omega) (fun l hl=>(hU l hl).2) (by show ins.length<_;omega)
 rw[ha]at hs1
 rw[hb]at hs2
 unfold C9 at hs1 hs2
 dsimp only at hs1 hs2
 have hl1:=HA hq n (by omega) hal hla hta hshr
 have hfz:aV [.agg (lf.enc ⟨n,ins⟩),.agg [.int .i64 s.pc,.sl bR 0 n,.lst (s.taint.map cC),.int .i64 s.ev]] [(bR,⟨1,rs.map aJ⟩)] [.agg (lf.enc ⟨n,ins⟩),.agg (bK.enc ⟨s.pc,rs,s.taint,s.ev⟩)] []:=
  aV.drop (K:=[(bR,⟨1,rs.map aJ⟩)]) (by simp) rfl (pV.cons (.refl _) (.cons (Fz.aggs (.cons (.refl _) (.cons (Fz.sls (l:=rs) (f:=aJ) (.head _) rfl (by decide) hrs.symm) (.cons (.refl _) (.cons (.refl _) .nil))))) .nil)).at_.2
 have d1:decide (a.pc≠b.pc)=false:=by simp[hal.pc]
 have d2:decide ((a.regs.length:Int)≠(b.regs.length:Int))=false:=by simp[hal.len]
 have d3:decide ((a.taint.length:Int)≠(a.regs.length:Int))=false:=by simp[hla,hta]
 have d4:decide ((b.taint.length:Int)≠(a.taint.length:Int))=false:=by simp[hal.taint]
 unfold cY
 generalize hnx:(fun(vs':List AV) (L':SH)=>∃j o',i<j∧j≤n∧_)=nx
 have hs3:=am.pre hfz hs2
 unfold bK.enc at hs1 hl1 hs3 ⊢
 have tail:dy 2 (.pptr [lf.enc ⟨n,ins⟩] 0 0) [(bR,⟨1,rs.map aJ⟩)] (fun x91=>dy 4 (.pptr [[AV.int IntKind.i64 s.pc,AV.lst (List.map aJ s.regs),AV.lst (List.map cC s.taint),AV.int IntKind.i64 s.ev]] 0 0) [(bR,⟨1,rs.map aJ⟩)] fun x92=>wc (.fn 6 []) [x91,x92] [(bR,⟨1,rs.map aJ⟩)] (eM Q (.pptr [lf.enc ⟨n,ins⟩] 0 0) (.pptr [[.int .i64 s.pc,.sl bR 0 n,.lst (s.taint.map cC),.int .i64 s.ev]] 0 0))):=by
  repeat' (first | refine st ?_ | ((with_reducible refine aq 6 ?_);refine aj (hs1) ?_) | ((with_reducible refine al 6 ?_);refine ab (hs1) ?_) | refine sb (fun nb_ hnb_=>?_) | refine s2 (fun h=>?_) (fun h=>?_) | fail)
  refine cf hs3 ?_
  rintro _ _ ⟨rfl,rfl⟩
  repeat' (first | exact hl1 | refine st ?_ | refine sb (fun nb_ hnb_=>?_) | refine s2 (fun h=>?_) (fun h=>?_) | fail)
 by_cases g1:i<n
 ·by_cases g2:i<other.length
  ·have hd1:=ct g1
   have hd2:=ct g2
   have hi1:=bH g1 (by omega)
   have hx1:=aC (f:=aJ) g2
   have gt:i<s.taint.length:=by omega
   have hx2:=aC (f:=cC) gt
   have hx3:(rs.map aJ)[i]? =some (aJ rs[i]):=aC (by omega)
   have hl3:(rs.map aJ).length=n:=by simp[hrs]
   by_cases g3:s.taint[i].length=0
   ·have hz:decide (0<(s.taint[i].length:Int))=false:=decide_eq_false (by omega)
    repeat' (first | exact tail | refine st ?_ | refine sb (fun nb_ hnb_=>?_) | refine s2 (fun h=>?_) (fun h=>?_) | fail)
    subst hnx
    exact⟨i+1,rs,by omega,by omega,⟨hrs,hG⟩,.refl _ _⟩
   ·have hz:decide (0<(s.taint[i].length:Int))=true:=decide_eq_true (by omega)
    repeat' (first | exact tail | refine st ?_ | refine sb (fun nb_ hnb_=>?_) | refine s2 (fun h=>?_) (fun h=>?_) | fail)
    subst hnx
    refine⟨i+1,rs.set i other[i],by omega,by omega,⟨by simpa using hrs,fun k hk0=>?_⟩,uS rfl ?_⟩
    ·have hki:k≠i:=by
      rintro rfl
      rw[List.getD_eq_getElem?_getD,List.getElem?_eq_getElem gt]at hk0
      exact g3 (by simpa using congrArg List.length hk0)
     rw[hG k hk0,List.getD_eq_getElem?_getD,List.getD_eq_getElem?_getD,List.getElem?_set_ne (Ne.symm hki)]
    ·rw[List.map_set];rfl
  ·have hd1:=ct g1
   have hd2:decide ((i:Int)<(other.length:Int))=false:=ee (by omega)
   repeat' (first | exact tail | refine st ?_ | refine sb (fun nb_ hnb_=>?_) | refine s2 (fun h=>?_) (fun h=>?_) | fail)
 ·have hd1:decide ((i:Int)<(n:Int))=false:=ee (by omega)
  repeat' (first | exact tail | refine st ?_ | refine sb (fun nb_ hnb_=>?_) | refine s2 (fun h=>?_) (fun h=>?_) | fail)
section
variable {t:List UInt8} {thread pc:Int} {regs other taint:List Int}
theorem Fs(hth:0≤thread∧thread<256)(hp:0≤pc∧pc<256)(hr:regs.length<2^63)(ho:other.length<2^63)(hta:taint.length<2^63)(ht2:∀x∈taint,0≤x∧x<256):
  aO Try.prog 3 [.lst (t.map mM),.int .u8 thread,.int .u8 pc,.lst (regs.map aJ),.lst (other.map aJ),.lst (taint.map BT)] (.bool true):=by
 refine am.fz (ju _ _ _ _ _ _ _ _ ?_)
 unfold eW
 generalize hQ:(fun(v:AV) (L:SH)=>∃v2 L2,aV [v] L [v2] L2∧v2=AV.bool true∧L2=[])=Q
 have hq:∀L,Q (.bool true) L:=fun L=>by subst hQ;exact⟨_,[],aV.all (.refl _),rfl,rfl⟩
 clear hQ
 rcases Nat.lt_or_ge 200 t.length with ht | ht
 ·have hd:decide ((200:Int)<(t.length:Int))=true:=decide_eq_true (by omega)
  repeat' (first | refine st ?_ | refine sb (fun nb_ hnb_=>?_) | refine s2 (fun h=>?_) (fun h=>?_) | fail)
  exact hq _
 obtain⟨p,cs,c,hC⟩:=Fq t (by omega)
 have hd2:decide ((200:Int)<(t.length:Int))=false:=decide_eq_false (by omega)
 obtain⟨hpos,hfew⟩:=Ef hC
 obtain⟨j,hj,hjm⟩:∃j:Nat,j<c.ts.length∧thread.tmod (c.ts.length:Int)=(j:Int):=by
  refine⟨(thread.tmod (c.ts.length:Int)).toNat,?_,?_⟩
  ·have:=Int.tmod_lt_of_pos thread (show(0:Int)<(c.ts.length:Int) by omega)
   have:=Int.tmod_nonneg (c.ts.length:Int) hth.1
   omega
  ·have:=Int.tmod_nonneg (c.ts.length:Int) hth.1
   omega
 have hV:=hC.valid j hj
 obtain⟨n,hn⟩:∃n:Nat,c.ts[j].regs=(n:Int):=⟨c.ts[j].regs.toNat,by have:=hV.r0;omega⟩
 have hn32:n≤32:=by have:=hV.r32;omega
 have hx:=aC (f:=lf.enc) hj
 generalize htc:c.ts[j]=tc at *
 obtain⟨rg,ins⟩:=tc
 dsimp only at hn
 subst hn
 have hne:=hV.ne
 have hsh:=hV.short
 dsimp only at hne hsh
 let s:bK:=Jf ⟨n,ins⟩ n pc regs taint
 have hcode:=hC.code
 have hcv:IntKind.i64.wrap thread=thread:=IntWalk.i64_in thread (by omega)
 have hz:(c.ts.length:Int)≠0:=by omega
 unfold wT.enc at hcode
 repeat' (first | refine IU hcv ?_ | refine dm (IV hjm hz ?_) | refine st ?_ | ((with_reducible refine aq 4 ?_);refine aj (hcode) ?_) | ((with_reducible refine al 4 ?_);refine ab (hcode) ?_) | refine sb (fun nb_ hnb_=>?_) | refine s2 (fun h=>?_) (fun h=>?_) | fail)
 all_goals first | exact hq _ | skip
 refine aj (AI n ins pc regs taint (by omega) hne (by omega) hp hr hta ht2) ?_
 repeat' (first | refine st ?_ | refine sb (fun nb_ hnb_=>?_) | refine s2 (fun h=>?_) (fun h=>?_) | fail)
 refine cf (zo n ins pc regs taint (by omega) hne (by omega) hp hr hta ht2) ?_
 rintro _ _ ⟨v,bR,rfl,rfl,rfl⟩
 have hsd:(Jf ⟨n,ins⟩ n pc regs taint)=s:=rfl
 rw[hsd]
 have hsr:s.regs=eK 0 n regs:=rfl
 have hst:s.taint=eK [] n (taint.map fun x=>[x]):=rfl
 rw[←hsr,←hst]
 have hsrl:s.regs.length=n:=kT
 have hstl:s.taint.length=n:=kT
 repeat' (first | refine st ?_ | refine sb (fun nb_ hnb_=>?_) | refine s2 (fun h=>?_) (fun h=>?_) | fail)
 obtain⟨k,hk,hpk⟩:∃k:Nat,k<ins.length∧s.pc=k:=by
  have h1:=Int.tmod_lt_of_pos pc (show(0:Int)<(ins.length:Int) by omega)
  have h2:=Int.tmod_nonneg (ins.length:Int) hp.1
  exact⟨(pc.tmod (ins.length:Int)).toNat,by omega,by show pc.tmod (ins.length:Int)=_;omega⟩
 refine HB (s:=s) hq hV hn32 hk hpk hsrl hstl (fun l hl=>?_) ho
 rw[hst]at hl
 rcases Ee hl with rfl | ⟨x,hx,rfl⟩
 ·simp
 ·exact⟨Nat.le_refl _,fun y hy=>by rw[List.mem_singleton.1 hy];exact Ca (ht2 x hx)⟩
end
end Go.Proofs.Ytljkdffikfkcgaa.Am
end
section
namespace Go.Proofs.Ytljkdffikfkcgaa.Am
open Go.ChangeShapes Go.WideShapes Go.ChangeAt Go.RowKit
set_option linter.unusedVariables false
def zO:bq:=⟨fun _=>none,fun _=>False⟩
def Cb:Nat→Prop:=fun _=>False
def IW{α:Type}(e:α→List AV)(G:α→Prop):Rel α:=fun w _ x cs=>G x∧db w zO Cb (e x) cs
theorem rE{w:World}{σ:bq}{T:Nat→Prop}{a:AV}{v:Value}(h:bl w σ T a v):db w σ T [a] [v]:=⟨rfl,fun i x u h1 h2=>by
 match i with
 | 0=>cases h1;cases h2;exact h
 | i+1=>simp at h1⟩
theorem f0{w:World}{σ:bq}{T:Nat→Prop}{a:AV}{v:Value}{l:List AV}{m:List Value}(h:db w σ T [a] [v])(hl:db w σ T l m):db w σ T (a::l) (v::m):=⟨by simp[hl.1],fun i x u h1 h2=>by
 match i with
 | 0=>exact h.2 0 x u h1 h2
 | i+1=>exact hl.2 i x u (by simpa using h1) (by simpa using h2)⟩
theorem Eg{w:World}{σ:bq}{T:Nat→Prop}:db w σ T [] []:=⟨rfl,fun i x u h1 h2=>by simp at h1⟩
section
variable {H:Type} {enc:TypeId×Value→H} {P:Program} {w:World} {base:Nat} {spare:Nat→Bool} {held:Bool}
theorem Eh{t:TypeId}{k:IntKind}(ht:P.underlying t=some (.int k)):Opens H enc P w base spare held t (IW (fun n:Int=>[.int k n]) fun n=>(Lit.int k n).wf=true):=fun fuel cs x h=>by
 obtain⟨n,rfl,hn⟩:=opens_int ht fuel cs x h
 exact⟨n,hn,rE (.int k n)⟩
theorem zP{α:Type}{t e:TypeId}{size:Nat}{f:α→List AV}{G:α→Prop}(ht:P.underlying t=some (.slice e))(hc:P.cellsOf e=size)(hs:0<size)(he:Opens H enc P w base spare held e (IW f G)):
  Opens H enc P w base spare held t (IW (fun l:List α=>[.lst (l.map f)]) fun l=>l.length≤maxLen∧∀x∈l,G x):=fun fuel cs x h=>by
 obtain⟨l,A,c,rfl,h1,h2,h3⟩:=opens_slice ht hc hs he fuel cs x h
 refine⟨l,⟨by omega,fun x hx=>?_⟩,rE ?_⟩
 ·obtain⟨i,hi,rfl⟩:=List.getElem_of_mem hx
  obtain⟨b,o,_,_,hall⟩:=h3 (by omega)
  obtain⟨cs',_,hR,_⟩:=hall i l[i] (List.getElem?_eq_getElem hi)
  exact hR.1
 ·rcases Nat.eq_zero_or_pos l.length with h0 | h0
  ·have:l=[]:=List.length_eq_zero_iff.1 h0
   subst this
   exact .lst0 A c h2
  ·obtain⟨b,o,rfl,hb,hall⟩:=h3 h0
   have:=bl.lst (w:=w) (σ:=zO) (T:=Cb) (l.map f) b o size c ⟨fun h=>h,fun i r hr=>?_,fun i j hi hj=>?_,hs,by simpa using h0⟩ (by simpa using h1) h2 (fun i r j a u hr ha hu=>?_)
   ·simpa using this
   ·rw[List.getElem?_map]at hr
    cases hx:l[i]? with
    | none=>rw[hx]at hr;cases hr
    | some y=>
     rw[hx]at hr;cases hr
     obtain⟨cs',k1,k2,_⟩:=hall i y hx
     rw[k2.2.1,k1]
   ·have hi':i<l.length:=by simpa using hi
    obtain⟨cs',k1,k2,k3⟩:=hall i l[i] (List.getElem?_eq_getElem hi')
    exact⟨cs'[j],k3 j _ (List.getElem?_eq_getElem (by omega))⟩
   ·rw[List.getElem?_map]at hr
    cases hx:l[i]? with
    | none=>rw[hx]at hr;cases hr
    | some y=>
     rw[hx]at hr;cases hr
     obtain⟨cs',k1,k2,k3⟩:=hall i y hx
     have hj:j<cs'.length:=by rw[←k2.2.1];exact ax ha
     have hu':=k3 j _ (List.getElem?_eq_getElem hj)
     rw[hu]at hu'
     cases hu'
     exact k2.2.2 j a _ ha (List.getElem?_eq_getElem hj)
end
theorem Cc{P:Program}{f:FuncId}{args:List AV}{vs:List Value}(h:aO P f args (.bool true))(w:World)(hv:db w zO Cb args vs):Calls P f vs.toArray w fun e w'=>e=.returned (.bool true)∧Below w.heap.size w w':=by
 obtain⟨v,H',L',h1,h2,rfl,rfl⟩:=h.2 ah.empty (fun b _=>dx b) ⟨List.nodup_nil,fun p hp=>by simp at hp⟩
 have hown:aQ zO ah.empty=Cb:=by
  funext c
  apply propext
  constructor
  ·rintro(h | ⟨b,x,pl,h4,_,_⟩)
   ·exact h
   ·rw[dx]at h4;cases h4
  ·exact fun h=>h.elim
 have hW:bc w zO ah.empty:=⟨fun b pl hb=>(by cases hb),fun b pl hb=>(by cases hb),fun b x hb=>(by rw[dx]at hb;cases hb),fun c hc=>hc.elim,fun b b' x x' pl pl' hb=>(by rw[dx]at hb;cases hb)⟩
 refine(h1 w zO vs hW (by rw[hown];exact hv)).mono ?_
 rintro e w' ⟨v',σ',rfl,k1,k2,k3,_⟩
 cases k1
 rw[hown]at k3
 exact⟨rfl,k3.os,k3.tape,k3.output,k3.size,fun k hk=>k3.keep k hk fun h=>h⟩
end Go.Proofs.Ytljkdffikfkcgaa.Am
end
section
namespace Go.Proofs.Ytljkdffikfkcgaa.Am
open Go.ChangeShapes Go.WideShapes Go.ChangeAt Go.RowKit
set_option linter.unusedVariables false
def Jq(l:List Int):List UInt8:=l.map fun x=>UInt8.ofNat x.toNat
theorem Bu{x:Int}(h:(Lit.int .u8 x).wf=true):0≤x∧x<256:=by
 simp only[Lit.wf,Bool.and_eq_true,decide_eq_true_eq]at h
 have h1:IntKind.u8.min=0:=by decide
 have h2:IntKind.u8.max=255:=by decide
 omega
theorem Ft{l:List Int}(h:∀x∈l,0≤x∧x<256):(Jq l).map mM=l.map BT:=by
 unfold Jq
 rw[List.map_map]
 refine List.map_congr_left fun x hx=>?_
 have:=h x hx
 show [AV.int .u8 (((UInt8.ofNat x.toNat).toNat:Nat):Int)]=[AV.int .u8 x]
 rw[UInt8.toNat_ofNat_of_lt' (by show x.toNat<256;omega),Int.toNat_of_nonneg this.1]
section
variable {H:Type} {enc:TypeId×Value→H} {w:World} {base:Nat} {spare:Nat→Bool} {held:Bool}
theorem Ei:Opens H enc Try.prog w base spare held 22 (IW (fun l:List Int=>[.lst (l.map BT)]) fun l=>l.length≤maxLen∧∀x∈l,(Lit.int .u8 x).wf=true):=
 zP (size:=1) Try.underlying22 (by kernel_rfl) (by decide) (Eh (by kernel_rfl))
theorem Bv:Opens H enc Try.prog w base spare held 23 (IW (fun l:List Int=>[.lst (l.map aJ)]) fun l=>l.length≤maxLen∧∀x∈l,(Lit.int .i64 x).wf=true):=
 zP (size:=1) Try.underlying23 (by kernel_rfl) (by decide) (Eh (by kernel_rfl))
end
end Go.Proofs.Ytljkdffikfkcgaa.Am
end
section
namespace Go.Proofs.Ytljkdffikfkcgaa.silentDepends
open Go.ChangeShapes Go.WideShapes Go.ChangeAt Go.RowKit Am
set_option linter.unusedVariables false
set_option linter.unusedSimpArgs false
theorem law(l:List Int)(hl:l.length≤maxLen∧∀x∈l,(Lit.int .u8 x).wf=true)(t:Int)(ht:(Lit.int .u8 t).wf=true)(k:Int)(hk:(Lit.int .u8 k).wf=true)(r:List Int)(hr:r.length≤maxLen∧∀x∈r,(Lit.int .i64 x).wf=true)(o:List Int)(ho:o.length≤maxLen∧∀x∈o,(Lit.int .i64 x).wf=true)(a:List Int)(ha:a.length≤maxLen∧∀x∈a,(Lit.int .u8 x).wf=true):
  aO Try.prog 3 [.lst (l.map BT),.int .u8 t,.int .u8 k,.lst (r.map aJ),.lst (o.map aJ),.lst (a.map BT)] (.bool true):=by
 have hm:maxLen<2^63:=by decide
 rw[←Ft fun x hx=>Bu (hl.2 x hx)]
 exact Fs (Bu ht) (Bu hk) (by omega) (by omega) (by omega) fun x hx=>Bu (ha.2 x hx)
theorem own:ownKnob Try.prog.godebug=none:=by kernel_rfl
theorem laidOut:laidOutB Try.prog=true:=by kernel_rfl
theorem agg_of{n:Nat}(hn:n≠1){v:Value}(h:v.cells.toList.length=n):∃cs:List Value,v=.agg cs.toArray∧v.cells.toList=cs:=by
 cases v with
 | agg a=>exact⟨a.toList,by simp,rfl⟩
 | _=>simp[Value.cells]at h;omega
set_option maxRecDepth 100000 in
theorem lifted(os:Os)(started:os.Started)(H:Type)(enc:TypeId×Value→H):
  ReturnsInHanded {} Try.checked os 3 .any (Rows.silentDependsSpec.pre6 enc Try.prog Try.f3 Rows.silentDependsRow.domain false) (Rows.silentDependsSpec.post enc Try.prog Try.f3 false true false false):=by
 refine returnsInHanded_of_change (C:=Try.checked) own started (by kernel_rfl) Try.func3
  (ChangeSpec.witness6 (enc:=enc) (C:=Try.checked) false ⟨#[],#[.slice none 0 0,.int .u8 0,.int .u8 0,.slice none 0 0,.slice none 0 0,.slice none 0 0],[]⟩ 8 (by kernel_rfl) (by kernel_rfl) (by kernel_rfl) (by kernel_rfl)) ?_
 intro W base args ds gs before hval0 hW hcnd _
 have hval:∀(j:Nat) t v,Try.f3.params[j]? =some t→args[j]? =some v→Value.okWide Try.prog W .any base t v:=hval0
 have hW':=hW
 obtain⟨p,q,hA0,hV,rfl,hfz,hnd⟩:=hW
 have hA:DataW.TrodAll enc Try.prog W 0 (fun _=>true) true Try.f3.params.toList args.toList ds p:=hA0
 rw[Try.params3]at hA hval
 obtain⟨v0,vs0,d0,ds0,p0,q0,hargs,rfl,rfl,h0,r0⟩:=trodAll_cons hA
 obtain⟨v1,vs1,d1,ds1,p1,q1,rfl,rfl,rfl,h1,r1⟩:=trodAll_cons r0
 obtain⟨v2,vs2,d2,ds2,p2,q2,rfl,rfl,rfl,h2,r2⟩:=trodAll_cons r1
 obtain⟨v3,vs3,d3,ds3,p3,q3,rfl,rfl,rfl,h3,r3⟩:=trodAll_cons r2
 obtain⟨v4,vs4,d4,ds4,p4,q4,rfl,rfl,rfl,h4,r4⟩:=trodAll_cons r3
 obtain⟨v5,vs5,d5,ds5,p5,q5,rfl,rfl,rfl,h5,r5⟩:=trodAll_cons r4
 obtain⟨rfl,rfl,rfl⟩:=trodAll_nil r5
 obtain rfl:args=#[v0,v1,v2,v3,v4,v5]:=by cases args;simp_all
 obtain⟨rfl,rfl⟩:=trodVars_none hV
 obtain⟨fuel0,hf0⟩:=h0
 obtain⟨a0,n0,c0,rfl⟩:=okWide_slice Try.underlying22 (hval 0 22 v0 rfl rfl)
 obtain⟨x0,g0,k0⟩:=Ei _ _ _ hf0
 obtain⟨fuel1,hf1⟩:=h1
 obtain⟨x1,rfl,_,_,g1⟩:=open_int Try.underlying5 (hval 1 5 v1 rfl rfl) ⟨fuel1,hf1⟩
 have k1:=rE (bl.int (w:=W) (σ:=zO) (T:=Cb) .u8 x1)
 obtain⟨fuel2,hf2⟩:=h2
 obtain⟨x2,rfl,_,_,g2⟩:=open_int Try.underlying5 (hval 2 5 v2 rfl rfl) ⟨fuel2,hf2⟩
 have k2:=rE (bl.int (w:=W) (σ:=zO) (T:=Cb) .u8 x2)
 obtain⟨fuel3,hf3⟩:=h3
 obtain⟨a3,n3,c3,rfl⟩:=okWide_slice Try.underlying23 (hval 3 23 v3 rfl rfl)
 obtain⟨x3,g3,k3⟩:=Bv _ _ _ hf3
 obtain⟨fuel4,hf4⟩:=h4
 obtain⟨a4,n4,c4,rfl⟩:=okWide_slice Try.underlying23 (hval 4 23 v4 rfl rfl)
 obtain⟨x4,g4,k4⟩:=Bv _ _ _ hf4
 obtain⟨fuel5,hf5⟩:=h5
 obtain⟨a5,n5,c5,rfl⟩:=okWide_slice Try.underlying22 (hval 5 22 v5 rfl rfl)
 obtain⟨x5,g5,k5⟩:=Ei _ _ _ hf5
 refine(Cc (law x0 g0 x1 g1 x2 g2 x3 g3 x4 g4 x5 g5) W (f0 k0 (f0 k1 (f0 k2 (f0 k3 (f0 k4 (f0 k5 Eg))))))).mono fun e W' ⟨he,hb⟩=>⟨.bool true,he,?_⟩
 exact law_post laidOut (of_decide_eq_true (by kernel_rfl)) rfl rfl Try.underlying4 hW' rfl rfl rfl hb
theorem over:Rows.silentDependsRow.holds Try.pinned (OpenSpec.ofChange Rows.silentDependsSpec):=
 OpenClaim.holds_of_wide 3 Try.f3 rfl rfl rfl rfl rfl rfl rfl ⟨rfl,rfl,rfl,rfl,rfl⟩ rfl rfl rfl rfl rfl (by kernel_rfl) Try.func3 (by kernel_rfl)
  (of_decide_eq_true (by kernel_rfl)) (by unfold Func.isWrapper;first | (rw[if_pos (by decide +kernel)];kernel_rfl) | (rw[if_neg (by decide +kernel)];exact⟨rfl,rfl⟩))
  (fun os started H enc _=>lifted os started H enc)
theorem proved:Rows.SilentDependsSaid:=
 over
#print axioms proved
end Go.Proofs.Ytljkdffikfkcgaa.silentDepends
end
