/- SilentDepends: a register whose taint is empty has the same value whatever the registers with a taint contained: the law returns true for every tape, thread, instruction, registers, other registers and taints. -/
import Derived.Test.YtljkdffikfkcgaaQ2m
import Derived.Test.YtljkdffikfkcgaaChecked
set_option linter.unusedSimpArgs false
set_option linter.unusedVariables false
section
namespace Go.Proofs.Ytljkdffikfkcgaa.Am
set_option maxRecDepth 100000
set_option maxHeartbeats 2000000
set_option linter.unusedVariables false
structure wT where
 w:bj
 ts:List lf
def wT.enc(c:wT):List AV:=[.lst (c.w.cells.map fq.enc),.lst (c.w.locks.map eB.enc),.lst (c.w.conds.map mo.enc),.lst (c.w.futures.map az),.lst (c.w.threads.map az),.lst (c.w.sites.map ft.enc),.lst (c.ts.map lf.enc)]
structure D5(p:aK)(nx:Nat→Nat)(cs:Nat→List aw)(tcs:List lf):Prop where
 zero:nx 0=0
 len:tcs.length=p.threads.length
 code:∀i (h:i<p.threads.length),StsC (bD p) p.threads[i].locals p.threads[i].body (nx i) 0 (cs i) (nx (i+1))
 tc:∀i (h:i<p.threads.length),tcs[i]'(by rw[len];exact h)=Cd p.threads[i].locals (cs i)
 short:∀i,(cs i).length<2^20
 few:∀i,nx i<2^20
 regs:∀i,i<p.threads.length→∀x∈cs i++[jz],∀r∈aU x,0≤r∧r<1000
theorem AB(p:aK)(hp:fD p)(hpass:sJ p)(hw:p.wt≤200000){nx:Nat→Nat}{cs:Nat→List aw}{tcs:List lf}(hC:D5 p nx cs tcs)(hs:∀i (h:i<p.threads.length),Az (bD p) p.threads[i].locals):
  aO Try.prog 8 [.agg p.enc] (.tup [.agg (wT.enc ⟨bD p,tcs⟩),.int .i64 0,.int .i64 0]):=by
 have hW:=D4 p hp hpass hw
 obtain⟨ln,hck⟩:=hpass
 have htl:=p.threads_len
 refine am.fz (sS _ _ _ ?_)
 unfold jP aK.enc
 generalize hQ:(fun(v:AV) (L:SH)=>∃v2 L2,aV [v] L [v2] L2∧v2=AV.tup [.agg (wT.enc ⟨bD p,tcs⟩),.int .i64 0,.int .i64 0]∧L2=[])=Q
 have hq:∀v L,Fz L v (.agg (wT.enc ⟨bD p,tcs⟩))→Q (.tup [v,.int .i64 0,.int .i64 0]) L:=fun v L h=>by
  subst hQ;exact⟨_,[],aV.all (.tups (.cons h (.cons (.refl _) (.cons (.refl _) .nil)))),rfl,rfl⟩
 clear hQ
 repeat' (first | refine st ?_ | ((with_reducible refine aq 12 ?_);refine aj (hck) ?_) | ((with_reducible refine al 12 ?_);refine ab (hck) ?_) | ((with_reducible refine aq 13 ?_);refine aj (hW) ?_) | ((with_reducible refine al 13 ?_);refine ab (hW) ?_) | refine sb (fun nb_ hnb_=>?_) | refine s2 (fun h=>?_) (fun h=>?_) | fail)
 rename_i b0 hb0 b2 hb2
 have h0:=hC.zero
 refine cH (β:=Option Nat) p.threads.length (fun i oT=>([.pptr [[.lst (p.decls.map av.enc),.lst (p.threads.map ai.enc)]] 0 0,.ptr b2 0 0,.ptr nb_ 0 0,.int .i64 (nx i),.int .i64 i],F5 b2 nb_ (bD p) oT (tcs.take i))) (fun i oT=>oT=none→tcs.take i=[]) none (fun _=>rfl) ?_ ?_
 ·dsimp only
  rw[h0]
  refine aV.row (K:=[]) (b:=nb_) (n:=7) (rows:=[bG [.nils,.nils,.nils,.nils,.nils,.nils,.nils] 0 (bD p).enc]) (rows':=[[.lst ((bD p).cells.map fq.enc),.lst ((bD p).locks.map eB.enc),.lst ((bD p).conds.map mo.enc),.lst ((bD p).futures.map az),.lst ((bD p).threads.map az),.lst ((bD p).sites.map ft.enc),.emp]]) (.refl _) rfl ?_
  refine co ?_
  show pV [] [.lst ((bD p).cells.map fq.enc),.lst ((bD p).locks.map eB.enc),.lst ((bD p).conds.map mo.enc),.lst ((bD p).futures.map az),.lst ((bD p).threads.map az),.lst ((bD p).sites.map ft.enc),.nils] _
  exact .cons (.refl _) (.cons (.refl _) (.cons (.refl _) (.cons (.refl _) (.cons (.refl _) (.cons (.refl _) (.cons .nile .nil))))))
 intro i oT hi hG
 dsimp only
 unfold i5
 generalize hnx:(fun(vs':List AV) (L':SH)=>∃j o',i<j∧j≤p.threads.length∧_)=nxt
 rcases Nat.lt_or_ge i p.threads.length with g1 | g1
 ·have hd:=ct g1
  have hi1:=bH g1 (by omega)
  have hit:i<tcs.length:=by rw[hC.len];exact g1
  have hK:=i7 ((D3 (hs i g1)).2 (hC.code i g1) (aa.shorts_wt _ (by have:=p.thread_wt g1;unfold ai.wt at this;omega))) (by have:=aa.wts_len p.threads[i].body;have:=p.thread_wt g1;unfold ai.wt at this;omega)
  have hr:=Hy (n23:=nxt) (b2:=b2) (b19:=nb_) (dl:=p.decls.map av.enc) (oT:=oT) (ts:=tcs.take i) g1 hi1 hG (by rw[List.length_take];omega) hK (hC.short i) (hC.few (i+1)) (hC.regs i g1) (fun nb L' hz=>by
   subst hnx
   refine⟨i+1,some nb,by omega,by omega,nofun,?_⟩
   rw[List.take_succ_eq_append_getElem hit,hC.tc i g1]
   exact hz)
  clear hnx
  generalize hL:F5 b2 nb_ (bD p) oT (tcs.take i)=LW at *
  repeat' (first | exact hr | refine st ?_ | refine sb (fun nb_ hnb_=>?_) | refine s2 (fun h=>?_) (fun h=>?_) | fail)
 ·have hd:=ee g1
  have e:i=p.threads.length:=by omega
  subst e
  rw[←hC.len,List.take_length]at hG ⊢
  rw[hC.len]
  unfold F5 I4
  repeat' (first | refine st ?_ | refine sb (fun nb_ hnb_=>?_) | refine s2 (fun h=>?_) (fun h=>?_) | fail)
  refine gW (.there _ (.here _)) rfl rfl (by simp[sU];exact⟨rfl,rfl,rfl,rfl,rfl,rfl⟩) rfl ?_
  repeat' (first | refine st ?_ | refine sb (fun nb_ hnb_=>?_) | refine s2 (fun h=>?_) (fun h=>?_) | fail)
  exact hq _ _ (Fz.aggs (.cons (.refl _) (.cons (.refl _) (.cons (.refl _) (.cons (.refl _) (.cons (.refl _) (.cons (.refl _) (.cons (wj hG (by decide) fun q h=>.tail _ (.tail _ h)) .nil))))))))
end Go.Proofs.Ytljkdffikfkcgaa.Am
end
section
namespace Go.Proofs.Ytljkdffikfkcgaa.Am
set_option linter.unusedVariables false
def aw.sil(i:aw):Prop:=1≤i.op∧i.op≤5
inductive wU (ins:List aw):Nat→Nat→Prop where
 | ev (k:Nat) (i:aw):ins[k]? =some i→¬i.sil→wU ins k 0
 | go (k m:Nat) (i:aw):ins[k]? =some i→i.sil→i.op≠5→wU ins (k+1) m→wU ins k (m+1)
 | jump (k m j:Nat) (i:aw):ins[k]? =some i→i.op=5→i.a=(j:Nat)→wU ins j m→wU ins k (m+1)
def ms(ins:List aw)(k:Nat):Prop:=∃m,wU ins k m
def eh(ins c:List aw)(b:Nat):Prop:=∀(k:Nat) (i:aw),c[k]? =some i→ins[b+k]? =some i
theorem eh.left{ins c1 c2:List aw}{b:Nat}(h:eh ins (c1++c2) b):eh ins c1 b:=fun k i hk=>h k i (by rw[List.getElem?_append_left];exact hk;exact(List.getElem?_eq_some_iff.1 hk).1)
theorem eh.right{ins c1 c2:List aw}{b:Nat}(h:eh ins (c1++c2) b):eh ins c2 (b+c1.length):=fun k i hk=>by
 have:=h (c1.length+k) i (by rw[List.getElem?_append_right (by omega)];simpa using hk)
 rw[←this];congr 1;omega
theorem eh.one{ins:List aw}{i:aw}{b:Nat}(h:eh ins [i] b):ins[b]? =some i:=h 0 i rfl
theorem D6{ins c:List aw}{b:Nat}(hl:eh ins c b)(hc:∀i∈c,i.op≠5)(he:ms ins (b+c.length)):∀d k,k+d=c.length→ms ins (b+k):=by
 intro d
 induction d with
 | zero=>intro k h;rw[show k=c.length by omega];exact he
 | succ d ih=>
  intro k h
  have hk:k<c.length:=by omega
  have hi:=hl k c[k] (List.getElem?_eq_getElem hk)
  obtain⟨m,hm⟩:=ih (k+1) (by omega)
  by_cases hs:c[k].sil
  ·exact⟨m+1,.go _ _ _ hi hs (hc _ (List.getElem_mem hk)) hm⟩
  ·exact⟨0,.ev _ _ hi hs⟩
def j4(ins:List aw)(b n:Nat):Prop:=∀k,b≤k→k≤b+n→ms ins k
theorem i8{ins c:List aw}{b:Nat}(hl:eh ins c b)(hc:∀i∈c,i.op≠5)(he:ms ins (b+c.length)):j4 ins b c.length:=fun k h1 h2=>by
 have:=D6 hl hc he (b+c.length-k) (k-b) (by omega)
 rwa [show b+(k-b)=k by omega]at this
theorem j4.app{ins:List aw}{b n m:Nat}(h1:j4 ins b n)(h2:j4 ins (b+n) m):j4 ins b (n+m):=fun k h3 h4=>by
 by_cases h:k≤b+n
 ·exact h1 k h3 h
 ·exact h2 k (by omega) (by omega)
theorem j4.one{ins:List aw}{b:Nat}(h1:ms ins b)(h2:ms ins (b+1)):j4 ins b 1:=fun k h3 h4=>by
 have:k=b∨k=b+1:=by omega
 rcases this with rfl | rfl
 ·exact h1
 ·exact h2
theorem la{ins:List aw}{b:Nat}{i:aw}(h:ins[b]? =some i)(hs:5<i.op):ms ins b:=⟨0,.ev _ _ h (fun g=>by have:=g.2;omega)⟩
section
variable {w:bj} {loc:List aL}
theorem dE.ops{e:ac}{d:Int}{c:List aw}(h:dE w loc e d c):∀i∈c,i.op≠5:=by
 induction h with
 | num=>simp
 | loc=>simp
 | load=>simp
 | index n s a d c1 b hb hv hc ih=>intro i hi;rcases List.mem_append.1 hi with h | h;exact ih i h;simp at h;subst h;simp
 | un op n s a d c1 h1 h2 h3 hv ih=>intro i hi;rcases List.mem_append.1 hi with h | h;exact ih i h;simp at h;subst h;simp
 | bin op n s a b d c1 c2 h1 h2 h3 h4 hv hv2 ih ih2=>
  intro i hi
  rcases List.mem_append.1 hi with h | h
  ·rcases List.mem_append.1 h with h | h
   ·exact ih i h
   ·exact ih2 i h
  ·simp at h;subst h;simp
theorem yc.ops{x:aa}{c:List aw}(h:yc w loc x c):∀i∈c,i.op≠5:=by
 cases h with
 | idx op line s arg i e rest body els c1 c2 b hb h1 h2 h3=>
  intro i hi
  rcases List.mem_append.1 hi with h | h
  ·rcases List.mem_append.1 h with h | h
   ·exact h1.ops i h
   ·exact h2.ops i h
  ·simp at h;subst h;simp
 | loc op line s arg e body els c h1 h2=>intro i hi;rcases List.mem_append.1 hi with h | h;exact h1.ops i h;simp at h;subst h;simp
 | store op line s arg e body els c h1 h2=>intro i hi;rcases List.mem_append.1 hi with h | h;exact h1.ops i h;simp at h;subst h;simp
theorem fZ{c:List aw}{n:Nat}(h:∀i∈c,i.op≠5):∀i∈aA c n,i.op≠5:=fun i hi=>by
 obtain⟨j,hj,rfl⟩:=List.mem_map.1 hi
 exact h j hj
theorem aF(c:List aw)(n:Nat):(aA c n).length=c.length:=by simp[aA]
theorem cT(c d:List aw)(n:Nat):aA (c++d) n=aA c n++aA d n:=by simp[aA]
theorem D7{op:Int}{s:aL}{f l ob:Int}(h:zH w op s=some (f,l,ob)):5<f∧5<l:=by
 unfold zH at h
 repeat' split at h
 all_goals first | (cases h;omega) | cases h
theorem Fe{op:Int}{s arg:aL}{i:aw}(h:DP w loc op s arg=some i):5<i.op:=by
 unfold DP at h
 repeat' split at h
 all_goals first | (cases h;simp;done) | cases h
theorem Hz:(∀{x n b c n2},Ay w loc x n b c n2→∀{ins:List aw},eh ins c b→ms ins (b+c.length)→j4 ins b c.length)∧∀{l n b c n2},StsC w loc l n b c n2→∀{ins:List aw},eh ins c b→ms ins (b+c.length)→j4 ins b c.length:=by
 refine ye (M1:=fun x n b c n2=>∀{ins:List aw},eh ins c b→ms ins (b+c.length)→j4 ins b c.length) (M2:=fun x n b c n2=>∀{ins:List aw},eh ins c b→ms ins (b+c.length)→j4 ins b c.length) ?_ ?_ ?_ ?_ ?_ ?_ ?_ ?_ ?_
 ·intro line s arg ix e body els c n b ha ins hl he
  exact i8 hl (fZ ha.ops) he
 ·intro line s arg ix e body ce cb n b n2 hv hs ih ins hl he
  rw[cT]at hl he ⊢
  have hbr:=hl.left.right.one
  have hl2:=hl.right
  have l1:=la hbr (by show(5:Int)<10;decide)
  have a1:=i8 hl.left.left (fZ hv.ops) l1
  simp only[List.length_append,aF,List.length_cons,List.length_nil,Nat.zero_add]at *
  rw[show b+(ce.length+1)=b+ce.length+1 by omega]at hl2
  rw[show b+(ce.length+1+cb.length)=b+ce.length+1+cb.length by omega]at he
  have h2:=ih hl2 he
  have:=(a1.app (j4.one l1 (h2 _ (Nat.le_refl _) (by omega)))).app (m:=cb.length) (by rwa [show b+(ce.length+1)=b+ce.length+1 by omega])
  simpa using this
 ·intro line s arg ix e body y els ce cb cl n b n2 n3 hv hs hs2 ih ih2 ins hl he
  rw[cT]at hl he ⊢
  have hbr:=hl.left.left.left.right.one
  have hj:=hl.left.right.one
  have l1:=la hbr (by show(5:Int)<10;decide)
  have a1:=i8 hl.left.left.left.left (fZ hv.ops) l1
  have hl2:=hl.left.left.right
  have hl3:=hl.right
  simp only[List.length_append,aF,List.length_cons,List.length_nil,Nat.zero_add]at *
  rw[show b+(ce.length+1)=b+ce.length+1 by omega]at hl2
  rw[show b+(ce.length+1+cb.length+1)=b+ce.length+1+cb.length+1 by omega]at hl3
  rw[show b+(ce.length+1+cb.length)=b+ce.length+1+cb.length by omega]at hj
  rw[show b+(ce.length+1+cb.length+1+cl.length)=b+ce.length+1+cb.length+1+cl.length by omega]at he
  have g3:=ih2 hl3 he
  obtain⟨m,hm⟩:=he
  have lj:ms ins (b+ce.length+1+cb.length):=⟨m+1,.jump _ _ (b+ce.length+1+cb.length+1+cl.length) _ hj rfl rfl hm⟩
  have g2:=ih hl2 lj
  have t1:=a1.app (j4.one l1 (g2 _ (Nat.le_refl _) (by omega)))
  have t2:=t1.app (m:=cb.length) (by rwa [show b+(ce.length+1)=b+ce.length+1 by omega])
  have t3:=t2.app (m:=1) (by rw[show b+(ce.length+1+cb.length)=b+ce.length+1+cb.length by omega];exact j4.one lj (g3 _ (Nat.le_refl _) (by omega)))
  exact t3.app (m:=cl.length) (by rwa [show b+(ce.length+1+cb.length+1)=b+ce.length+1+cb.length+1 by omega])
 ·intro line s arg ix e body els ce cb n b n2 hv hs ih ins hl he
  rw[cT]at hl he ⊢
  have hbr:=hl.left.left.right.one
  have hj:=hl.right.one
  have l1:=la hbr (by show(5:Int)<10;decide)
  have a1:=i8 hl.left.left.left (fZ hv.ops) l1
  have hl2:=hl.left.right
  simp only[List.length_append,aF,List.length_cons,List.length_nil,Nat.zero_add]at *
  rw[show b+(ce.length+1)=b+ce.length+1 by omega]at hl2
  rw[show b+(ce.length+1+cb.length)=b+ce.length+1+cb.length by omega]at hj
  obtain⟨m,hm⟩:=a1 b (Nat.le_refl _) (by omega)
  have lj:ms ins (b+ce.length+1+cb.length):=⟨m+1,.jump _ _ b _ hj rfl rfl hm⟩
  have g2:=ih hl2 lj
  have t1:=a1.app (j4.one l1 (g2 _ (Nat.le_refl _) (by omega)))
  have t2:=t1.app (m:=cb.length) (by rwa [show b+(ce.length+1)=b+ce.length+1 by omega])
  exact t2.app (m:=1) (by rw[show b+(ce.length+1+cb.length)=b+ce.length+1+cb.length by omega];exact j4.one lj (by rwa [show b+(ce.length+1+cb.length+1)=b+ce.length+1+cb.length+1 by omega]at he))
 ·intro op line s arg ix e body els f l ob cb n b n2 ha hs ih ins hl he
  have ho:=D7 ha
  have hf:=hl.left.left.one
  have hj:=hl.right.one
  have hl2:=hl.left.right
  simp only[List.length_append,aF,List.length_cons,List.length_nil,Nat.zero_add]at *
  rw[show b+(1+cb.length)=b+1+cb.length by omega]at hj
  have lj:ms ins (b+1+cb.length):=la hj ho.2
  have g2:=ih hl2 lj
  have t1:=(j4.one (la hf ho.1) (g2 _ (Nat.le_refl _) (by omega))).app g2
  exact t1.app (m:=1) (by rw[show b+(1+cb.length)=b+1+cb.length by omega];exact j4.one lj (by rwa [show b+(1+cb.length+1)=b+1+cb.length+1 by omega]at he))
 ·intro op line s arg ix e body els i n b ho ins hl he
  exact i8 hl (fZ (by simp;have:=Fe ho;omega)) he
 ·intro line s arg ix e body els ce n b hv ins hl he
  exact i8 hl (fZ (fun i hi=>by rcases List.mem_append.1 hi with h | h;exact hv.ops i h;simp at h;subst h;simp)) he
 ·intro n b ins hl he k h1 h2
  have:k=b:=by simp at h2;omega
  subst this;exact he
 ·intro x l c1 c2 n b n1 n2 h1 h2 ih1 ih2 ins hl he
  rw[List.length_append]at he ⊢
  have g2:=ih2 hl.right (by rwa [←Nat.add_assoc]at he)
  have g1:=ih1 hl.left (g2 _ (Nat.le_refl _) (by omega))
  exact g1.app g2
end
theorem wU.uniq{ins:List aw}{k m1:Nat}(h1:wU ins k m1):∀{m2:Nat},wU ins k m2→m1=m2:=by
 induction h1 with
 | ev k i hi hs=>
  intro m2 h2
  cases h2 with
  | ev=>rfl
  | go _ _ i' hi' hs'=>rw[hi]at hi';cases hi';exact absurd hs' hs
  | jump _ _ j i' hi' hs'=>rw[hi]at hi';cases hi';exact absurd ⟨by omega,by omega⟩ hs
 | go k m i hi hs h5 hm ih=>
  intro m2 h2
  cases h2 with
  | ev _ i' hi' hs'=>rw[hi]at hi';cases hi';exact absurd hs hs'
  | go _ _ i' hi' hs' _ hm'=>rw[ih hm']
  | jump _ _ j i' hi' hs'=>rw[hi]at hi';cases hi';exact absurd hs' h5
 | jump k m j i hi hs ha hm ih=>
  intro m2 h2
  cases h2 with
  | ev _ i' hi' hs'=>rw[hi]at hi';cases hi';exact absurd ⟨by omega,by omega⟩ hs'
  | go _ _ i' hi' hs' h5 hm'=>rw[hi]at hi';cases hi';exact absurd hs h5
  | jump _ _ j' i' hi' hs' ha' hm'=>
   rw[hi]at hi';cases hi'
   have:j=j':=by omega
   subst this
   rw[ih hm']
theorem wU.lt{ins:List aw}{k m:Nat}(h:wU ins k m):k<ins.length:=by
 cases h with
 | ev _ i hi _=>exact(List.getElem?_eq_some_iff.1 hi).1
 | go _ _ i hi=>exact(List.getElem?_eq_some_iff.1 hi).1
 | jump _ _ j i hi=>exact(List.getElem?_eq_some_iff.1 hi).1
theorem wU.path{ins:List aw}{k m:Nat}(h:wU ins k m):∃l:List Nat,l.length=m+1∧(∀j∈l,j<ins.length∧∃q,q≤m∧wU ins j q)∧l.Nodup:=by
 induction h with
 | ev k i hi hs=>exact⟨[k],rfl,by simp only[List.mem_singleton,forall_eq];exact⟨(wU.ev k i hi hs).lt,0,Nat.le_refl _,.ev k i hi hs⟩,by simp⟩
 | go k m i hi hs h5 hm ih=>
  obtain⟨l,h1,h2,h3⟩:=ih
  have hk:=wU.go k m i hi hs h5 hm
  refine⟨k::l,by simp[h1],fun j hj=>?_,List.nodup_cons.2 ⟨fun hkl=>?_,h3⟩⟩
  ·rcases List.mem_cons.1 hj with rfl | hj
   ·exact⟨hk.lt,_,Nat.le_refl _,hk⟩
   ·obtain⟨g1,q,g2,g3⟩:=h2 j hj
    exact⟨g1,q,by omega,g3⟩
  ·obtain⟨g1,q,g2,g3⟩:=h2 k hkl
   have:=hk.uniq g3
   omega
 | jump k m j i hi hs ha hm ih=>
  obtain⟨l,h1,h2,h3⟩:=ih
  have hk:=wU.jump k m j i hi hs ha hm
  refine⟨k::l,by simp[h1],fun j hj=>?_,List.nodup_cons.2 ⟨fun hkl=>?_,h3⟩⟩
  ·rcases List.mem_cons.1 hj with rfl | hj
   ·exact⟨hk.lt,_,Nat.le_refl _,hk⟩
   ·obtain⟨g1,q,g2,g3⟩:=h2 j hj
    exact⟨g1,q,by omega,g3⟩
  ·obtain⟨g1,q,g2,g3⟩:=h2 k hkl
   have:=hk.uniq g3
   omega
theorem xh{α:Type}[BEq α][LawfulBEq α]:∀{l U:List α},l.Nodup→(∀x∈l,x∈U)→l.length≤U.length
 | [],U,_,_=>by simp
 | x::l,U,hn,hs=>by
  have hx:x∈U:=hs x (by simp)
  have h1:=List.nodup_cons.1 hn
  have:=xh (l:=l) (U:=U.erase x) h1.2 fun y hy=>(List.mem_erase_of_ne (by rintro rfl;exact h1.1 hy)).2 (hs y (by simp[hy]))
  rw[List.length_erase_of_mem hx]at this
  have:=List.length_pos_of_mem hx
  simp only[List.length_cons]
  omega
theorem D8:∀{n:Nat} {l:List Nat},l.Nodup→(∀j∈l,j<n)→l.length≤n:=by
 intro n l hn h
 have:=xh hn (U:=List.range n) fun j hj=>List.mem_range.2 (h j hj)
 simpa using this
theorem wU.bound{ins:List aw}{k m:Nat}(h:wU ins k m):m<ins.length:=by
 obtain⟨l,h1,h2,h3⟩:=h.path
 have:=D8 h3 (fun j hj=>(h2 j hj).1)
 omega
end Go.Proofs.Ytljkdffikfkcgaa.Am
end
section
namespace Go.Proofs.Ytljkdffikfkcgaa.Am
set_option linter.unusedVariables false
set_option maxRecDepth 100000
set_option linter.unusedSectionVars false
def pG:List fq:=[⟨[120],0,0,false,0⟩,⟨[121],0,0,false,1⟩,⟨[118],0,0,true,0⟩,⟨[113],0,2,false,0⟩,⟨[113],1,2,false,0⟩]
def wm:List eB:=[⟨[109],false⟩,⟨[110],false⟩,⟨[114],true⟩]
def AC:List mo:=[⟨[99],0⟩]
def D9:List aL:=[[102]]
theorem IQ(ts:List ai):∀(w:bj),(ts.foldl cD w).cells=w.cells∧(ts.foldl cD w).locks=w.locks∧(ts.foldl cD w).conds=w.conds∧(ts.foldl cD w).futures=w.futures∧(ts.foldl cD w).threads=w.threads++ts.map ai.name:=by
 induction ts with
 | nil=>intro w;simp
 | cons t l ih=>intro w;obtain⟨a,b,c,d,e⟩:=ih (cD w t);rw[List.foldl_cons];exact⟨a,b,c,d,by rw[e];simp[cD]⟩
theorem AD{p:aK}(hd:p.decls=aP):(bD p).cells=pG∧(bD p).locks=wm∧(bD p).conds=AC∧(bD p).futures=D9∧(bD p).threads=p.threads.map ai.name:=by
 obtain⟨a,b,c,d,e⟩:=IQ p.threads (p.decls.foldl bZ bj.zero)
 unfold bD
 rw[a,b,c,d,e,hd]
 exact⟨rfl,rfl,rfl,rfl,rfl⟩
def zJ(w:bj)(i:Int):Bool:=inB i w.cells.length&&decide ((w.cells.getD i.toNat default).size=0)
def Ff(w:bj)(i n:Int):Bool:=inB i w.cells.length&&decide ((w.cells.getD i.toNat default).index=0)&&decide ((w.cells.getD i.toNat default).size≠0)&&decide ((w.cells.getD i.toNat default).size=n)
def Fg(w:bj)(i:Int)(rw:Bool):Bool:=inB i w.locks.length&&((w.locks.getD i.toNat ⟨[],false⟩).rw==rw)
def AE(w:bj)(i:aw):Bool:=
 if i.op=6 then zJ w i.b else if i.op=8 then zJ w i.a else if i.op=7 then Ff w i.b i.n else if i.op=9 then Ff w i.a i.n else
 if i.op=11∨i.op=12 then Fg w i.a false else if i.op=13∨i.op=14∨i.op=15∨i.op=16 then Fg w i.a true else
 if i.op=21∨i.op=22∨i.op=23 then inB i.a w.conds.length else if i.op=24∨i.op=25 then inB i.a w.threads.length else
 if i.op=26 then inB i.a w.futures.length else if i.op=27 then inB i.b w.futures.length else
 if i.op=3 then decide (i.n=4∨i.n=5)else if i.op=4 then decide (6≤i.n∧i.n≤18)else true
structure Bt(w:bj)(i:aw):Prop where
 op:1≤i.op∧i.op≤7∧i.op≠5
 regs:∀r∈aU i,0≤r∧r<16
 obj:AE w i=true
theorem cB{k a b:Int}:dt k a b=0↔k≠0∧(k=a∨k=b):=by
 unfold dt
 repeat' split
 all_goals omega
theorem el{p:aK}(hd:p.decls=aP)(loc:List aL)(s:aL):(0≤fJ loc s∧aD p loc s=8)∨(fJ loc s<0∧((∃d∈aP,d.name=s∧aD p loc s=hO d)∨(0≤cx p.threads s∧aD p loc s=7)∨aD p loc s=0)):=by
 unfold aD
 by_cases h:0≤fJ loc s
 ·left;exact⟨h,by simp[h]⟩
 ·right
  refine⟨by omega,?_⟩
  simp only[h,decide_false,cond_false,hd]
  cases hf:kE aP s with
  | some d=>
   left
   exact⟨d,List.mem_of_find?_eq_some hf,by have:=List.find?_some hf;simpa using this,rfl⟩
  | none=>
   right
   unfold zu
   by_cases ht:0≤cx p.threads s
   ·left;exact⟨ht,by simp[ht]⟩
   ·right;simp[ht]
theorem i9{P:av→Prop}(h0:P ⟨1,0,[120],0,0,[]⟩)(h1:P ⟨1,0,[121],0,1,[]⟩)(h2:P ⟨2,0,[118],0,0,[]⟩)(h3:P ⟨1,0,[113],2,0,[]⟩)(h4:P ⟨3,0,[109],0,0,[]⟩)(h5:P ⟨3,0,[110],0,0,[]⟩)(h6:P ⟨4,0,[114],0,0,[]⟩)(h7:P ⟨5,0,[99],0,0,[109]⟩)(h8:P ⟨6,0,[102],0,0,[]⟩):∀d∈aP,P d:=by
 unfold aP
 simp only[List.forall_mem_cons,List.not_mem_nil,false_implies,implies_true,and_true]
 exact⟨h0,h1,h2,h3,h4,h5,h6,h7,h8⟩
section
variable {p:aK} (hd:p.decls=aP) {loc:List aL}
include hd
theorem xi{s:aL}(h:aD p loc s=1):fJ loc s<0∧zJ (bD p) (cQ (bD p).cells s)=true:=by
 obtain⟨hc,_⟩:=AD hd
 rcases el hd loc s with⟨_,h1⟩ | ⟨h0,⟨d,hm,rfl,h1⟩ | ⟨_,h1⟩ | h1⟩
 ·omega
 ·refine⟨h0,?_⟩
  rw[h]at h1
  have hs:zJ (bD p) (cQ pG d.name)=true:=by
   unfold zJ;rw[hc]
   clear h0 h hd
   revert h1
   exact i9 (P:=fun d=>1=hO d→(inB (cQ pG d.name) pG.length&&decide ((pG.getD (cQ pG d.name).toNat default).size=0))=true) (by decide) (by decide) (by decide) (by decide) (by decide) (by decide) (by decide) (by decide) (by decide) d hm
  rw[hc];exact hs
 ·omega
 ·omega
theorem zK{s:aL}(h:aD p loc s=2):∃(b:Nat) (hb:b<(bD p).cells.length),cQ (bD p).cells s=b∧Ff (bD p) b (bD p).cells[b].size=true:=by
 obtain⟨hc,_⟩:=AD hd
 rcases el hd loc s with⟨_,h1⟩ | ⟨h0,⟨d,hm,rfl,h1⟩ | ⟨_,h1⟩ | h1⟩
 ·omega
 ·rw[h]at h1
  have hn:d.name=[113]:=by
   clear h0 h hd
   revert h1
   exact i9 (P:=fun d=>2=hO d→d.name=[113]) (by decide) (by decide) (by decide) (by decide) (by decide) (by decide) (by decide) (by decide) (by decide) d hm
  have key:∀l:List fq,l=pG→∀w:bj,w.cells=l→∃(b:Nat) (hb:b<w.cells.length),cQ w.cells [113]=b∧Ff w b w.cells[b].size=true:=by
   intro l hl w hw
   obtain⟨c,lk,cd,f,t,si⟩:=w
   dsimp only at hw ⊢
   subst hw;subst hl
   exact⟨3,by decide,by decide,rfl⟩
  rw[hn]
  exact key _ hc _ rfl
 ·omega
 ·omega
theorem sW{s:aL}{k:Int}(hk:k=3∨k=4)(h:aD p loc s=k):Fg (bD p) (bv (bD p).locks s) (decide (k=4))=true:=by
 obtain⟨_,hc,_⟩:=AD hd
 rcases el hd loc s with⟨_,h1⟩ | ⟨h0,⟨d,hm,rfl,h1⟩ | ⟨_,h1⟩ | h1⟩
 ·omega
 ·unfold Fg;rw[hc]
  rw[h]at h1
  clear h0 h hd
  revert hk;rw[h1]
  exact i9 (P:=fun d=>hO d=3∨hO d=4→(inB (bv wm d.name) wm.length&&((wm.getD (bv wm d.name).toNat ⟨[],false⟩).rw==decide (hO d=4)))=true) (by decide) (by decide) (by decide) (by decide) (by decide) (by decide) (by decide) (by decide) (by decide) d hm
 ·omega
 ·omega
theorem sX{s:aL}(h:aD p loc s=5):inB (da (bD p).conds s) (bD p).conds.length=true:=by
 obtain⟨_,_,hc,_⟩:=AD hd
 rcases el hd loc s with⟨_,h1⟩ | ⟨h0,⟨d,hm,rfl,h1⟩ | ⟨_,h1⟩ | h1⟩
 ·omega
 ·rw[hc]
  rw[h]at h1
  clear h0 h hd
  revert h1
  exact i9 (P:=fun d=>5=hO d→inB (da AC d.name) AC.length=true) (by decide) (by decide) (by decide) (by decide) (by decide) (by decide) (by decide) (by decide) (by decide) d hm
 ·omega
 ·omega
theorem zL{s:aL}(h:aD p loc s=6):inB (fJ (bD p).futures s) (bD p).futures.length=true:=by
 obtain⟨_,_,_,hc,_⟩:=AD hd
 rcases el hd loc s with⟨_,h1⟩ | ⟨h0,⟨d,hm,rfl,h1⟩ | ⟨_,h1⟩ | h1⟩
 ·omega
 ·rw[hc]
  rw[h]at h1
  clear h0 h hd
  revert h1
  exact i9 (P:=fun d=>6=hO d→inB (fJ D9 d.name) D9.length=true) (by decide) (by decide) (by decide) (by decide) (by decide) (by decide) (by decide) (by decide) (by decide) d hm
 ·omega
 ·omega
theorem xj{d:av}(hm:d∈aP):hO d≠7∧hO d≠8:=i9 (P:=fun d=>hO d≠7∧hO d≠8) (by decide) (by decide) (by decide) (by decide) (by decide) (by decide) (by decide) (by decide) (by decide) d hm
theorem wo(s:aL):∀(l:List ai) (i:Nat),gg (fun x=>decide (x=s)) (l.map ai.name) i=gg (fun x:ai=>decide (x.name=s)) l i
 | [],_=>rfl
 | x::l,i=>by simp only[List.map_cons,gg,wo s l (i+1)]
theorem zM{α:Type}{q:α→Bool}{l:List α}(h:0≤gg q l 0):inB (gg q l 0) l.length=true:=by
 rcases ef (p:=q) l 0 with⟨h1,_⟩ | ⟨k,hk,h1,_⟩
 ·omega
 ·rw[h1];exact gX.2 ⟨by omega,by omega⟩
theorem zN{s:aL}(h:aD p loc s=7):inB (fJ (bD p).threads s) (bD p).threads.length=true:=by
 obtain⟨_,_,_,_,hc⟩:=AD hd
 rcases el hd loc s with⟨_,h1⟩ | ⟨h0,⟨d,hm,rfl,h1⟩ | ⟨h2,h1⟩ | h1⟩
 ·omega
 ·have:=(xj hd hm).1;omega
 ·have e:fJ (bD p).threads s=cx p.threads s:=by rw[hc];exact wo hd s _ 0
  unfold fJ at e ⊢
  exact zM hd (by rw[e];exact h2)
 ·omega
theorem wq{s:aL}(h:aD p loc s=8):0≤fJ loc s∧fJ loc s<loc.length:=by
 rcases el hd loc s with⟨h0,h1⟩ | ⟨h0,⟨d,hm,rfl,h1⟩ | ⟨h2,h1⟩ | h1⟩
 ·have:=gX.1 (zM hd (q:=fun x=>decide (x=s)) (l:=loc) h0)
  exact this
 ·have:=(xj hd hm).2;omega
 ·omega
 ·omega
theorem yf(hl:loc.length≤4):∀(x:ac) (d:Int),wx x=true→dR p loc x=0→0≤d→d+x.dp≤15→∃c,dE (bD p) loc x d c∧c.length≤x.nd∧∀i∈c,Bt (bD p) i
 | .mk op n name l,d,h1,h2,h3,h4=>by
  rw[wx]at h1
  rw[Bool.and_eq_true]at h1
  obtain⟨hsh,hls⟩:=h1
  unfold Ds at hsh
  simp only[Bool.and_eq_true,decide_eq_true_eq]at hsh
  obtain⟨⟨⟨⟨hop,_⟩,_⟩,_⟩,_⟩:=hsh
  rw[dR]at h2
  have h5:kF p loc op name=0∧namesL p loc l=0:=by
   split at h2
   ·rename_i h;exact⟨h,h2⟩
   ·rename_i h;exact absurd h2 h
  obtain⟨hn0,hnl⟩:=h5
  unfold kF at hn0
  unfold EX at hop
  simp only[ac.dp,ac.nd]at h4 ⊢
  by_cases o1:op=1
  ·subst o1
   exact⟨_,.num n name l d,by simp,by simp only[List.mem_singleton,forall_eq];exact⟨by simp,by simp[aU];omega,rfl⟩⟩
  by_cases o2:op=2
  ·subst o2
   rw[if_pos rfl]at hn0
   rcases(cB.1 hn0).2 with h | h
   ·obtain⟨a1,a2⟩:=wq hd h
    refine⟨_,.loc n name l d a1,by simp,?_⟩
    simp only[List.mem_singleton,forall_eq]
    exact⟨by simp,by simp[aU];omega,rfl⟩
   ·obtain⟨a1,a2⟩:=xi hd h
    refine⟨_,.load n name l d a1,by simp,?_⟩
    simp only[List.mem_singleton,forall_eq]
    exact⟨by simp,by simp[aU];omega,a2⟩
  rw[if_neg (by omega)]at hop
  match l,hls,hnl,hop,h4 with
  | [],_,_,hop,_=>
   exfalso
   simp only[List.length_nil]at hop
   split at hop
   ·omega
   ·split at hop<;>omega
  | [a],hls,hnl,hop,h4=>
   have ho:3≤op∧op≤5:=by
    split at hop
    ·assumption
    ·exfalso;split at hop<;>simp at hop
   simp only[shEs,Bool.and_true]at hls
   simp only[namesL]at hnl
   have hna:dR p loc a=0:=by
    split at hnl
    ·assumption
    ·exact absurd hnl (by assumption)
   simp only[ac.dps,Nat.max_zero]at h4
   obtain⟨c,hc,hcl,hg⟩:=yf hl a d hls hna h3 (by omega)
   by_cases o3:op=3
   ·subst o3
    rw[if_neg (by omega),if_pos rfl]at hn0
    have hk:aD p loc name=2:=by rcases(cB.1 hn0).2 with h | h<;>exact h
    obtain⟨b,hb,hcb,harr⟩:=zK hd hk
    refine⟨_,.index n name a d c b hb hc hcb,by simp[ac.nds];omega,fun i hi=>?_⟩
    rcases List.mem_append.1 hi with h | h
    ·exact hg i h
    ·rw[List.mem_singleton.1 h]
     exact⟨by simp,by simp[aU];omega,harr⟩
   ·refine⟨_,.un op n name a d c o1 o2 o3 hc,by simp[ac.nds];omega,fun i hi=>?_⟩
    rcases List.mem_append.1 hi with h | h
    ·exact hg i h
    ·rw[List.mem_singleton.1 h]
     exact⟨by simp,by simp[aU];omega,by simp[AE];omega⟩
  | [a,b],hls,hnl,hop,h4=>
   have ho:6≤op∧op≤18:=by
    split at hop
    ·exfalso;simp at hop
    ·split at hop
     ·assumption
     ·exfalso;simp at hop
   simp only[shEs,Bool.and_true,Bool.and_eq_true]at hls
   simp only[namesL]at hnl
   have hna:dR p loc a=0:=by
    split at hnl
    ·assumption
    ·exact absurd hnl (by assumption)
   rw[if_pos hna]at hnl
   have hnb:dR p loc b=0:=by
    split at hnl
    ·assumption
    ·exact absurd hnl (by assumption)
   simp only[ac.dps,Nat.max_zero]at h4
   have hda:1≤a.dp:=by rw[a.dp_eq];omega
   obtain⟨c,hc,hcl,hg⟩:=yf hl a d hls.1 hna h3 (by omega)
   obtain⟨c2,hc2,hcl2,hg2⟩:=yf hl b (d+1) hls.2 hnb (by omega) (by omega)
   refine⟨_,.bin op n name a b d c c2 o1 o2 (by omega) (IntWalk.i64_in _ (by omega)) hc hc2,by simp[ac.nds];omega,fun i hi=>?_⟩
   rcases List.mem_append.1 hi with h | h
   ·rcases List.mem_append.1 h with h | h
    ·exact hg i h
    ·exact hg2 i h
   ·rw[List.mem_singleton.1 h]
    exact⟨by simp,by simp[aU];omega,by simp[AE];omega⟩
  | a::b::e::r,_,_,hop,_=>
   exfalso
   simp only[List.length_cons]at hop
   split at hop
   ·omega
   ·split at hop<;>omega
end
end Go.Proofs.Ytljkdffikfkcgaa.Am
end
section
namespace Go.Proofs.Ytljkdffikfkcgaa.Am
set_option linter.unusedVariables false
set_option maxRecDepth 100000
set_option linter.unusedSectionVars false
structure F6(w:bj)(n n2 lo hi:Nat)(i:aw):Prop where
 op:1≤i.op∧i.op≤27
 regs:∀r∈aU i,0≤r∧r<16
 obj:AE w i=true
 site:(n:Int)≤i.site∧i.site<n2
 jmp:i.op=5→(lo:Int)≤i.a∧i.a≤hi
 br:i.op=10→(lo:Int)≤i.b∧i.b≤hi
theorem F6.mono{w:bj}{n n2 lo hi m m2 lo2 hi2:Nat}{i:aw}(h:F6 w n n2 lo hi i)(h1:m≤n)(h2:n2≤m2)(h3:lo2≤lo)(h4:hi≤hi2):F6 w m m2 lo2 hi2 i:=
 ⟨h.op,h.regs,h.obj,by have:=h.site;omega,fun e=>by have:=h.jmp e;omega,fun e=>by have:=h.br e;omega⟩
theorem Bt.at_{w:bj}{i:aw}(h:Bt w i){n n2 lo hi s:Nat}(h1:n≤s)(h2:s<n2):F6 w n n2 lo hi (i.at_ (s:Int)):=
 ⟨by have:=h.op;show 1≤i.op∧i.op≤27;omega,h.regs,h.obj,by show(n:Int)≤s∧(s:Int)<n2;omega,fun e=>absurd e h.op.2.2,fun e=>by have:=h.op;have e2:i.op=10:=e;omega⟩
theorem Bt.all{w:bj}{c:List aw}(h:∀i∈c,Bt w i){n n2 lo hi s:Nat}(h1:n≤s)(h2:s<n2):∀i∈aA c s,F6 w n n2 lo hi i:=fun i hi=>by
 obtain⟨j,hj,rfl⟩:=List.mem_map.1 hi
 exact(h j hj).at_ h1 h2
theorem bE{α:Type}{P:α→Prop}{a b:List α}(h1:∀i∈a,P i)(h2:∀i∈b,P i):∀i∈a++b,P i:=fun i hi=>by
 rcases List.mem_append.1 hi with h | h
 ·exact h1 i h
 ·exact h2 i h
theorem bF{α:Type}{P:α→Prop}{a:α}(h:P a):∀i∈[a],P i:=fun i hi=>by rw[List.mem_singleton.1 hi];exact h
section
variable {p:aK} (hd:p.decls=aP) {loc:List aL} (hl:loc.length≤4)
include hd hl
theorem ld{e:ac}(h:gv p loc e=0){d:Int}(h0:0≤d)(h9:d≤9):∃c,dE (bD p) loc e d c∧c.length≤e.wt∧∀i∈c,Bt (bD p) i:=by
 unfold gv at h
 cases hs:wx e with
 | false=>rw[hs]at h;simp at h
 | true=>
  rw[hs]at h
  simp only[Bool.not_true,cond_false]at h
  by_cases hb:(decide (24<(e.nd:Int))||decide (6<(e.dp:Int)))=true
  ·rw[hb]at h;simp at h
  ·rw[Bool.not_eq_true]at hb
   rw[hb]at h
   simp only[cond_false]at h
   simp only[Bool.or_eq_false_iff,decide_eq_false_iff_not]at hb
   obtain⟨c,h1,h2,h3⟩:=yf hd hl e d hs h h0 (by omega)
   exact⟨c,h1,Nat.le_trans h2 e.nd_wt,h3⟩
def Jr(p:aK)(loc:List aL)(x:aa):Prop:=∀n b:Nat,∃c,Ay (bD p) loc x n b c (n+1+x.cnt)∧c.length≤3*x.wt∧∀i∈c,F6 (bD p) n (n+1+x.cnt) b (b+c.length) i
def Jn(p:aK)(loc:List aL)(l:List aa):Prop:=∀n b:Nat,∃c,StsC (bD p) loc l n b c (n+aa.cnts l)∧c.length≤3*aa.wts l∧∀i∈c,F6 (bD p) n (n+aa.cnts l) b (b+c.length) i
mutual
theorem IR:∀x:aa,gO x=true→wP p loc x→Jr p loc x
 | .mk op line s arg ix e body els,h1,h2=>by
  rw[gO]at h1
  simp only[Bool.and_eq_true]at h1
  obtain⟨⟨h3,h4⟩,h5⟩:=h1
  rw[wP]at h2
  obtain⟨h6,h7,h8⟩:=h2
  have hB:=sts_ex body h4 h7
  have hE:=sts_ex els h5 h8
  unfold EZ at h3
  simp only[Bool.and_eq_true,Bool.not_eq_true']at h3
  obtain⟨g1,g2,g3,g4,g5,g6⟩:=h3
  unfold I0 at g1;unfold EY at g6;unfold FV at g4
  simp only[Bool.or_eq_false_iff,decide_eq_false_iff_not]at g1
  rw[Bool.or_eq_false_iff]at g6
  have hbody:¬(2≤op∧op≤8)→body=[]:=fun h=>by
   have h0:=g6.1
   by_cases k1:2≤op<;>by_cases k2:op≤8<;>simp[k1,k2]at h0<;>first | exact h0 | exact absurd ⟨k1,k2⟩ h
  have hels:op≠2→els=[]:=fun h=>by have:=g6.2;simpa[h]using this
  unfold c6 at h6
  dsimp only[aa.op,aa.name,aa.arg,aa.index,aa.expr]at h6
  intro n b
  simp only[aa.wt,aa.cnt]
  have hop:op=1∨op=2∨op=3∨op=4∨op=5∨op=6∨op=7∨op=8∨op=9∨op=10∨op=11∨op=12∨op=13∨op=14∨op=15:=by omega
  rcases hop with rfl | rfl | rfl | rfl | rfl | rfl | rfl | rfl | rfl | rfl | rfl | rfl | rfl | rfl | rfl
  ·obtain rfl:=hbody (by omega)
   obtain rfl:=hels (by omega)
   simp only[if_true]at h6
   match ix,h6 with
   | [],h6=>
    obtain⟨hw,he⟩:=h6
    obtain⟨c,hc,hcl,hg⟩:=ld hd hl he (d:=loc.length) (by omega) (by omega)
    rcases(cB.1 hw).2 with h | h
    ·obtain⟨a1,a2⟩:=wq hd h
     refine⟨_,.asg line s arg [] e [] [] _ n b (.loc 1 line s arg e [] [] c hc a1),by simp[aF,ac.wts,aa.wts];omega,?_⟩
     rw[cT]
     refine bE (Bt.all hg (Nat.le_refl _) (by omega)) (bF ?_)
     exact⟨by show(1:Int)≤2∧(2:Int)≤27;omega,by simp[aU,aw.at_];omega,rfl,by show(n:Int)≤n∧(n:Int)<_;omega,by simp[aw.at_],by simp[aw.at_]⟩
    ·obtain⟨a1,a2⟩:=xi hd h
     refine⟨_,.asg line s arg [] e [] [] _ n b (.store 1 line s arg e [] [] c hc a1),by simp[aF,ac.wts,aa.wts];omega,?_⟩
     rw[cT]
     refine bE (Bt.all hg (Nat.le_refl _) (by omega)) (bF ?_)
     exact⟨by show(1:Int)≤8∧(8:Int)≤27;omega,by simp[aU,aw.at_];omega,a2,by show(n:Int)≤n∧(n:Int)<_;omega,by simp[aw.at_],by simp[aw.at_]⟩
   | i::rest,h6=>
    obtain⟨hw,hi,he⟩:=h6
    obtain⟨c1,hc1,hcl1,hg1⟩:=ld hd hl hi (d:=loc.length) (by omega) (by omega)
    obtain⟨c2,hc2,hcl2,hg2⟩:=ld hd hl he (d:=(loc.length:Int)+1) (by omega) (by omega)
    have hk:aD p loc s=2:=by rcases(cB.1 hw).2 with h | h<;>exact h
    obtain⟨bb,hb,hcb,harr⟩:=zK hd hk
    refine⟨_,.asg line s arg (i::rest) e [] [] _ n b (.idx 1 line s arg i e rest [] [] c1 c2 bb hb hc1 hc2 hcb),by simp[aF,ac.wts,aa.wts];omega,?_⟩
    rw[cT,cT]
    refine bE (bE (Bt.all hg1 (Nat.le_refl _) (by omega)) (Bt.all hg2 (Nat.le_refl _) (by omega))) (bF ?_)
    exact⟨by show(1:Int)≤9∧(9:Int)≤27;omega,by simp[aU,aw.at_];omega,harr,by show(n:Int)≤n∧(n:Int)<_;omega,by simp[aw.at_],by simp[aw.at_]⟩
  ·have he:gv p loc e=0:=by simpa using h6
   obtain⟨ce,hc,hcl,hg⟩:=ld hd hl he (d:=loc.length) (by omega) (by omega)
   obtain⟨cb,hb1,hb2,hb3⟩:=hB (n+1) (b+ce.length+1)
   match els,hE with
   | [],_=>
    simp only[aa.cnts,aa.wts,Nat.add_zero]at *
    refine⟨_,.if1 line s arg ix e body ce cb n b _ hc hb1,by simp[aF];omega,?_⟩
    rw[cT]
    refine bE (bE (Bt.all hg (Nat.le_refl _) (by omega)) (bF ?_)) fun i hi=>(hb3 i hi).mono (by omega) (by omega) (by omega) (by simp[aF];omega)
    exact⟨by show(1:Int)≤10∧(10:Int)≤27;omega,by simp[aU,aw.at_];omega,rfl,by show(n:Int)≤n∧(n:Int)<_;omega,by simp[aw.at_],fun _=>by simp[aw.at_,aF];omega⟩
   | y::els,hE=>
    obtain⟨cl,hl1,hl2,hl3⟩:=hE (n+1+aa.cnts body) (b+ce.length+1+cb.length+1)
    rw[show n+1+aa.cnts body+aa.cnts (y::els)=n+1+(aa.cnts body+aa.cnts (y::els)) by omega]at hl1 hl3
    refine⟨_,.if2 line s arg ix e body y els ce cb cl n b _ _ hc hb1 hl1,by simp[aF];omega,?_⟩
    rw[cT]
    refine bE (bE (bE (bE (Bt.all hg (Nat.le_refl _) (by omega)) (bF ?_)) fun i hi=>(hb3 i hi).mono (by omega) (by omega) (by omega) (by simp[aF];omega)) (bF ?_)) fun i hi=>(hl3 i hi).mono (by omega) (by omega) (by omega) (by simp[aF];omega)
    ·exact⟨by show(1:Int)≤10∧(10:Int)≤27;omega,by simp[aU,aw.at_];omega,rfl,by show(n:Int)≤n∧(n:Int)<_;omega,by simp[aw.at_],fun _=>by simp[aw.at_,aF];omega⟩
    ·exact⟨by show(1:Int)≤5∧(5:Int)≤27;omega,by simp[aU,aw.at_],rfl,by show(n:Int)≤n∧(n:Int)<_;omega,fun _=>by simp[aw.at_,aF];omega,by simp[aw.at_]⟩
  ·obtain rfl:=hels (by omega)
   have he:gv p loc e=0:=by simpa using h6
   obtain⟨ce,hc,hcl,hg⟩:=ld hd hl he (d:=loc.length) (by omega) (by omega)
   obtain⟨cb,hb1,hb2,hb3⟩:=hB (n+1) (b+ce.length+1)
   simp only[aa.cnts,aa.wts,Nat.add_zero]at *
   refine⟨_,.while line s arg ix e body [] ce cb n b _ hc hb1,by simp[aF];omega,?_⟩
   rw[cT]
   refine bE (bE (bE (Bt.all hg (Nat.le_refl _) (by omega)) (bF ?_)) fun i hi=>(hb3 i hi).mono (by omega) (by omega) (by omega) (by simp[aF];omega)) (bF ?_)
   ·exact⟨by show(1:Int)≤10∧(10:Int)≤27;omega,by simp[aU,aw.at_];omega,rfl,by show(n:Int)≤n∧(n:Int)<_;omega,by simp[aw.at_],fun _=>by simp[aw.at_,aF];omega⟩
   ·exact⟨by show(1:Int)≤5∧(5:Int)≤27;omega,by simp[aU,aw.at_],rfl,by show(n:Int)≤n∧(n:Int)<_;omega,fun _=>by simp[aw.at_,aF];omega,by simp[aw.at_]⟩
  ·obtain rfl:=hels (by omega)
   obtain⟨cb,hb1,hb2,hb3⟩:=hB (n+1) (b+1)
   simp only[aa.cnts,aa.wts,Nat.add_zero]at *
   have hk:aD p loc s=3:=by have h:=h6;simp at h;rcases(cB.1 h).2 with h | h<;>exact h
   have hob:=sW hd (by omega) hk
   refine⟨_,.arnd 4 line s arg ix e body [] 11 12 (bv (bD p).locks s) cb n b _ rfl hb1,by simp[aF];omega,?_⟩
   refine bE (bE (bF ?_) fun i hi=>(hb3 i hi).mono (by omega) (by omega) (by omega) (by simp[aF];omega)) (bF ?_)
   ·exact⟨by show(1:Int)≤11∧(11:Int)≤27;omega,by simp[aU,aw.at_],hob,by show(n:Int)≤n∧(n:Int)<_;omega,by simp[aw.at_],by simp[aw.at_]⟩
   ·exact⟨by show(1:Int)≤12∧(12:Int)≤27;omega,by simp[aU,aw.at_],hob,by show(n:Int)≤n∧(n:Int)<_;omega,by simp[aw.at_],by simp[aw.at_]⟩
  ·obtain rfl:=hels (by omega)
   obtain⟨cb,hb1,hb2,hb3⟩:=hB (n+1) (b+1)
   simp only[aa.cnts,aa.wts,Nat.add_zero]at *
   have hk:aD p loc s=4:=by have h:=h6;simp at h;rcases(cB.1 h).2 with h | h<;>exact h
   have hob:=sW hd (by omega) hk
   refine⟨_,.arnd 5 line s arg ix e body [] 13 14 (bv (bD p).locks s) cb n b _ rfl hb1,by simp[aF];omega,?_⟩
   refine bE (bE (bF ?_) fun i hi=>(hb3 i hi).mono (by omega) (by omega) (by omega) (by simp[aF];omega)) (bF ?_)
   ·exact⟨by show(1:Int)≤13∧(13:Int)≤27;omega,by simp[aU,aw.at_],hob,by show(n:Int)≤n∧(n:Int)<_;omega,by simp[aw.at_],by simp[aw.at_]⟩
   ·exact⟨by show(1:Int)≤14∧(14:Int)≤27;omega,by simp[aU,aw.at_],hob,by show(n:Int)≤n∧(n:Int)<_;omega,by simp[aw.at_],by simp[aw.at_]⟩
  ·obtain rfl:=hels (by omega)
   obtain⟨cb,hb1,hb2,hb3⟩:=hB (n+1) (b+1)
   simp only[aa.cnts,aa.wts,Nat.add_zero]at *
   have hk:aD p loc s=4:=by have h:=h6;simp at h;rcases(cB.1 h).2 with h | h<;>exact h
   have hob:=sW hd (by omega) hk
   refine⟨_,.arnd 6 line s arg ix e body [] 15 16 (bv (bD p).locks s) cb n b _ rfl hb1,by simp[aF];omega,?_⟩
   refine bE (bE (bF ?_) fun i hi=>(hb3 i hi).mono (by omega) (by omega) (by omega) (by simp[aF];omega)) (bF ?_)
   ·exact⟨by show(1:Int)≤15∧(15:Int)≤27;omega,by simp[aU,aw.at_],hob,by show(n:Int)≤n∧(n:Int)<_;omega,by simp[aw.at_],by simp[aw.at_]⟩
   ·exact⟨by show(1:Int)≤16∧(16:Int)≤27;omega,by simp[aU,aw.at_],hob,by show(n:Int)≤n∧(n:Int)<_;omega,by simp[aw.at_],by simp[aw.at_]⟩
  ·obtain rfl:=hels (by omega)
   obtain⟨cb,hb1,hb2,hb3⟩:=hB (n+1) (b+1)
   simp only[aa.cnts,aa.wts,Nat.add_zero]at *
   refine⟨_,.arnd 7 line s arg ix e body [] 17 18 0 cb n b _ rfl hb1,by simp[aF];omega,?_⟩
   refine bE (bE (bF ?_) fun i hi=>(hb3 i hi).mono (by omega) (by omega) (by omega) (by simp[aF];omega)) (bF ?_)
   ·exact⟨by show(1:Int)≤17∧(17:Int)≤27;omega,by simp[aU,aw.at_],rfl,by show(n:Int)≤n∧(n:Int)<_;omega,by simp[aw.at_],by simp[aw.at_]⟩
   ·exact⟨by show(1:Int)≤18∧(18:Int)≤27;omega,by simp[aU,aw.at_],rfl,by show(n:Int)≤n∧(n:Int)<_;omega,by simp[aw.at_],by simp[aw.at_]⟩
  ·obtain rfl:=hels (by omega)
   obtain⟨cb,hb1,hb2,hb3⟩:=hB (n+1) (b+1)
   simp only[aa.cnts,aa.wts,Nat.add_zero]at *
   refine⟨_,.arnd 8 line s arg ix e body [] 19 20 0 cb n b _ rfl hb1,by simp[aF];omega,?_⟩
   refine bE (bE (bF ?_) fun i hi=>(hb3 i hi).mono (by omega) (by omega) (by omega) (by simp[aF];omega)) (bF ?_)
   ·exact⟨by show(1:Int)≤19∧(19:Int)≤27;omega,by simp[aU,aw.at_],rfl,by show(n:Int)≤n∧(n:Int)<_;omega,by simp[aw.at_],by simp[aw.at_]⟩
   ·exact⟨by show(1:Int)≤20∧(20:Int)≤27;omega,by simp[aU,aw.at_],rfl,by show(n:Int)≤n∧(n:Int)<_;omega,by simp[aw.at_],by simp[aw.at_]⟩
  ·obtain rfl:=hbody (by omega)
   obtain rfl:=hels (by omega)
   have hk:aD p loc s=5:=by have h:=h6;simp at h;rcases(cB.1 h).2 with h | h<;>exact h
   have hob:=sX hd hk
   refine⟨_,.one 9 line s arg ix e [] [] _ n b rfl,by simp[aF];omega,bF ?_⟩
   exact⟨by show(1:Int)≤21∧(21:Int)≤27;omega,by simp[aU,aw.at_],hob,by show(n:Int)≤n∧(n:Int)<_;omega,by simp[aw.at_],by simp[aw.at_]⟩
  ·obtain rfl:=hbody (by omega)
   obtain rfl:=hels (by omega)
   have hk:aD p loc s=5:=by have h:=h6;simp at h;rcases(cB.1 h).2 with h | h<;>exact h
   have hob:=sX hd hk
   refine⟨_,.one 10 line s arg ix e [] [] _ n b rfl,by simp[aF];omega,bF ?_⟩
   exact⟨by show(1:Int)≤22∧(22:Int)≤27;omega,by simp[aU,aw.at_],hob,by show(n:Int)≤n∧(n:Int)<_;omega,by simp[aw.at_],by simp[aw.at_]⟩
  ·obtain rfl:=hbody (by omega)
   obtain rfl:=hels (by omega)
   have hk:aD p loc s=5:=by have h:=h6;simp at h;rcases(cB.1 h).2 with h | h<;>exact h
   have hob:=sX hd hk
   refine⟨_,.one 11 line s arg ix e [] [] _ n b rfl,by simp[aF];omega,bF ?_⟩
   exact⟨by show(1:Int)≤23∧(23:Int)≤27;omega,by simp[aU,aw.at_],hob,by show(n:Int)≤n∧(n:Int)<_;omega,by simp[aw.at_],by simp[aw.at_]⟩
  ·obtain rfl:=hbody (by omega)
   obtain rfl:=hels (by omega)
   have hk:aD p loc s=7:=by have h:=h6;simp at h;rcases(cB.1 h).2 with h | h<;>exact h
   have hob:=zN hd hk
   refine⟨_,.one 12 line s arg ix e [] [] _ n b rfl,by simp[aF];omega,bF ?_⟩
   exact⟨by show(1:Int)≤24∧(24:Int)≤27;omega,by simp[aU,aw.at_],hob,by show(n:Int)≤n∧(n:Int)<_;omega,by simp[aw.at_],by simp[aw.at_]⟩
  ·obtain rfl:=hbody (by omega)
   obtain rfl:=hels (by omega)
   have hk:aD p loc s=7:=by have h:=h6;simp at h;rcases(cB.1 h).2 with h | h<;>exact h
   have hob:=zN hd hk
   refine⟨_,.one 13 line s arg ix e [] [] _ n b rfl,by simp[aF];omega,bF ?_⟩
   exact⟨by show(1:Int)≤25∧(25:Int)≤27;omega,by simp[aU,aw.at_],hob,by show(n:Int)≤n∧(n:Int)<_;omega,by simp[aw.at_],by simp[aw.at_]⟩
  ·obtain rfl:=hbody (by omega)
   obtain rfl:=hels (by omega)
   have hh:dt (aD p loc s) 6 6=0∧gv p loc e=0:=by simpa using h6
   have hk:aD p loc s=6:=by rcases(cB.1 hh.1).2 with h | h<;>exact h
   have hob:=zL hd hk
   obtain⟨ce,hc,hcl,hg⟩:=ld hd hl hh.2 (d:=loc.length) (by omega) (by omega)
   refine⟨_,.set line s arg ix e [] [] ce n b hc,by simp[aF];omega,?_⟩
   rw[cT]
   refine bE (Bt.all hg (Nat.le_refl _) (by omega)) (bF ?_)
   exact⟨by show(1:Int)≤26∧(26:Int)≤27;omega,by simp[aU,aw.at_];omega,hob,by show(n:Int)≤n∧(n:Int)<_;omega,by simp[aw.at_],by simp[aw.at_]⟩
  ·obtain rfl:=hbody (by omega)
   obtain rfl:=hels (by omega)
   have hh:dt (aD p loc s) 8 8=0∧dt (aD p loc arg) 6 6=0:=by simpa using h6
   have hk:aD p loc s=8:=by rcases(cB.1 hh.1).2 with h | h<;>exact h
   have hk2:aD p loc arg=6:=by rcases(cB.1 hh.2).2 with h | h<;>exact h
   have hlo:=wq hd hk
   have hob:=zL hd hk2
   refine⟨_,.one 15 line s arg ix e [] [] _ n b rfl,by simp[aF];omega,bF ?_⟩
   exact⟨by show(1:Int)≤27∧(27:Int)≤27;omega,by simp[aU,aw.at_];omega,hob,by show(n:Int)≤n∧(n:Int)<_;omega,by simp[aw.at_],by simp[aw.at_]⟩
theorem sts_ex:∀l:List aa,shSs l=true→StsOk p loc l→Jn p loc l
 | [],_,_=>fun n b=>⟨[],.nil n b,by simp,nofun⟩
 | x::l,h1,h2=>by
  rw[shSs,Bool.and_eq_true]at h1
  rw[StsOk]at h2
  have hx:=IR x h1.1 h2.1
  have hr:=sts_ex l h1.2 h2.2
  intro n b
  obtain⟨c1,a1,a2,a3⟩:=hx n b
  obtain⟨c2,b1,b2,b3⟩:=hr (n+1+x.cnt) (b+c1.length)
  simp only[aa.cnts,aa.wts]
  rw[show n+1+x.cnt+aa.cnts l=n+(1+x.cnt+aa.cnts l) by omega]at b1 b3
  refine⟨c1++c2,.cons x l c1 c2 n b _ _ a1 b1,by rw[List.length_append];omega,?_⟩
  rw[List.length_append]
  exact bE (fun i hi=>(a3 i hi).mono (by omega) (by omega) (by omega) (by omega)) fun i hi=>(b3 i hi).mono (by omega) (by omega) (by omega) (by omega)
end
end
end Go.Proofs.Ytljkdffikfkcgaa.Am
end
section
namespace Go.Proofs.Ytljkdffikfkcgaa.Am
set_option linter.unusedVariables false
set_option maxRecDepth 100000
theorem Fh(a:Int)(l:List Int):a≤sV a l∧∀r∈l,r<sV a l:=by
 unfold sV
 induction l generalizing a with
 | nil=>exact⟨Int.le_refl _,nofun⟩
 | cons x l ih=>
  rw[List.foldl_cons]
  obtain⟨h1,h2⟩:=ih (max a (x+1))
  refine⟨by omega,fun r hr=>?_⟩
  rcases List.mem_cons.1 hr with h | h
  ·subst h;omega
  ·exact h2 r h
theorem Fi{a b:Int}{l:List Int}(ha:a≤b)(h:∀r∈l,r<b):sV a l≤b:=by
 unfold sV
 induction l generalizing a with
 | nil=>exact ha
 | cons x l ih=>
  rw[List.foldl_cons]
  have:=h x (.head _)
  exact ih (by omega) fun r hr=>h r (.tail _ hr)
theorem Fj(a:Int)(l:List aw):a≤mq a l∧∀i∈l,∀r∈aU i,r<mq a l:=by
 unfold mq
 induction l generalizing a with
 | nil=>exact⟨Int.le_refl _,nofun⟩
 | cons x l ih=>
  rw[List.foldl_cons]
  obtain⟨h1,h2⟩:=ih (sV a (aU x))
  obtain⟨h3,h4⟩:=Fh a (aU x)
  refine⟨by omega,fun i hi r hr=>?_⟩
  rcases List.mem_cons.1 hi with h | h
  ·subst h;have:=h4 r hr;omega
  ·exact h2 i h r hr
theorem Fk{a b:Int}{l:List aw}(ha:a≤b)(h:∀i∈l,∀r∈aU i,r<b):mq a l≤b:=by
 unfold mq
 induction l generalizing a with
 | nil=>exact ha
 | cons x l ih=>
  rw[List.foldl_cons]
  exact ih (Fi ha (h x (.head _))) fun i hi=>h i (.tail _ hi)
structure Fm(w:bj)(t:Nat)(c:lf):Prop where
 r0:0≤c.regs
 r32:c.regs≤32
 ne:0<c.ins.length
 short:c.ins.length<2^21
 op:∀i∈c.ins,1≤i.op∧i.op≤28
 last:∀(k:Nat) (i:aw),c.ins[k]? =some i→(i.op=28↔k+1=c.ins.length)
 obj:∀i∈c.ins,AE w i=true
 regs:∀i∈c.ins,∀r∈aU i,0≤r∧r<c.regs
 endS:∀i∈c.ins,i.op=28→i.site=-1
 site:∀i∈c.ins,i.op≠28→∃(k:Nat) (h:k<w.sites.length),i.site=k∧w.sites[k].thread=t
 jmp:∀i∈c.ins,i.op=5→0≤i.a∧i.a<c.ins.length
 br:∀i∈c.ins,i.op=10→0≤i.b∧i.b<c.ins.length
 lans:∀k,k<c.ins.length→ms c.ins k
def kP:Nat→List ai→List ft
 | _,[]=>[]
 | k,t::l=>sitL k 0 t.body++kP (k+1) l
theorem IS(ts:List ai):∀(w:bj),(ts.foldl cD w).sites=w.sites++kP w.threads.length ts:=by
 induction ts with
 | nil=>intro w;simp[kP]
 | cons t l ih=>intro w;rw[List.foldl_cons,ih];simp[cD,kP]
theorem xk:∀(ts:List ai) (k i j:Nat) (hi:i<ts.length) (hj:j<aa.cnts ts[i].body),(kP k ts)[bf (fun t=>aa.cnts t.body) (ts.take i)+j]? =(sitL (k+i) 0 ts[i].body)[j]?
 | t::l,k,0,j,hi,hj=>by
  simp only[kP,List.take_zero,bf,List.map_nil,List.sum_nil,Nat.zero_add,List.getElem_cons_zero,Nat.add_zero]
  rw[List.getElem?_append_left (by rw[sitL_len];exact hj)]
 | t::l,k,i+1,j,hi,hj=>by
  have:=xk l (k+1) i j (by simpa using hi) (by simpa using hj)
  simp only[kP,List.take_succ_cons,List.getElem_cons_succ]
  have e:bf (fun t=>aa.cnts t.body) (t::l.take i)=aa.cnts t.body+bf (fun t=>aa.cnts t.body) (l.take i):=by simp[bf]
  rw[e,List.getElem?_append_right (by rw[sitL_len];omega),sitL_len,show aa.cnts t.body+bf (fun t=>aa.cnts t.body) (l.take i)+j-aa.cnts t.body=bf (fun t=>aa.cnts t.body) (l.take i)+j by omega,this,show k+1+i=k+(i+1) by omega]
section
variable {p:aK} (hd:p.decls=aP)
include hd
theorem AF:(bD p).sites=kP 0 p.threads:=by
 unfold bD
 rw[IS,hd]
 rfl
def AG(p:aK)(i:Nat):Nat:=bf (fun t=>aa.cnts t.body) (p.threads.take i)
theorem Fn{i k:Nat}(hi:i<p.threads.length)(h1:AG p i≤k)(h2:k<AG p (i+1)):∃(h:k<(bD p).sites.length),(bD p).sites[k].thread=i:=by
 unfold AG at h1 h2
 rw[ck hi]at h2
 have hj:k-bf (fun t:ai=>aa.cnts t.body) (p.threads.take i)<aa.cnts p.threads[i].body:=by omega
 have:=xk p.threads 0 i _ hi hj
 rw[show bf (fun t:ai=>aa.cnts t.body) (p.threads.take i)+(k-bf (fun t:ai=>aa.cnts t.body) (p.threads.take i))=k by omega,Nat.zero_add,←AF hd]at this
 have hlt:k-bf (fun t:ai=>aa.cnts t.body) (p.threads.take i)<(sitL i 0 p.threads[i].body).length:=by rw[sitL_len];exact hj
 rw[List.getElem?_eq_getElem hlt]at this
 obtain⟨h,e⟩:=List.getElem?_eq_some_iff.1 this
 exact⟨h,by rw[e];exact(sitL_at i 0 _ _ hlt).1⟩
theorem Ea(hp:fD p)(hw:p.wt≤200000):∃(cs:Nat→List aw) (tcs:List lf),D5 p (AG p) cs tcs∧∀i (h:i<tcs.length),Fm (bD p) i tcs[i]:=by
 have hbw:∀i (h:i<p.threads.length),aa.wts p.threads[i].body≤200000:=fun i h=>by
  have:=p.thread_wt h;unfold ai.wt at this;omega
 have hloc:∀i (h:i<p.threads.length),p.threads[i].locals.length≤4:=fun i h=>(hp.threads.locals i h).few
 have hsh:∀i (h:i<p.threads.length),shSs p.threads[i].body=true:=fun i h=>by
  have h1:=hp.shaped
  unfold Du at h1
  simp only[Bool.and_eq_true]at h1
  have h2:=List.all_eq_true.1 h1.2.1 _ (List.getElem_mem h)
  unfold E0 at h2
  simp only[Bool.and_eq_true]at h2
  rw[uj];exact h2.2.2
 have hnx:∀i (h:i<p.threads.length),AG p (i+1)=AG p i+aa.cnts p.threads[i].body:=fun i h=>ck h
 have hfew:∀i,AG p i<2^20:=fun i=>by
  have h1:=jw (fun t:ai=>aa.cnts t.body) p.threads i
  have h2:=hp.stmts
  unfold AG;omega
 have hall:∀i:Nat,∃c:List aw,c.length<2^20∧∀h:i<p.threads.length,StsC (bD p) p.threads[i].locals p.threads[i].body (AG p i) 0 c (AG p (i+1))∧∀x∈c,F6 (bD p) (AG p i) (AG p (i+1)) 0 c.length x:=fun i=>by
  by_cases h:i<p.threads.length
  ·obtain⟨c,h1,h2,h3⟩:=sts_ex hd (hloc i h) p.threads[i].body (hsh i h) (hp.sts i h) (AG p i) 0
   have:=hbw i h
   rw[←hnx i h]at h1 h3
   exact⟨c,by omega,fun _=>⟨h1,by simpa using h3⟩⟩
  ·exact⟨[],by simp,fun g=>absurd g h⟩
 obtain⟨cs,hcs⟩:=Classical.axiomOfChoice hall
 have hregs:∀i,i<p.threads.length→∀x∈cs i++[jz],∀r∈aU x,0≤r∧r<16:=fun i h=>bE (fun x hx=>(((hcs i).2 h).2 x hx).regs) (bF (by simp[aU,jz]))
 refine⟨cs,p.threads.mapIdx fun i t=>Cd t.locals (cs i),⟨by simp[AG,bf],by simp,fun i h=>((hcs i).2 h).1,fun i h=>by simp,fun i=>(hcs i).1,hfew,fun i h x hx r hr=>by have:=hregs i h x hx r hr;omega⟩,fun i h=>?_⟩
 have hi:i<p.threads.length:=by simpa using h
 obtain⟨hS,hG⟩:=(hcs i).2 hi
 rw[List.getElem_mapIdx]
 have hR:=Fj p.threads[i].locals.length (cs i++[jz])
 have hm:∀x∈cs i++[jz],x∈cs i∨x=jz:=fun x hx=>by
  rcases List.mem_append.1 hx with h | h
  ·exact .inl h
  ·exact .inr (List.mem_singleton.1 h)
 refine⟨?_,?_,?_,?_,?_,?_,?_,?_,?_,?_,?_,?_,?_⟩
 ·show 0≤mq _ _;omega
 ·show mq _ _≤32
  exact Fk (by have:=hloc i hi;omega) fun x hx r hr=>by have:=hregs i hi x hx r hr;omega
 ·simp[Cd]
 ·have:=(hcs i).1;simp[Cd];omega
 ·intro x hx
  rcases hm x hx with h | rfl
  ·have:=(hG x h).op;omega
  ·exact⟨by decide,by decide⟩
 ·intro k x hk
  have hk':(cs i++[jz])[k]? =some x:=hk
  have hlen:(Cd p.threads[i].locals (cs i)).ins.length=(cs i).length+1:=by simp[Cd]
  rw[hlen]
  rcases Nat.lt_or_ge k (cs i).length with g | g
  ·rw[List.getElem?_append_left g]at hk'
   have:=(hG x (List.mem_of_getElem? hk')).op
   constructor<;>intro<;>omega
  ·rw[List.getElem?_append_right g]at hk'
   have:k-(cs i).length=0:=by
    rcases Nat.eq_zero_or_pos (k-(cs i).length)with e | e
    ·exact e
    ·rw[List.getElem?_eq_none (by simp;omega)]at hk';cases hk'
   rw[this]at hk'
   cases hk'
   constructor
   ·intro;omega
   ·intro;rfl
 ·intro x hx
  rcases hm x hx with h | rfl
  ·exact(hG x h).obj
  ·rfl
 ·intro x hx r hr
  exact⟨(hregs i hi x hx r hr).1,hR.2 x hx r hr⟩
 ·intro x hx ho
  rcases hm x hx with h | rfl
  ·have:=(hG x h).op;omega
  ·rfl
 ·intro x hx ho
  rcases hm x hx with h | rfl
  ·have hs:=(hG x h).site
   obtain⟨h1,h2⟩:=Fn hd hi (k:=x.site.toNat) (by omega) (by omega)
   exact⟨x.site.toNat,h1,by omega,h2⟩
  ·exact absurd rfl ho
 ·intro x hx ho
  rcases hm x hx with h | rfl
  ·have:=(hG x h).jmp ho
   simp[Cd];omega
  ·cases ho
 ·intro x hx ho
  rcases hm x hx with h | rfl
  ·have:=(hG x h).br ho
   simp[Cd];omega
  ·cases ho
 ·have hst:eh (cs i++[jz]) (cs i) 0:=fun k x hk=>by
   rw[Nat.zero_add,List.getElem?_append_left (List.getElem?_eq_some_iff.1 hk).1];exact hk
  have hend:ms (cs i++[jz]) (0+(cs i).length):=la (i:=jz) (by rw[Nat.zero_add,List.getElem?_append_right (Nat.le_refl _),Nat.sub_self];rfl) (by decide)
  have hA:=Hz.2 hS hst hend
  intro k hk
  have hk':k<(cs i++[jz]).length:=hk
  exact hA k (Nat.zero_le _) (by simp at hk';omega)
end
end Go.Proofs.Ytljkdffikfkcgaa.Am
end
section
namespace Go.Proofs.Ytljkdffikfkcgaa.Am
set_option linter.unusedVariables false
theorem Fo{n a:Int}(h:n=4∨n=5):(BN n a).2=true:=by
 unfold BN
 rcases h with rfl | rfl<;>rfl
theorem Eb{n a b:Int}(h:6≤n∧n≤18):(rS n a b).2=true:=by
 have:n=6∨n=7∨n=8∨n=9∨n=10∨n=11∨n=12∨n=13∨n=14∨n=15∨n=16∨n=17∨n=18:=by omega
 unfold rS
 rcases this with rfl | rfl | rfl | rfl | rfl | rfl | rfl | rfl | rfl | rfl | rfl | rfl | rfl<;>rfl
structure tj(c:lf)(s:bK):Prop where
 regs:(s.regs.length:Int)=c.regs
 taint:(s.taint.length:Int)=c.regs
section
variable {w:bj} {t:Nat} {c:lf} (hV:Fm w t c)
include hV
theorem B9{i:aw}(hi:i∈c.ins)(hs:i.sil){s:bK}(hf:tj c s):∃s2,bu i s=some s2∧tj c s2∧s2.pc=(if i.op=5 then i.a else IntKind.i64.wrap (s.pc+1))∧s2.ev=s.ev:=by
 have hr:=hV.regs i hi
 have ho:=hV.obj i hi
 have has:∀r∈aU i,s.has r=true:=fun r hr'=>by
  have:=hr r hr'
  have:=hf.regs
  unfold bK.has;rw[gX];omega
 obtain⟨h1,h5⟩:=hs
 have hop:i.op=1∨i.op=2∨i.op=3∨i.op=4∨i.op=5:=by omega
 have fit:∀a v l,tj c (s.put a v l):=fun a v l=>⟨by simp[bK.put,hf.regs],by simp[bK.put,hf.taint]⟩
 unfold bu
 rcases hop with e | e | e | e | e
 ·have ha:=has i.a (by simp[aU,e])
  rw[if_pos e,if_pos ha]
  exact⟨_,rfl,fit _ _ _,by simp[e,bK.put],rfl⟩
 ·have ha:=has i.a (by simp[aU,e]);have hb:=has i.b (by simp[aU,e])
  rw[if_neg (by omega),if_pos e,if_pos (by simp[ha,hb])]
  exact⟨_,rfl,fit _ _ _,by simp[e,bK.put],rfl⟩
 ·have ha:=has i.a (by simp[aU,e]);have hb:=has i.b (by simp[aU,e])
  have hn:i.n=4∨i.n=5:=by simpa[AE,e]using ho
  rw[if_neg (by omega),if_neg (by omega),if_pos e,if_pos (by simp[ha,hb,Fo hn])]
  exact⟨_,rfl,fit _ _ _,by simp[e,bK.put],rfl⟩
 ·have ha:=has i.a (by simp[aU,e]);have hb:=has i.b (by simp[aU,e]);have hc:=has i.c (by simp[aU,e])
  have hn:6≤i.n∧i.n≤18:=by simpa[AE,e]using ho
  rw[if_neg (by omega),if_neg (by omega),if_neg (by omega),if_pos e,if_pos (by simp[ha,hb,hc,Eb hn])]
  exact⟨_,rfl,fit _ _ _,by simp[e,bK.put],rfl⟩
 ·rw[if_neg (by omega),if_neg (by omega),if_neg (by omega),if_neg (by omega)]
  exact⟨_,rfl,⟨hf.regs,hf.taint⟩,by simp[e],rfl⟩
theorem Ec:∀(m:Nat) {k:Nat} {s:bK},wU c.ins k m→s.pc=k→tj c s→∀n,m≤n→∃(k':Nat) (i:aw) (s2:bK),dz c.ins n s=(s2,true)∧tj c s2∧s2.pc=k'∧c.ins[k']? =some i∧¬i.sil∧s2.ev=s.ev:=by
 intro m
 induction m with
 | zero=>
  intro k s hl hp hf n _
  cases hl with
  | ev _ i hi hs=>
  have hk:=(List.getElem?_eq_some_iff.1 hi).1
  have hin:inB s.pc c.ins.length=true:=by rw[gX];omega
  have hg:c.ins.getD s.pc.toNat default=i:=by rw[hp];simp[List.getD,hi]
  have hop:(c.ins.getD s.pc.toNat default).op<1∨5<(c.ins.getD s.pc.toNat default).op:=by rw[hg];unfold aw.sil at hs;omega
  refine⟨k,i,s,?_,hf,hp,hi,hs,rfl⟩
  cases n with
  | zero=>unfold dz;rw[if_pos hin,if_pos hop]
  | succ n=>unfold dz;rw[if_pos hin,if_pos hop]
 | succ m ih=>
  intro k s hl hp hf n hn
  obtain⟨n,rfl⟩:∃n',n=n'+1:=⟨n-1,by omega⟩
  have hk:=hl.lt
  have hsh:=hV.short
  have hin:inB s.pc c.ins.length=true:=by rw[gX];omega
  have key:∀(i:aw) (k2:Nat),c.ins[k]? =some i→i.sil→((if i.op=5 then i.a else IntKind.i64.wrap (s.pc+1))=(k2:Int))→wU c.ins k2 m→∃(k':Nat) (i:aw) (s2:bK),dz c.ins (n+1) s=(s2,true)∧tj c s2∧s2.pc=k'∧c.ins[k']? =some i∧¬i.sil∧s2.ev=s.ev:=by
   intro i k2 hi hs he hl2
   obtain⟨s2,h1,h2,h3,h4⟩:=B9 hV (List.mem_of_getElem? hi) hs hf
   have hg:c.ins.getD s.pc.toNat default=i:=by rw[hp];simp[List.getD,hi]
   have hop:¬((c.ins.getD s.pc.toNat default).op<1∨5<(c.ins.getD s.pc.toNat default).op):=by rw[hg];unfold aw.sil at hs;omega
   obtain⟨k',i',s3,r1,r2,r3,r4,r5,r6⟩:=ih hl2 (by rw[h3];exact he) h2 n (by omega)
   refine⟨k',i',s3,?_,r2,r3,r4,r5,r6.trans h4⟩
   rw[←hg]at h1
   unfold dz
   rw[if_pos hin,if_neg hop,h1]
   exact r1
  cases hl with
  | go _ _ i hi hs h5 hl2=>exact key i (k+1) hi hs (by rw[if_neg h5,hp,IntWalk.i64_in _ (by omega)];omega) hl2
  | jump _ _ j i hi h5 ha hl2=>exact key i j hi ⟨by omega,by omega⟩ (by rw[if_pos h5,ha]) hl2
theorem tk{k:Nat}{s:bK}(hk:k<c.ins.length)(hp:s.pc=k)(hf:tj c s):∃(k':Nat) (i:aw) (s2:bK),cg c s=(s2,true)∧tj c s2∧s2.pc=k'∧c.ins[k']? =some i∧¬i.sil∧s2.ev=s.ev:=by
 obtain⟨m,hm⟩:=hV.lans k hk
 unfold cg
 rw[if_pos ⟨hf.regs,hf.taint⟩]
 exact Ec hV m hm hp hf _ (Nat.le_of_lt hm.bound)
end
end Go.Proofs.Ytljkdffikfkcgaa.Am
end
section
namespace Go.Proofs.Ytljkdffikfkcgaa.Am
set_option linter.unusedVariables false
set_option maxRecDepth 100000
theorem AH(s:UInt8):∀a∈mM s,bB a:=fun a h=>by rw[List.mem_singleton.1 h];exact .int _ _
structure Ed(t:List UInt8)(p:aK)(cs:Nat→List aw)(c:wT):Prop where
 prog:aO Try.prog 9 [.lst (t.map mM)] (.agg p.enc)
 code:aO Try.prog 4 [.lst (t.map mM)] (.agg c.enc)
 decls:p.decls=aP
 ok:fD p
 w:c.w=bD p
 codes:D5 p (AG p) cs c.ts
 valid:∀i (h:i<c.ts.length),Fm c.w i c.ts[i]
theorem Fq(t:List UInt8)(ht:t.length<2^40):∃p cs c,Ed t p cs c:=by
 obtain⟨v,K,⟨p,rfl,rfl,hw,hp,hd,hpass⟩,hprog⟩:=(E6 t ht).pure (by simp only[List.forall_mem_cons,List.not_mem_nil,false_implies,implies_true,and_true];exact .lmap fun x _=>AH x) (fun u K ⟨p,h1,_⟩=>by rw[h1];exact p.pure)
 obtain⟨cs,tcs,hC,hV⟩:=Ea hd hp hw
 have hs:∀i (h:i<p.threads.length),Az (bD p) p.threads[i].locals:=fun i h=>by
  obtain⟨h1,h2,h3,h4,h5⟩:=AD hd
  have:=(hp.threads.locals i h).few
  have:=hp.few
  exact⟨by rw[h1];decide,by rw[h2];decide,by rw[h3];decide,by rw[h4];decide,by rw[h5];simp;omega,by omega⟩
 have hP:=AB p hp hpass hw hC hs
 refine⟨p,cs,⟨bD p,tcs⟩,hprog,?_,hd,hp,rfl,hC,hV⟩
 refine am.fz (xX _ _ _ ?_)
 unfold tf
 generalize hQ:(fun(v:AV) (L:SH)=>∃v2 L2,aV [v] L [v2] L2∧v2=AV.agg (wT.enc ⟨bD p,tcs⟩)∧L2=[])=Q
 have hq:∀L,Q (.agg (wT.enc ⟨bD p,tcs⟩)) L:=fun L=>by
  subst hQ;exact⟨_,[],aV.all (.refl _),rfl,rfl⟩
 clear hQ
 repeat' (first | refine st ?_ | ((with_reducible refine aq 9 ?_);refine aj (hprog) ?_) | ((with_reducible refine al 9 ?_);refine ab (hprog) ?_) | ((with_reducible refine aq 8 ?_);refine aj (hP) ?_) | ((with_reducible refine al 8 ?_);refine ab (hP) ?_) | refine sb (fun nb_ hnb_=>?_) | refine s2 (fun h=>?_) (fun h=>?_) | fail)
 exact hq _
end Go.Proofs.Ytljkdffikfkcgaa.Am
end
section
namespace Go.Proofs.Ytljkdffikfkcgaa.Am
set_option maxRecDepth 100000
set_option maxHeartbeats 2000000
set_option linter.unusedVariables false
theorem IU{k k':IntKind}{n m:Int}{K:AV→Prop}(e:k.wrap n=m)(h:K (.int k m)):W.conv k (.int k' n) K:=CI (by rw[e];exact h)
theorem IV{P:Program}{F:TypeId→Option (List TypeId)}{t:TypeId}{k:IntKind}{a b m:Int}{K:AV→Prop}(e:a.tmod b=m)(hb:b≠0)(h:K (.int k m)):W.bin P F .rem t (.int k a) (.int k b) K:=FF hb (by rw[e];exact h)
def xl:List Int:=(List.range 256).map Int.ofNat
theorem Ca{x:Int}(h:0≤x∧x<256):x∈xl:=List.mem_map.2 ⟨x.toNat,List.mem_range.2 (by omega),by show((x.toNat:Nat):Int)=x;omega⟩
theorem Ee{n:Nat}{taint:List Int}{l:List Int}(h:l∈eK [] n (taint.map fun x=>[x])):l=[]∨∃x∈taint,l=[x]:=by
 unfold eK at h
 rcases List.mem_append.1 h with h | h
 ·obtain⟨x,hx,rfl⟩:=List.mem_map.1 (List.mem_of_mem_take h)
  exact .inr ⟨x,hx,rfl⟩
 ·exact .inl (List.mem_replicate.1 h).2
theorem Ef{t:List UInt8}{p:aK}{cs:Nat→List aw}{c:wT}(h:Ed t p cs c):0<c.ts.length∧c.ts.length≤4:=by
 have h1:=h.ok.shaped
 unfold Du at h1
 simp only[Bool.and_eq_true,decide_eq_true_eq]at h1
 have:=h.codes.len
 have:=h.ok.few
 omega
theorem AI(n:Nat)(ins:List aw)(pc:Int)(regs taint:List Int)(hn:n<2^20)(hi:0<ins.length)(hi2:ins.length<2^40)(hp:0≤pc∧pc<256)(hr:regs.length<2^63)(ht:taint.length<2^63)(ht2:∀x∈taint,0≤x∧x<256):
  aO Try.prog 5 [.agg (lf.enc ⟨n,ins⟩),.int .u8 pc,.lst (regs.map aJ),.lst (taint.map BT)] (.agg (Jf ⟨n,ins⟩ n pc regs taint).enc):=by
 refine am.fz ((zo n ins pc regs taint hn hi hi2 hp hr ht ht2).mono ?_)
 rintro u K ⟨v,bR,rfl,rfl,rfl⟩
 exact⟨_,[],aV.all (Fz.aggs (.cons (.refl _) (.cons (Fz.sls (l:=eK 0 n regs) (f:=aJ) (.head _) rfl (by decide) kT.symm) (.cons (.refl _) (.cons (.refl _) .nil))))),rfl,rfl⟩
theorem HA{Q:R}(hq:∀L,Q (.bool true) L){a b:bK}(n:Nat)(hn:n<2^40)(hal:eN a b)(hla:a.regs.length=n)(hta:a.taint.length=n)(hsh:∀l∈a.taint,l.length<2^40):W.loop (cX Q) [.pptr [a.enc] 0 0,.pptr [b.enc] 0 0,.int .i64 0] []:=by
 obtain⟨apc,ar,at_,ae⟩:=a
 obtain⟨bpc,br,bt,be⟩:=b
 obtain⟨h1,h2,h3,h4,h5,h6⟩:=hal
 dsimp only at h1 h2 h3 h4 h5 h6 hla hta hsh
 subst h3
 refine eJ n (fun _=>True) (fun i=>[.pptr [bK.enc ⟨apc,ar,bt,ae⟩] 0 0,.pptr [bK.enc ⟨bpc,br,bt,be⟩] 0 0,.int .i64 i]) (by omega) trivial rfl (fun i hi hd hi1 _ nx hx=>?_) (fun i hi hd _ nx=>?_)
 all_goals unfold cX bK.enc
 ·have ga:i<ar.length:=by omega
  have gb:i<br.length:=by omega
  have gt:i<bt.length:=by omega
  have x1:=aC (f:=aJ) ga
  have x2:=aC (f:=aJ) gb
  have x3:=aC (f:=cC) gt
  have hs:=Do bt[i] (by have:=hsh _ (List.getElem_mem gt);omega)
  rw[←hla]at hd
  by_cases h0:bt[i].length=0
  ·have hz:decide ((bt[i].length:Int)=0)=true:=by simpa using h0
   have hv:=h6 i (by simp[List.getD,gt,List.length_eq_zero_iff.1 h0])
   have hv2:ar[i]=br[i]:=by simpa[List.getD,ga,gb]using hv
   have hne:decide (ar[i]≠br[i])=false:=by simpa using hv2
   repeat' (first | refine st ?_ | ((with_reducible refine aq 7 ?_);refine aj (hs) ?_) | ((with_reducible refine al 7 ?_);refine ab (hs) ?_) | refine sb (fun nb_ hnb_=>?_) | refine s2 (fun h=>?_) (fun h=>?_) | fail)
   exact hx trivial
  ·have hz:decide ((bt[i].length:Int)=0)=false:=decide_eq_false (by omega)
   repeat' (first | refine st ?_ | ((with_reducible refine aq 7 ?_);refine aj (hs) ?_) | ((with_reducible refine al 7 ?_);refine ab (hs) ?_) | refine sb (fun nb_ hnb_=>?_) | refine s2 (fun h=>?_) (fun h=>?_) | fail)
   exact hx trivial
 ·rw[←hla]at hd
  repeat' (first | refine st ?_ | refine sb (fun nb_ hnb_=>?_) | refine s2 (fun h=>?_) (fun h=>?_) | fail)
  exact hq _
theorem HB{Q:R}(hq:∀L,Q (.bool true) L){w:bj}{j n k:Nat}{ins:List aw}(hV:Fm w j ⟨n,ins⟩)(hn:n≤32){s:bK}(hk:k<ins.length)(hpc:s.pc=k)(hrl:s.regs.length=n)(htl:s.taint.length=n)(hU:∀l∈s.taint,l.length≤1∧∀x∈l,x∈xl){other:List Int}(ho:other.length<2^63){bR:Nat}:
  W.loop (cY Q) [.lst (other.map aJ),.pptr [lf.enc ⟨n,ins⟩] 0 0,.pptr [s.enc] 0 0,.pptr [[.int .i64 s.pc,.sl bR 0 n,.lst (s.taint.map cC),.int .i64 s.ev]] 0 0,.int .i64 0] [(bR,⟨1,s.regs.map aJ⟩)]:=by
 have hne:=hV.ne
 have hsh:=hV.short
 dsimp only at hne hsh
 refine cH (β:=List Int) n (fun i rs=>([.lst (other.map aJ),.pptr [lf.enc ⟨n,ins⟩] 0 0,.pptr [s.enc] 0 0,.pptr [[.int .i64 s.pc,.sl bR 0 n,.lst (s.taint.map cC),.int .i64 s.ev]] 0 0,.int .i64 i],[(bR,⟨1,rs.map aJ⟩)])) (fun i rs=>rs.length=n∧∀k:Nat,s.taint.getD k []=[]→s.regs.getD k 0=rs.getD k 0) s.regs ⟨hrl,fun _ _=>rfl⟩ (.refl _ _) ?_
 rintro i rs hi ⟨hrs,hG⟩
 dsimp only
 have hend:∃a b:bK,cg ⟨n,ins⟩ s=(a,true)∧cg ⟨n,ins⟩ ⟨s.pc,rs,s.taint,s.ev⟩=(b,true)∧eN a b∧a.regs.length=n∧a.taint.length=n∧∀l∈a.taint,l.length<2^40:=by
  have hal:eN s ⟨s.pc,rs,s.taint,s.ev⟩:=⟨rfl,rfl,rfl,by show rs.length=_;omega,by omega,hG⟩
  obtain⟨k1,i1,a,a1,a2,a3,a4,a5,a6⟩:=tk hV hk hpc ⟨by rw[hrl],by rw[htl]⟩
  obtain⟨k2,i2,b,b1,b2,b3,b4,b5,b6⟩:=tk hV (s:=⟨s.pc,rs,s.taint,s.ev⟩) hk hpc ⟨by show(rs.length:Int)=_;rw[hrs],by show(s.taint.length:Int)=_;rw[htl]⟩
  obtain⟨g1,g2⟩:=xR (c:=⟨n,ins⟩) hal
  rw[a1,b1]at g2
  have ht:kj xl s:=⟨by omega,by omega,fun l hl=>by have:=(hU l hl).1;omega,fun l hl=>(hU l hl).2⟩
  have ha:=zl (U:=xl) (by decide) (c:=⟨n,ins⟩) ht
  rw[a1]at ha
  refine⟨a,b,a1,b1,g2,?_,?_,fun l hl=>by have:=ha.short l hl;omega⟩
  ·have:=a2.regs;dsimp only at this;omega
  ·have:=a2.taint;dsimp only at this;omega
 obtain⟨a,b,ha,hb,hal,hla,hta,hshr⟩:=hend
 have hs1:=xf ⟨n,ins⟩ s xl (by decide) (by omega) (by omega) (fun l hl=>by have:=(hU l hl).1;omega) (fun l hl=>(hU l hl).2) (by show ins.length<_;omega)
 have hs2:=xf ⟨n,ins⟩ ⟨s.pc,rs,s.taint,s.ev⟩ xl (by decide) (by show rs.length<_;omega) (by show s.taint.length<_;omega) (fun l hl=>by have:=(hU l hl).1;omega) (fun l hl=>(hU l hl).2) (by show ins.length<_;omega)
 rw[ha]at hs1
 rw[hb]at hs2
 unfold C9 at hs1 hs2
 dsimp only at hs1 hs2
 have hl1:=HA hq n (by omega) hal hla hta hshr
 have hfz:aV [.agg (lf.enc ⟨n,ins⟩),.agg [.int .i64 s.pc,.sl bR 0 n,.lst (s.taint.map cC),.int .i64 s.ev]] [(bR,⟨1,rs.map aJ⟩)] [.agg (lf.enc ⟨n,ins⟩),.agg (bK.enc ⟨s.pc,rs,s.taint,s.ev⟩)] []:=
  aV.drop (K:=[(bR,⟨1,rs.map aJ⟩)]) (by simp) rfl (pV.cons (.refl _) (.cons (Fz.aggs (.cons (.refl _) (.cons (Fz.sls (l:=rs) (f:=aJ) (.head _) rfl (by decide) hrs.symm) (.cons (.refl _) (.cons (.refl _) .nil))))) .nil)).at_.2
 have d1:decide (a.pc≠b.pc)=false:=by simp[hal.pc]
 have d2:decide ((a.regs.length:Int)≠(b.regs.length:Int))=false:=by simp[hal.len]
 have d3:decide ((a.taint.length:Int)≠(a.regs.length:Int))=false:=by simp[hla,hta]
 have d4:decide ((b.taint.length:Int)≠(a.taint.length:Int))=false:=by simp[hal.taint]
 unfold cY
 generalize hnx:(fun(vs':List AV) (L':SH)=>∃j o',i<j∧j≤n∧_)=nx
 have hs3:=am.pre hfz hs2
 unfold bK.enc at hs1 hl1 hs3 ⊢
 have tail:dy 2 (.pptr [lf.enc ⟨n,ins⟩] 0 0) [(bR,⟨1,rs.map aJ⟩)] (fun x91=>dy 4 (.pptr [[AV.int IntKind.i64 s.pc,AV.lst (List.map aJ s.regs),AV.lst (List.map cC s.taint),AV.int IntKind.i64 s.ev]] 0 0) [(bR,⟨1,rs.map aJ⟩)] fun x92=>wc (.fn 6 []) [x91,x92] [(bR,⟨1,rs.map aJ⟩)] (eM Q (.pptr [lf.enc ⟨n,ins⟩] 0 0) (.pptr [[.int .i64 s.pc,.sl bR 0 n,.lst (s.taint.map cC),.int .i64 s.ev]] 0 0))):=by
  repeat' (first | refine st ?_ | ((with_reducible refine aq 6 ?_);refine aj (hs1) ?_) | ((with_reducible refine al 6 ?_);refine ab (hs1) ?_) | refine sb (fun nb_ hnb_=>?_) | refine s2 (fun h=>?_) (fun h=>?_) | fail)
  refine cf hs3 ?_
  rintro _ _ ⟨rfl,rfl⟩
  repeat' (first | exact hl1 | refine st ?_ | refine sb (fun nb_ hnb_=>?_) | refine s2 (fun h=>?_) (fun h=>?_) | fail)
 by_cases g1:i<n
 ·by_cases g2:i<other.length
  ·have hd1:=ct g1
   have hd2:=ct g2
   have hi1:=bH g1 (by omega)
   have hx1:=aC (f:=aJ) g2
   have gt:i<s.taint.length:=by omega
   have hx2:=aC (f:=cC) gt
   have hx3:(rs.map aJ)[i]? =some (aJ rs[i]):=aC (by omega)
   have hl3:(rs.map aJ).length=n:=by simp[hrs]
   by_cases g3:s.taint[i].length=0
   ·have hz:decide (0<(s.taint[i].length:Int))=false:=decide_eq_false (by omega)
    repeat' (first | exact tail | refine st ?_ | refine sb (fun nb_ hnb_=>?_) | refine s2 (fun h=>?_) (fun h=>?_) | fail)
    subst hnx
    exact⟨i+1,rs,by omega,by omega,⟨hrs,hG⟩,.refl _ _⟩
   ·have hz:decide (0<(s.taint[i].length:Int))=true:=decide_eq_true (by omega)
    repeat' (first | exact tail | refine st ?_ | refine sb (fun nb_ hnb_=>?_) | refine s2 (fun h=>?_) (fun h=>?_) | fail)
    subst hnx
    refine⟨i+1,rs.set i other[i],by omega,by omega,⟨by simpa using hrs,fun k hk0=>?_⟩,uS rfl ?_⟩
    ·have hki:k≠i:=by
      rintro rfl
      rw[List.getD_eq_getElem?_getD,List.getElem?_eq_getElem gt]at hk0
      exact g3 (by simpa using congrArg List.length hk0)
     rw[hG k hk0,List.getD_eq_getElem?_getD,List.getD_eq_getElem?_getD,List.getElem?_set_ne (Ne.symm hki)]
    ·rw[List.map_set];rfl
  ·have hd1:=ct g1
   have hd2:decide ((i:Int)<(other.length:Int))=false:=ee (by omega)
   repeat' (first | exact tail | refine st ?_ | refine sb (fun nb_ hnb_=>?_) | refine s2 (fun h=>?_) (fun h=>?_) | fail)
 ·have hd1:decide ((i:Int)<(n:Int))=false:=ee (by omega)
  repeat' (first | exact tail | refine st ?_ | refine sb (fun nb_ hnb_=>?_) | refine s2 (fun h=>?_) (fun h=>?_) | fail)
section
variable {t:List UInt8} {thread pc:Int} {regs other taint:List Int}
theorem Fs(hth:0≤thread∧thread<256)(hp:0≤pc∧pc<256)(hr:regs.length<2^63)(ho:other.length<2^63)(hta:taint.length<2^63)(ht2:∀x∈taint,0≤x∧x<256):
  aO Try.prog 3 [.lst (t.map mM),.int .u8 thread,.int .u8 pc,.lst (regs.map aJ),.lst (other.map aJ),.lst (taint.map BT)] (.bool true):=by
 refine am.fz (ju _ _ _ _ _ _ _ _ ?_)
 unfold eW
 generalize hQ:(fun(v:AV) (L:SH)=>∃v2 L2,aV [v] L [v2] L2∧v2=AV.bool true∧L2=[])=Q
 have hq:∀L,Q (.bool true) L:=fun L=>by subst hQ;exact⟨_,[],aV.all (.refl _),rfl,rfl⟩
 clear hQ
 rcases Nat.lt_or_ge 200 t.length with ht | ht
 ·have hd:decide ((200:Int)<(t.length:Int))=true:=decide_eq_true (by omega)
  repeat' (first | refine st ?_ | refine sb (fun nb_ hnb_=>?_) | refine s2 (fun h=>?_) (fun h=>?_) | fail)
  exact hq _
 obtain⟨p,cs,c,hC⟩:=Fq t (by omega)
 have hd2:decide ((200:Int)<(t.length:Int))=false:=decide_eq_false (by omega)
 obtain⟨hpos,hfew⟩:=Ef hC
 obtain⟨j,hj,hjm⟩:∃j:Nat,j<c.ts.length∧thread.tmod (c.ts.length:Int)=(j:Int):=by
  refine⟨(thread.tmod (c.ts.length:Int)).toNat,?_,?_⟩
  ·have:=Int.tmod_lt_of_pos thread (show(0:Int)<(c.ts.length:Int) by omega)
   have:=Int.tmod_nonneg (c.ts.length:Int) hth.1
   omega
  ·have:=Int.tmod_nonneg (c.ts.length:Int) hth.1
   omega
 have hV:=hC.valid j hj
 obtain⟨n,hn⟩:∃n:Nat,c.ts[j].regs=(n:Int):=⟨c.ts[j].regs.toNat,by have:=hV.r0;omega⟩
 have hn32:n≤32:=by have:=hV.r32;omega
 have hx:=aC (f:=lf.enc) hj
 generalize htc:c.ts[j]=tc at *
 obtain⟨rg,ins⟩:=tc
 dsimp only at hn
 subst hn
 have hne:=hV.ne
 have hsh:=hV.short
 dsimp only at hne hsh
 let s:bK:=Jf ⟨n,ins⟩ n pc regs taint
 have hcode:=hC.code
 have hcv:IntKind.i64.wrap thread=thread:=IntWalk.i64_in thread (by omega)
 have hz:(c.ts.length:Int)≠0:=by omega
 unfold wT.enc at hcode
 repeat' (first | refine IU hcv ?_ | refine dm (IV hjm hz ?_) | refine st ?_ | ((with_reducible refine aq 4 ?_);refine aj (hcode) ?_) | ((with_reducible refine al 4 ?_);refine ab (hcode) ?_) | refine sb (fun nb_ hnb_=>?_) | refine s2 (fun h=>?_) (fun h=>?_) | fail)
 all_goals first | exact hq _ | skip
 refine aj (AI n ins pc regs taint (by omega) hne (by omega) hp hr hta ht2) ?_
 repeat' (first | refine st ?_ | refine sb (fun nb_ hnb_=>?_) | refine s2 (fun h=>?_) (fun h=>?_) | fail)
 refine cf (zo n ins pc regs taint (by omega) hne (by omega) hp hr hta ht2) ?_
 rintro _ _ ⟨v,bR,rfl,rfl,rfl⟩
 have hsd:(Jf ⟨n,ins⟩ n pc regs taint)=s:=rfl
 rw[hsd]
 have hsr:s.regs=eK 0 n regs:=rfl
 have hst:s.taint=eK [] n (taint.map fun x=>[x]):=rfl
 rw[←hsr,←hst]
 have hsrl:s.regs.length=n:=kT
 have hstl:s.taint.length=n:=kT
 repeat' (first | refine st ?_ | refine sb (fun nb_ hnb_=>?_) | refine s2 (fun h=>?_) (fun h=>?_) | fail)
 obtain⟨k,hk,hpk⟩:∃k:Nat,k<ins.length∧s.pc=k:=by
  have h1:=Int.tmod_lt_of_pos pc (show(0:Int)<(ins.length:Int) by omega)
  have h2:=Int.tmod_nonneg (ins.length:Int) hp.1
  exact⟨(pc.tmod (ins.length:Int)).toNat,by omega,by show pc.tmod (ins.length:Int)=_;omega⟩
 refine HB (s:=s) hq hV hn32 hk hpk hsrl hstl (fun l hl=>?_) ho
 rw[hst]at hl
 rcases Ee hl with rfl | ⟨x,hx,rfl⟩
 ·simp
 ·exact⟨Nat.le_refl _,fun y hy=>by rw[List.mem_singleton.1 hy];exact Ca (ht2 x hx)⟩
end
end Go.Proofs.Ytljkdffikfkcgaa.Am
end
section
namespace Go.Proofs.Ytljkdffikfkcgaa.Am
open Go.ChangeShapes Go.WideShapes Go.ChangeAt Go.RowKit
set_option linter.unusedVariables false
def zO:bq:=⟨fun _=>none,fun _=>False⟩
def Cb:Nat→Prop:=fun _=>False
def IW{α:Type}(e:α→List AV)(G:α→Prop):Rel α:=fun w _ x cs=>G x∧db w zO Cb (e x) cs
theorem rE{w:World}{σ:bq}{T:Nat→Prop}{a:AV}{v:Value}(h:bl w σ T a v):db w σ T [a] [v]:=⟨rfl,fun i x u h1 h2=>by
 match i with
 | 0=>cases h1;cases h2;exact h
 | i+1=>simp at h1⟩
theorem f0{w:World}{σ:bq}{T:Nat→Prop}{a:AV}{v:Value}{l:List AV}{m:List Value}(h:db w σ T [a] [v])(hl:db w σ T l m):db w σ T (a::l) (v::m):=⟨by simp[hl.1],fun i x u h1 h2=>by
 match i with
 | 0=>exact h.2 0 x u h1 h2
 | i+1=>exact hl.2 i x u (by simpa using h1) (by simpa using h2)⟩
theorem Eg{w:World}{σ:bq}{T:Nat→Prop}:db w σ T [] []:=⟨rfl,fun i x u h1 h2=>by simp at h1⟩
section
variable {H:Type} {enc:TypeId×Value→H} {P:Program} {w:World} {base:Nat} {spare:Nat→Bool} {held:Bool}
theorem Eh{t:TypeId}{k:IntKind}(ht:P.underlying t=some (.int k)):Opens H enc P w base spare held t (IW (fun n:Int=>[.int k n]) fun n=>(Lit.int k n).wf=true):=fun fuel cs x h=>by
 obtain⟨n,rfl,hn⟩:=opens_int ht fuel cs x h
 exact⟨n,hn,rE (.int k n)⟩
theorem zP{α:Type}{t e:TypeId}{size:Nat}{f:α→List AV}{G:α→Prop}(ht:P.underlying t=some (.slice e))(hc:P.cellsOf e=size)(hs:0<size)(he:Opens H enc P w base spare held e (IW f G)):
  Opens H enc P w base spare held t (IW (fun l:List α=>[.lst (l.map f)]) fun l=>l.length≤maxLen∧∀x∈l,G x):=fun fuel cs x h=>by
 obtain⟨l,A,c,rfl,h1,h2,h3⟩:=opens_slice ht hc hs he fuel cs x h
 refine⟨l,⟨by omega,fun x hx=>?_⟩,rE ?_⟩
 ·obtain⟨i,hi,rfl⟩:=List.getElem_of_mem hx
  obtain⟨b,o,_,_,hall⟩:=h3 (by omega)
  obtain⟨cs',_,hR,_⟩:=hall i l[i] (List.getElem?_eq_getElem hi)
  exact hR.1
 ·rcases Nat.eq_zero_or_pos l.length with h0 | h0
  ·have:l=[]:=List.length_eq_zero_iff.1 h0
   subst this
   exact .lst0 A c h2
  ·obtain⟨b,o,rfl,hb,hall⟩:=h3 h0
   have:=bl.lst (w:=w) (σ:=zO) (T:=Cb) (l.map f) b o size c ⟨fun h=>h,fun i r hr=>?_,fun i j hi hj=>?_,hs,by simpa using h0⟩ (by simpa using h1) h2 (fun i r j a u hr ha hu=>?_)
   ·simpa using this
   ·rw[List.getElem?_map]at hr
    cases hx:l[i]? with
    | none=>rw[hx]at hr;cases hr
    | some y=>
     rw[hx]at hr;cases hr
     obtain⟨cs',k1,k2,_⟩:=hall i y hx
     rw[k2.2.1,k1]
   ·have hi':i<l.length:=by simpa using hi
    obtain⟨cs',k1,k2,k3⟩:=hall i l[i] (List.getElem?_eq_getElem hi')
    exact⟨cs'[j],k3 j _ (List.getElem?_eq_getElem (by omega))⟩
   ·rw[List.getElem?_map]at hr
    cases hx:l[i]? with
    | none=>rw[hx]at hr;cases hr
    | some y=>
     rw[hx]at hr;cases hr
     obtain⟨cs',k1,k2,k3⟩:=hall i y hx
     have hj:j<cs'.length:=by rw[←k2.2.1];exact ax ha
     have hu':=k3 j _ (List.getElem?_eq_getElem hj)
     rw[hu]at hu'
     cases hu'
     exact k2.2.2 j a _ ha (List.getElem?_eq_getElem hj)
end
theorem Cc{P:Program}{f:FuncId}{args:List AV}{vs:List Value}(h:aO P f args (.bool true))(w:World)(hv:db w zO Cb args vs):Calls P f vs.toArray w fun e w'=>e=.returned (.bool true)∧Below w.heap.size w w':=by
 obtain⟨v,H',L',h1,h2,rfl,rfl⟩:=h.2 ah.empty (fun b _=>dx b) ⟨List.nodup_nil,fun p hp=>by simp at hp⟩
 have hown:aQ zO ah.empty=Cb:=by
  funext c
  apply propext
  constructor
  ·rintro(h | ⟨b,x,pl,h4,_,_⟩)
   ·exact h
   ·rw[dx]at h4;cases h4
  ·exact fun h=>h.elim
 have hW:bc w zO ah.empty:=⟨fun b pl hb=>(by cases hb),fun b pl hb=>(by cases hb),fun b x hb=>(by rw[dx]at hb;cases hb),fun c hc=>hc.elim,fun b b' x x' pl pl' hb=>(by rw[dx]at hb;cases hb)⟩
 refine(h1 w zO vs hW (by rw[hown];exact hv)).mono ?_
 rintro e w' ⟨v',σ',rfl,k1,k2,k3,_⟩
 cases k1
 rw[hown]at k3
 exact⟨rfl,k3.os,k3.tape,k3.output,k3.size,fun k hk=>k3.keep k hk fun h=>h⟩
end Go.Proofs.Ytljkdffikfkcgaa.Am
end
section
namespace Go.Proofs.Ytljkdffikfkcgaa.Am
open Go.ChangeShapes Go.WideShapes Go.ChangeAt Go.RowKit
set_option linter.unusedVariables false
def Jq(l:List Int):List UInt8:=l.map fun x=>UInt8.ofNat x.toNat
theorem Bu{x:Int}(h:(Lit.int .u8 x).wf=true):0≤x∧x<256:=by
 simp only[Lit.wf,Bool.and_eq_true,decide_eq_true_eq]at h
 have h1:IntKind.u8.min=0:=by decide
 have h2:IntKind.u8.max=255:=by decide
 omega
theorem Ft{l:List Int}(h:∀x∈l,0≤x∧x<256):(Jq l).map mM=l.map BT:=by
 unfold Jq
 rw[List.map_map]
 refine List.map_congr_left fun x hx=>?_
 have:=h x hx
 show [AV.int .u8 (((UInt8.ofNat x.toNat).toNat:Nat):Int)]=[AV.int .u8 x]
 rw[UInt8.toNat_ofNat_of_lt' (by show x.toNat<256;omega),Int.toNat_of_nonneg this.1]
section
variable {H:Type} {enc:TypeId×Value→H} {w:World} {base:Nat} {spare:Nat→Bool} {held:Bool}
theorem Ei:Opens H enc Try.prog w base spare held 22 (IW (fun l:List Int=>[.lst (l.map BT)]) fun l=>l.length≤maxLen∧∀x∈l,(Lit.int .u8 x).wf=true):=
 zP (size:=1) Try.underlying22 (by kernel_rfl) (by decide) (Eh (by kernel_rfl))
theorem Bv:Opens H enc Try.prog w base spare held 23 (IW (fun l:List Int=>[.lst (l.map aJ)]) fun l=>l.length≤maxLen∧∀x∈l,(Lit.int .i64 x).wf=true):=
 zP (size:=1) Try.underlying23 (by kernel_rfl) (by decide) (Eh (by kernel_rfl))
end
end Go.Proofs.Ytljkdffikfkcgaa.Am
end
section
namespace Go.Proofs.Ytljkdffikfkcgaa.silentDepends
open Go.ChangeShapes Go.WideShapes Go.ChangeAt Go.RowKit Am
set_option linter.unusedVariables false
set_option linter.unusedSimpArgs false
theorem law(l:List Int)(hl:l.length≤maxLen∧∀x∈l,(Lit.int .u8 x).wf=true)(t:Int)(ht:(Lit.int .u8 t).wf=true)(k:Int)(hk:(Lit.int .u8 k).wf=true)(r:List Int)(hr:r.length≤maxLen∧∀x∈r,(Lit.int .i64 x).wf=true)(o:List Int)(ho:o.length≤maxLen∧∀x∈o,(Lit.int .i64 x).wf=true)(a:List Int)(ha:a.length≤maxLen∧∀x∈a,(Lit.int .u8 x).wf=true):
  aO Try.prog 3 [.lst (l.map BT),.int .u8 t,.int .u8 k,.lst (r.map aJ),.lst (o.map aJ),.lst (a.map BT)] (.bool true):=by
 have hm:maxLen<2^63:=by decide
 rw[←Ft fun x hx=>Bu (hl.2 x hx)]
 exact Fs (Bu ht) (Bu hk) (by omega) (by omega) (by omega) fun x hx=>Bu (ha.2 x hx)
theorem own:ownKnob Try.prog.godebug=none:=by kernel_rfl
theorem laidOut:laidOutB Try.prog=true:=by kernel_rfl
theorem agg_of{n:Nat}(hn:n≠1){v:Value}(h:v.cells.toList.length=n):∃cs:List Value,v=.agg cs.toArray∧v.cells.toList=cs:=by
 cases v with
 | agg a=>exact⟨a.toList,by simp,rfl⟩
 | _=>simp[Value.cells]at h;omega
set_option maxRecDepth 100000 in
theorem lifted(os:Os)(started:os.Started)(H:Type)(enc:TypeId×Value→H):
  ReturnsInHanded {} Try.checked os 3 .any (Rows.silentDependsSpec.pre6 enc Try.prog Try.f3 Rows.silentDependsRow.domain false) (Rows.silentDependsSpec.post enc Try.prog Try.f3 false true false false):=by
 refine returnsInHanded_of_change (C:=Try.checked) own started (by kernel_rfl) Try.func3
  (ChangeSpec.witness6 (enc:=enc) (C:=Try.checked) false ⟨#[],#[.slice none 0 0,.int .u8 0,.int .u8 0,.slice none 0 0,.slice none 0 0,.slice none 0 0],[]⟩ 8 (by kernel_rfl) (by kernel_rfl) (by kernel_rfl) (by kernel_rfl)) ?_
 intro W base args ds gs before hval0 hW hcnd _
 have hval:∀(j:Nat) t v,Try.f3.params[j]? =some t→args[j]? =some v→Value.okWide Try.prog W .any base t v:=hval0
 have hW':=hW
 obtain⟨p,q,hA0,hV,rfl,hfz,hnd⟩:=hW
 have hA:DataW.TrodAll enc Try.prog W 0 (fun _=>true) true Try.f3.params.toList args.toList ds p:=hA0
 rw[Try.params3]at hA hval
 obtain⟨v0,vs0,d0,ds0,p0,q0,hargs,rfl,rfl,h0,r0⟩:=trodAll_cons hA
 obtain⟨v1,vs1,d1,ds1,p1,q1,rfl,rfl,rfl,h1,r1⟩:=trodAll_cons r0
 obtain⟨v2,vs2,d2,ds2,p2,q2,rfl,rfl,rfl,h2,r2⟩:=trodAll_cons r1
 obtain⟨v3,vs3,d3,ds3,p3,q3,rfl,rfl,rfl,h3,r3⟩:=trodAll_cons r2
 obtain⟨v4,vs4,d4,ds4,p4,q4,rfl,rfl,rfl,h4,r4⟩:=trodAll_cons r3
 obtain⟨v5,vs5,d5,ds5,p5,q5,rfl,rfl,rfl,h5,r5⟩:=trodAll_cons r4
 obtain⟨rfl,rfl,rfl⟩:=trodAll_nil r5
 obtain rfl:args=#[v0,v1,v2,v3,v4,v5]:=by cases args;simp_all
 obtain⟨rfl,rfl⟩:=trodVars_none hV
 obtain⟨fuel0,hf0⟩:=h0
 obtain⟨a0,n0,c0,rfl⟩:=okWide_slice Try.underlying22 (hval 0 22 v0 rfl rfl)
 obtain⟨x0,g0,k0⟩:=Ei _ _ _ hf0
 obtain⟨fuel1,hf1⟩:=h1
 obtain⟨x1,rfl,_,_,g1⟩:=open_int Try.underlying5 (hval 1 5 v1 rfl rfl) ⟨fuel1,hf1⟩
 have k1:=rE (bl.int (w:=W) (σ:=zO) (T:=Cb) .u8 x1)
 obtain⟨fuel2,hf2⟩:=h2
 obtain⟨x2,rfl,_,_,g2⟩:=open_int Try.underlying5 (hval 2 5 v2 rfl rfl) ⟨fuel2,hf2⟩
 have k2:=rE (bl.int (w:=W) (σ:=zO) (T:=Cb) .u8 x2)
 obtain⟨fuel3,hf3⟩:=h3
 obtain⟨a3,n3,c3,rfl⟩:=okWide_slice Try.underlying23 (hval 3 23 v3 rfl rfl)
 obtain⟨x3,g3,k3⟩:=Bv _ _ _ hf3
 obtain⟨fuel4,hf4⟩:=h4
 obtain⟨a4,n4,c4,rfl⟩:=okWide_slice Try.underlying23 (hval 4 23 v4 rfl rfl)
 obtain⟨x4,g4,k4⟩:=Bv _ _ _ hf4
 obtain⟨fuel5,hf5⟩:=h5
 obtain⟨a5,n5,c5,rfl⟩:=okWide_slice Try.underlying22 (hval 5 22 v5 rfl rfl)
 obtain⟨x5,g5,k5⟩:=Ei _ _ _ hf5
 refine(Cc (law x0 g0 x1 g1 x2 g2 x3 g3 x4 g4 x5 g5) W (f0 k0 (f0 k1 (f0 k2 (f0 k3 (f0 k4 (f0 k5 Eg))))))).mono fun e W' ⟨he,hb⟩=>⟨.bool true,he,?_⟩
 exact law_post laidOut (of_decide_eq_true (by kernel_rfl)) rfl rfl Try.underlying4 hW' rfl rfl rfl hb
theorem over:Rows.silentDependsRow.holds Try.pinned (OpenSpec.ofChange Rows.silentDependsSpec):=
 OpenClaim.holds_of_wide 3 Try.f3 rfl rfl rfl rfl rfl rfl rfl ⟨rfl,rfl,rfl,rfl,rfl⟩ rfl rfl rfl rfl rfl (by kernel_rfl) Try.func3 (by kernel_rfl)
  (of_decide_eq_true (by kernel_rfl)) (by unfold Func.isWrapper;first | (rw[if_pos (by decide +kernel)];kernel_rfl) | (rw[if_neg (by decide +kernel)];exact⟨rfl,rfl⟩))
  (fun os started H enc _=>lifted os started H enc)
theorem proved:Rows.SilentDependsSaid:=
 over
#print axioms proved
end Go.Proofs.Ytljkdffikfkcgaa.silentDepends
end
