/- A part of the proof; the statement is proved in the last part. -/
import Derived.Test.YtljkdffikfkcgaaQ2l
set_option linter.unusedSimpArgs false
set_option linter.unusedVariables false
section
namespace Go.Proofs.Ytljkdffikfkcgaa.Am
set_option maxRecDepth 100000
set_option maxHeartbeats 2000000
set_option linter.unusedVariables false
theorem wi(o:Option Nat)(l:List eB)(x:aL)(h0:o=none→l=[])(hl:l.length<2^62):
  am Try.prog 33 [au o l.length,.str x] (ao o 2 (l.map eB.enc)) fun u K=>u=.int .i64 (bv l x)∧K=ao o 2 (l.map eB.enc):=by
 refine jM _ _ _ _ ?_
 unfold gE
 generalize hL:ao o 2 (l.map eB.enc)=L
 generalize hQ:(fun(u:AV) (K:SH)=>u=AV.int .i64 (bv l x)∧K=L)=Q
 have hq:∀r:Int,r=bv l x→Q (.int .i64 r) L:=fun r h=>by subst hQ h;exact⟨rfl,rfl⟩
 clear hQ
 subst hL
 cases o with
 | none=>
  have:=h0 rfl
  subst this
  dsimp only[ao,au,List.length_nil]at *
  refine eJ 0 (fun _=>True) (fun i=>[.emp,.str x,.int .i64 i]) (by omega) trivial rfl (fun i h1 hd hi _ nx hn=>by omega) (fun i h1 hd _ nx=>?_)
  unfold dX
  repeat' (first | refine st ?_ | refine sb (fun nb_ hnb_=>?_) | refine s2 (fun h=>?_) (fun h=>?_) | fail)
  exact hq _ rfl
 | some b1=>
  dsimp only[ao,au]at *
  refine cJ l (fun y=>decide (y.name=x)) (fun i=>[.sl b1 0 l.length,.str x,.int .i64 i]) hl rfl (fun i h1 hd hi hno nx hn=>?_) (fun i h1 hd hno nx=>?_)
  all_goals unfold dX
  ·have hx:=aC (f:=eB.enc) h1
   repeat' (first | refine st ?_ | refine sb (fun nb_ hnb_=>?_) | refine s2 (fun h=>?_) (fun h=>?_) | fail)
   ·exact hq _ (by rw[bv,gh h1 hno h])
   ·exact hn h
  ·repeat' (first | refine st ?_ | refine sb (fun nb_ hnb_=>?_) | refine s2 (fun h=>?_) (fun h=>?_) | fail)
   exact hq _ (by rw[bv,eq hno])
def He:List AV:=[.nils,.nils,.nils,.nils,.nils,.nils]
def wz(b2 b6:Nat)(oc ol od of ot os:Option Nat)(w:bj):SH:=
 (b6,⟨6,[[au oc w.cells.length,au ol w.locks.length,au od w.conds.length,au of w.futures.length,au ot w.threads.length,au os w.sites.length]]⟩)::(b2,⟨6,[He]⟩) ::
  (ao oc 5 (w.cells.map fq.enc)++(ao ol 2 (w.locks.map eB.enc)++(ao od 2 (w.conds.map mo.enc)++(ao of 1 (w.futures.map az)++(ao ot 1 (w.threads.map az)++ao os 3 (w.sites.map ft.enc))))))
structure wS(b6:Nat)(oc ol od of ot os:Option Nat)(w:bj):Prop where
 c:oc=none→w.cells=[]
 l:ol=none→w.locks=[]
 d:od=none→w.conds=[]
 f:of=none→w.futures=[]
 t:ot=none→w.threads=[]
 s:os=none→w.sites=[]
 n:∀b,ol=some b→b6≠b
def F3(K:SH→Prop)(b2 b6:Nat)(w:bj):Prop:=∀(oc ol od of ot os:Option Nat) (L':SH) (v0 v1 v2 v3 v4 v5:AV) (r0 r1 r2 r3 r4 r5:List (List AV)),wS b6 oc ol od of ot os w→
 ez L' ((b6,⟨6,[[v0,v1,v2,v3,v4,v5]]⟩)::(b2,⟨6,[He]⟩)::(ao oc 5 r0++(ao ol 2 r1++(ao od 2 r2++(ao of 1 r3++(ao ot 1 r4++ao os 3 r5))))))→
 [v0,v1,v2,v3,v4,v5]=[au oc w.cells.length,au ol w.locks.length,au od w.conds.length,au of w.futures.length,au ot w.threads.length,au os w.sites.length]→
 r0=w.cells.map fq.enc→r1=w.locks.map eB.enc→r2=w.conds.map mo.enc→r3=w.futures.map az→r4=w.threads.map az→r5=w.sites.map ft.enc→K L'
theorem F3.of{K:SH→Prop}{b2 b6:Nat}{w:bj}(h:∀(oc ol od of ot os:Option Nat) (L':SH),wS b6 oc ol od of ot os w→ez L' (wz b2 b6 oc ol od of ot os w)→K L'):F3 K b2 b6 w:=by
 intro oc ol od of ot os L' v0 v1 v2 v3 v4 v5 r0 r1 r2 r3 r4 r5 h1 h2 h3 e0 e1 e2 e3 e4 e5
 simp only[List.cons.injEq,and_true]at h3
 obtain⟨rfl,rfl,rfl,rfl,rfl,rfl⟩:=h3
 subst e0 e1 e2 e3 e4 e5
 exact h oc ol od of ot os L' h1 h2
section
variable {n18:Kn} {b2 b6 i:Nat} {oc ol od of ot os:Option Nat} {w:bj} {rows tl:List (List AV)}
theorem F4{line size init:Int}{name on:aL}{kind:Int}(hk:kind=1∨kind=2)(hs:size≤1000)(hi1:IntKind.i64.wrap ((i:Int)+1)=((i+1:Nat):Int))(ho:wS b6 oc ol od of ot os w)(hlen:w.cells.length<2^30)
  (hn:F3 (n18 [.pptr [[.lst rows,.lst tl]] 0 0,.ptr b2 0 0,.ptr b6 0 0,.int .i64 ((i+1:Nat):Int)]) b2 b6 {w with cells:=w.cells++av.celW ⟨kind,line,name,size,init,on⟩}) :
  W.loop (gF n18) [.pptr [[.lst rows,.lst tl]] 0 0,.ptr b2 0 0,.ptr b6 0 0,.int .i64 i,.pptr [[.int .i64 kind,.int .i64 line,.str name,.int .i64 size,.int .i64 init,.str on]] 0 0,.int .i64 0] (wz b2 b6 oc ol od of ot os w):=by
 generalize hN:(max size 1).toNat=N at *
 have hN1:N≤1000:=by omega
 have hcl:av.celW ⟨kind,line,name,size,init,on⟩=(List.range N).map fun k=>⟨name,(k:Nat),size,decide (kind=2),init⟩:=by unfold av.celW;rw[hN]
 rw[hcl]at hn
 obtain⟨WK,hWK⟩:∃f:Nat→bj,f=fun k=>{w with cells:=w.cells++(List.range k).map fun k=>⟨name,(k:Nat),size,decide (kind=2),init⟩}:=⟨_,rfl⟩
 refine cH (β:=Option Nat×Option Nat×Option Nat×Option Nat×Option Nat×Option Nat) N (fun k q=>([.pptr [[.lst rows,.lst tl]] 0 0,.ptr b2 0 0,.ptr b6 0 0,.int .i64 i,.pptr [[.int .i64 kind,.int .i64 line,.str name,.int .i64 size,.int .i64 init,.str on]] 0 0,.int .i64 k],wz b2 b6 q.1 q.2.1 q.2.2.1 q.2.2.2.1 q.2.2.2.2.1 q.2.2.2.2.2 (WK k)))
  (fun k q=>wS b6 q.1 q.2.1 q.2.2.1 q.2.2.2.1 q.2.2.2.2.1 q.2.2.2.2.2 (WK k)) (oc,ol,od,of,ot,os) (by subst hWK;show wS b6 oc ol od of ot os {w with cells:=w.cells++[]};rw[List.append_nil];exact ho) (by subst hWK;show aV _ _ _ (wz b2 b6 oc ol od of ot os {w with cells:=w.cells++[]});rw[List.append_nil];exact aV.refl _ _) ?_
 rintro k ⟨oc,ol,od,of,ot,os⟩ hk ho
 dsimp only at ho ⊢
 unfold gF
 generalize hnx:(fun(vs':List AV) (L':SH)=>∃j o',k<j∧j≤N∧_)=nx
 rcases Nat.lt_or_ge k N with g1 | g1
 ·have hd:=ct g1
  have hk1:=bH g1 (by omega)
  have hrs:List.range (k+1)=List.range k++[k]:=List.range_succ
  have hgo:F3 (nx [.pptr [[.lst rows,.lst tl]] 0 0,.ptr b2 0 0,.ptr b6 0 0,.int .i64 i,.pptr [[.int .i64 kind,.int .i64 line,.str name,.int .i64 size,.int .i64 init,.str on]] 0 0,.int .i64 ((k+1:Nat):Int)]) b2 b6 {w with cells:=w.cells++(List.range k).map (fun k=>(⟨name,(k:Nat),size,decide (kind=2),init⟩:fq))++[⟨name,(k:Nat),size,decide (kind=2),init⟩]}:=.of fun oc2 ol2 od2 of2 ot2 os2 L' q1 q2=>by
   subst hnx
   subst hWK
   have e:(fun k=>({w with cells:=w.cells++(List.range k).map fun k=>(⟨name,(k:Nat),size,decide (kind=2),init⟩:fq)}:bj)) (k+1)={w with cells:=w.cells++(List.range k).map (fun k=>(⟨name,(k:Nat),size,decide (kind=2),init⟩:fq))++[⟨name,(k:Nat),size,decide (kind=2),init⟩]}:=by
    show({w with cells:=w.cells++(List.range (k+1)).map (fun k=>(⟨name,(k:Nat),size,decide (kind=2),init⟩:fq))}:bj)=_
    rw[hrs,List.map_append,←List.append_assoc];rfl
   exact⟨k+1,(oc2,ol2,od2,of2,ot2,os2),by omega,by omega,by rw[e];exact q1,by rw[e];exact aV.pick q2 rfl⟩
  clear hnx
  have hCl:(w.cells++(List.range k).map (fun k=>(⟨name,(k:Nat),size,decide (kind=2),init⟩:fq))).length<2^31:=by simp;omega
  obtain⟨wc,wl,wd,wf,wt,ws⟩:=w
  subst hWK
  dsimp only at *
  generalize wc++(List.range k).map (fun k=>(⟨name,(k:Nat),size,decide (kind=2),init⟩:fq))=C at *
  have hC0:oc=none→C.map fq.enc=[]:=fun e=>by have hc:=ho.c e;dsimp only at hc;rw[hc];rfl
  unfold wz
  repeat' (first | rw[hN] | refine st ?_ | refine cI rp rp (by simp) (fun e=>by first | simp[hC0 e]) (by rfl) (by simp) (by simp;omega) (by simp;omega) (by rfl) (fun nb_ hnb_=>?_) | refine As ?_ | refine sb (fun nb_ hnb_=>?_) | refine s2 (fun h=>?_) (fun h=>?_) | fail)
  exact hgo (some nb_) ol od of ot os _ _ _ _ _ _ _ _ _ _ _ _ _ ⟨nofun,ho.l,ho.d,ho.f,ho.t,ho.s,ho.n⟩ rp (by simp[au]) (by rw[List.map_append];rfl) rfl rfl rfl rfl rfl
 ·have hd:=ee g1
  have e:k=N:=by omega
  subst e
  subst hWK
  dsimp only at *
  unfold wz
  repeat' (first | rw[hN] | refine st ?_ | refine As ?_ | refine sb (fun nb_ hnb_=>?_) | refine s2 (fun h=>?_) (fun h=>?_) | fail)
  exact hn oc ol od of ot os _ _ _ _ _ _ _ _ _ _ _ _ _ ho rp rfl rfl rfl rfl rfl rfl rfl
theorem E9{o:Option Nat}{l:List eB}{x:aL}{i:Nat}{us:List W.WR}{L L':SH}{KN:AV→SH→List Nat→Prop}(h0:o=none→l=[])(hl:l.length<2^62)(h2:cW o 2 (l.map eB.enc) L L')(hf:∀z∈us,W.free z ⟨i,[],(ao o 2 (l.map eB.enc)).names,[],true,[]⟩)
  (hk:KN (.int .i64 (bv l x)) (ao o 2 (l.map eB.enc)++L') (ao o 2 (l.map eB.enc)).names):W.dcallM Try.prog us i 33 [au o l.length,.str x] L KN:=
 ⟨ao o 2 (l.map eB.enc),L',h2.perm,hf,(wi o l x h0 hl).mono fun u K ⟨h1,h3⟩=>by subst h1 h3;exact hk⟩
theorem Fa{o:Option Nat}{b6 n i j k:Nat}{rows:List (List AV)}(h:∀b,o=some b→b6≠b):∀z∈[rm i rz,rm j ⟨af (.ptr b6 0 n),[],[],[]⟩],W.free z ⟨k,[],(ao o 2 rows).names,[],true,[]⟩:=by
 intro z hz
 simp only[List.mem_cons,List.not_mem_nil,or_false]at hz
 rcases hz with rfl | rfl
 ·exact⟨nofun,nofun,nofun,nofun,fun _=>rfl⟩
 ·refine⟨nofun,?_,nofun,nofun,fun _=>rfl⟩
  intro c hc
  have:c=b6:=by simpa[rm,af]using hc
  subst this
  cases o with
  | none=>simp[ao,SH.names]
  | some b=>have:=h b rfl;simpa[ao,SH.names]using this
theorem Hf{d:av}(hr:rows[i]? =some d.enc)(hk:1≤d.kind∧d.kind≤6)(hs:d.size≤1000)(hi1:IntKind.i64.wrap ((i:Int)+1)=((i+1:Nat):Int))(ho:wS b6 oc ol od of ot os w)(h1:w.cells.length<2^30)(h2:w.locks.length<2^30)(h3:w.conds.length<2^30)(h4:w.futures.length<2^30)
  (hn:F3 (n18 [.pptr [[.lst rows,.lst tl]] 0 0,.ptr b2 0 0,.ptr b6 0 0,.int .i64 ((i+1:Nat):Int)]) b2 b6 (bZ w d)) :
  gH n18 (wz b2 b6 oc ol od of ot os w) (.pptr [[.lst rows,.lst tl]] 0 0) (.int .i64 i) (.ptr b2 0 0) (.ptr b6 0 0):=by
 obtain⟨kind,line,name,size,init,on⟩:=d
 have hr':rows[i]? =some [.int .i64 kind,.int .i64 line,.str name,.int .i64 size,.int .i64 init,.str on]:=hr
 clear hr
 dsimp only at hk hs
 have hl0:ol=none→w.locks.map eB.enc=[]:=fun e=>by rw[ho.l e];rfl
 have hd0:od=none→w.conds.map mo.enc=[]:=fun e=>by rw[ho.d e];rfl
 have hf0:of=none→w.futures.map az=[]:=fun e=>by rw[ho.f e];rfl
 have hlk:=wi ol w.locks on ho.l (by omega)
 have hc:kind=1∨kind=2∨kind=3∨kind=4∨kind=5∨kind=6:=by omega
 unfold gH
 rcases hc with rfl | rfl | rfl | rfl | rfl | rfl
 ·have hst:bZ w ⟨1,line,name,size,init,on⟩={w with cells:=w.cells++av.celW ⟨1,line,name,size,init,on⟩}:=by unfold bZ;rw[if_pos (.inl rfl)]
  rw[hst]at hn
  have hw:=F4 (.inl rfl) hs hi1 ho h1 hn
  unfold wz at hw ⊢
  repeat' (first | exact hw | refine st ?_ | refine sb (fun nb_ hnb_=>?_) | refine s2 (fun h=>?_) (fun h=>?_) | fail)
 ·have hst:bZ w ⟨2,line,name,size,init,on⟩={w with cells:=w.cells++av.celW ⟨2,line,name,size,init,on⟩}:=by unfold bZ;rw[if_pos (.inr rfl)]
  rw[hst]at hn
  have hw:=F4 (.inr rfl) hs hi1 ho h1 hn
  unfold wz at hw ⊢
  repeat' (first | exact hw | refine st ?_ | refine sb (fun nb_ hnb_=>?_) | refine s2 (fun h=>?_) (fun h=>?_) | fail)
 ·have hst:bZ w ⟨3,line,name,size,init,on⟩={w with locks:=w.locks++[⟨name,decide ((3:Int)=4)⟩]}:=rfl
  rw[hst]at hn
  unfold wz
  repeat' (first | refine st ?_ | refine cI rp rp (by simp) (fun e=>by first | simp[hl0 e]) (by rfl) (by simp) (by simp;omega) (by simp;omega) (by rfl) (fun nb_ hnb_=>?_) | refine sb (fun nb_ hnb_=>?_) | refine s2 (fun h=>?_) (fun h=>?_) | fail)
  exact hn oc (some nb_) od of ot os _ _ _ _ _ _ _ _ _ _ _ _ _ ⟨ho.c,nofun,ho.d,ho.f,ho.t,ho.s,fun b e=>by cases e;rintro rfl;exact hnb_ (by simp[SH.names])⟩ rp (by simp[au]) rfl (by rw[List.map_append];rfl) rfl rfl rfl rfl
 ·have hst:bZ w ⟨4,line,name,size,init,on⟩={w with locks:=w.locks++[⟨name,decide ((4:Int)=4)⟩]}:=rfl
  rw[hst]at hn
  unfold wz
  repeat' (first | refine st ?_ | refine cI rp rp (by simp) (fun e=>by first | simp[hl0 e]) (by rfl) (by simp) (by simp;omega) (by simp;omega) (by rfl) (fun nb_ hnb_=>?_) | refine sb (fun nb_ hnb_=>?_) | refine s2 (fun h=>?_) (fun h=>?_) | fail)
  exact hn oc (some nb_) od of ot os _ _ _ _ _ _ _ _ _ _ _ _ _ ⟨ho.c,nofun,ho.d,ho.f,ho.t,ho.s,fun b e=>by cases e;rintro rfl;exact hnb_ (by simp[SH.names])⟩ rp (by simp[au]) rfl (by rw[List.map_append];rfl) rfl rfl rfl rfl
 ·have hst:bZ w ⟨5,line,name,size,init,on⟩={w with conds:=w.conds++[⟨name,bv w.locks on⟩]}:=rfl
  rw[hst]at hn
  unfold wz
  rcases ol with _ | bl_
  all_goals
   repeat' (first | refine st ?_ | refine cI rp rp (by simp) (fun e=>by first | simp[hd0 e]) (by rfl) (by simp) (by simp;omega) (by simp;omega) (by rfl) (fun nb_ hnb_=>?_) | ((with_reducible refine al 33 ?_);refine E9 ho.l (by omega) rp (Fa ho.n) ?_;dsimp only[um,uo,List.nil_append,List.cons_append]) | refine sb (fun nb_ hnb_=>?_) | refine s2 (fun h=>?_) (fun h=>?_) | fail)
  ·exact hn oc none (some nb_) of ot os _ _ _ _ _ _ _ _ _ _ _ _ _ ⟨ho.c,ho.l,nofun,ho.f,ho.t,ho.s,ho.n⟩ rp (by simp[au]) rfl rfl (by rw[List.map_append];rfl) rfl rfl rfl
  ·exact hn oc (some bl_) (some nb_) of ot os _ _ _ _ _ _ _ _ _ _ _ _ _ ⟨ho.c,ho.l,nofun,ho.f,ho.t,ho.s,ho.n⟩ rp (by simp[au]) rfl rfl (by rw[List.map_append];rfl) rfl rfl rfl
 ·have hst:bZ w ⟨6,line,name,size,init,on⟩={w with futures:=w.futures++[name]}:=rfl
  rw[hst]at hn
  unfold wz
  repeat' (first | refine st ?_ | refine cI rp rp (by simp) (fun e=>by first | simp[hf0 e]) (by rfl) (by simp) (by simp;omega) (by simp;omega) (by rfl) (fun nb_ hnb_=>?_) | refine sb (fun nb_ hnb_=>?_) | refine s2 (fun h=>?_) (fun h=>?_) | fail)
  exact hn oc ol od (some nb_) ot os _ _ _ _ _ _ _ _ _ _ _ _ _ ⟨ho.c,ho.l,ho.d,nofun,ho.t,ho.s,ho.n⟩ rp (by simp[au]) rfl rfl rfl (by rw[List.map_append];rfl) rfl rfl
end
end Go.Proofs.Ytljkdffikfkcgaa.Am
end
section
namespace Go.Proofs.Ytljkdffikfkcgaa.Am
set_option maxRecDepth 100000
set_option maxHeartbeats 2000000
set_option linter.unusedVariables false
def cz(w:bj)(loc:List aL)(v:AV)(site next:Int):Blk:=⟨10,[[.lst (w.cells.map fq.enc),.lst (w.locks.map eB.enc),.lst (w.conds.map mo.enc),.lst (w.futures.map az),.lst (w.threads.map az),.lst (w.sites.map ft.enc),.lst (loc.map az),v,.int .i64 site,.int .i64 next]]⟩
def aw.at_(i:aw)(s:Int):aw:={i with site:=s}
theorem Hg(bg:Nat)(w:bj)(loc:List aL)(o:Option Nat)(out:List aw)(site next:Int)(i:aw)(h0:o=none→out=[])(hl:out.length<2^30):
  am Try.prog 15 [.ptr bg 0 0,.agg i.enc] ((bg,cz w loc (au o out.length) site next)::ao o 6 (out.map aw.enc)) fun u K=>∃(v:AV) (b:Nat),u=v∧v=.tup []∧K=(bg,cz w loc (au (some b) (out.length+1)) site next)::ao (some b) 6 ((out++[i.at_ site]).map aw.enc):=by
 refine am.fz (sK _ _ _ _ ?_)
 unfold jO
 generalize hQ:(fun(v:AV) (L:SH)=>∃v2 L2,aV [v] L [v2] L2∧∃(v:AV) (b:Nat),v2=v∧v=AV.tup []∧L2=(bg,cz w loc (au (some b) (out.length+1)) site next)::ao (some b) 6 ((out++[i.at_ site]).map aw.enc))=Q
 have hq:∀(b:Nat) (L:SH),ez L ((bg,cz w loc (au (some b) (out.length+1)) site next)::ao (some b) 6 (out.map aw.enc++[(i.at_ site).enc]))→Q (.tup []) L:=fun b L h=>by
  subst hQ
  refine⟨_,_,aV.pickE h rfl (R2:=(bg,cz w loc (au (some b) (out.length+1)) site next)::ao (some b) 6 ((out++[i.at_ site]).map aw.enc)) (by rw[List.map_append];rfl),_,b,rfl,rfl,rfl⟩
 clear hQ
 unfold cz at *
 repeat' (first | refine st ?_ | refine cI rp rp (by simp) (fun e=>by first | simp[h0 e]) (by rfl) (by simp) (by simp;omega) (by simp;omega) (by rfl) (fun nb_ hnb_=>?_) | refine sb (fun nb_ hnb_=>?_) | refine s2 (fun h=>?_) (fun h=>?_) | fail)
 cases i
 exact hq nb_ _ (.one (.there _ (.there _ (.there _ (.here _)))) (.one (.here _) (.nil _)))
section
variable {bg:Nat} {w:bj} {loc:List aL} {o:Option Nat} {out:List aw} {site next:Int} {L L1 L2:SH}
theorem cm{i:aw}{KL:R}(h1:dG bg (cz w loc (au o out.length) site next) L L1)(h2:cW o 6 (out.map aw.enc) L1 L2)(h0:o=none→out=[])(hl:out.length<2^30)
  (hq:∀b:Nat,KL (.tup []) ((bg,cz w loc (au (some b) (out++[i.at_ site]).length) site next)::(L2++ao (some b) 6 ((out++[i.at_ site]).map aw.enc)))):W.callM Try.prog 15 [.ptr bg 0 0,.agg i.enc] L KL:=by
 refine kZ (M:=L2) (Hg bg w loc o out site next i h0 hl) (h1.perm.trans (h2.perm.cons _)) ?_
 rintro _ _ ⟨v,b,rfl,rfl,rfl⟩
 refine⟨_,.cons _ List.perm_append_comm,?_⟩
 have:=hq b
 rw[List.length_append]at this
 exact this
end
end Go.Proofs.Ytljkdffikfkcgaa.Am
end
section
namespace Go.Proofs.Ytljkdffikfkcgaa.Am
set_option maxRecDepth 100000
set_option maxHeartbeats 2000000
set_option linter.unusedVariables false
def Hj(f:FuncId)(args:List AV)(w:bj)(loc:List aL)(add:List aw):Prop:=∀(bg:Nat) (o:Option Nat) (out:List aw) (site next:Int),(o=none→out=[])→out.length+add.length<2^30→
 am Try.prog f (.ptr bg 0 0::args) ((bg,cz w loc (au o out.length) site next)::ao o 6 (out.map aw.enc)) fun u K=>∃(v:AV) (o':Option Nat),u=v∧v=.tup []∧(o'=none→out++add.map (·.at_ site)=[])∧K=(bg,cz w loc (au o' (out++add.map (·.at_ site)).length) site next)::ao o' 6 ((out++add.map (·.at_ site)).map aw.enc)
theorem fg{P:Program}{g:FuncId}{args:List AV}{i:Nat}{L:SH}{KN:AV→SH→List Nat→Prop}(h:W.callM P g args L (fun v K=>∀ks,KN v K ks)):W.dcallM P [] i g args L KN:=
 ⟨L,[],by simp,nofun,h.1.mono fun v K' hr=>by simpa using hr _⟩
section
variable {w:bj} {loc:List aL}
theorem fh{f:FuncId}{args:List AV}{add:List aw}{bg:Nat}{o:Option Nat}{out:List aw}{site next:Int}{L L1 L2:SH}{KL:R}(h:Hj f args w loc add)(h1:dG bg (cz w loc (au o out.length) site next) L L1)(h2:cW o 6 (out.map aw.enc) L1 L2)(h0:o=none→out=[])(hl:out.length+add.length<2^30)
  (hq:∀o':Option Nat,(o'=none→out++add.map (·.at_ site)=[])→KL (.tup []) ((bg,cz w loc (au o' (out++add.map (·.at_ site)).length) site next)::(L2++ao o' 6 ((out++add.map (·.at_ site)).map aw.enc)))):W.callM Try.prog f (.ptr bg 0 0::args) L KL:=by
 refine kZ (M:=L2) (h bg o out site next h0 hl) (h1.perm.trans (h2.perm.cons _)) ?_
 rintro _ _ ⟨v,o',rfl,rfl,h3,rfl⟩
 exact⟨_,.cons _ List.perm_append_comm,hq o' h3⟩
inductive dE (w:bj) (loc:List aL):ac→Int→List aw→Prop where
 | num (n:Int) (s:aL) (l:List ac) (d:Int):dE w loc (.mk 1 n s l) d [⟨1,d,0,0,n,0⟩]
 | loc (n:Int) (s:aL) (l:List ac) (d:Int):0≤fJ loc s→dE w loc (.mk 2 n s l) d [⟨2,d,fJ loc s,0,0,0⟩]
 | load (n:Int) (s:aL) (l:List ac) (d:Int):fJ loc s<0→dE w loc (.mk 2 n s l) d [⟨6,d,cQ w.cells s,0,0,0⟩]
 | index (n:Int) (s:aL) (a:ac) (d:Int) (c1:List aw) (b:Nat) (hb:b<w.cells.length):dE w loc a d c1→cQ w.cells s=b→dE w loc (.mk 3 n s [a]) d (c1++[⟨7,d,b,d,w.cells[b].size,0⟩])
 | un (op n:Int) (s:aL) (a:ac) (d:Int) (c1:List aw):op≠1→op≠2→op≠3→dE w loc a d c1→dE w loc (.mk op n s [a]) d (c1++[⟨3,d,d,0,op,0⟩])
 | bin (op n:Int) (s:aL) (a b:ac) (d:Int) (c1 c2:List aw):op≠1→op≠2→op≠3→IntKind.i64.wrap (d+1)=d+1→dE w loc a d c1→dE w loc b (d+1) c2→dE w loc (.mk op n s [a,b]) d (c1++c2++[⟨4,d,d,d+1,op,0⟩])
theorem jy{Q:R}{bg:Nat}{out:List aw}{site next:Int}{add:List aw}
  (hQ:(fun(v:AV) (L:SH)=>∃v2 L2,aV [v] L [v2] L2∧∃(v:AV) (o':Option Nat),v2=v∧v=.tup []∧(o'=none→out++add.map (·.at_ site)=[])∧L2=(bg,cz w loc (au o' (out++add.map (·.at_ site)).length) site next)::ao o' 6 ((out++add.map (·.at_ site)).map aw.enc))=Q)
  (o':Option Nat) (out':List aw) (L:SH) (h:ez L ((bg,cz w loc (au o' out'.length) site next)::ao o' 6 (out'.map aw.enc))) (he:out'=out++add.map (·.at_ site)) (hn:o'=none→out'=[]):Q (.tup []) L:=by
 subst hQ he
 exact⟨_,_,aV.pick h rfl,_,o',rfl,rfl,hn,rfl⟩
theorem fu(hw:w.cells.length<2^40)(hlo:loc.length<2^40){e:ac}{d:Int}{c:List aw}(h:dE w loc e d c):Hj 51 [.agg e.row,.int .i64 d] w loc c:=by
 induction h with
 | num n s l d=>
  intro bg o out site next h0 hl
  refine am.fz (bY _ _ _ _ _ ?_)
  unfold bM ac.row
  generalize hQ:(fun(v:AV) (L:SH)=>∃v2 L2,aV [v] L [v2] L2∧∃(v:AV) (o':Option Nat),_)=Q
  have fin:=jy hQ
  clear hQ
  repeat' (first | refine st ?_ | ((with_reducible refine aq 15 ?_);(refine cm (i:=⟨1,d,0,0,n,0⟩) rp rp h0 (by simp at hl;omega) (fun b_=>?_))) | refine sb (fun nb_ hnb_=>?_) | refine s2 (fun h=>?_) (fun h=>?_) | fail)
  exact fin _ _ _ (.one (.here _) (.slotl .last)) rfl nofun
 | load n s l d hs=>
  intro bg o out site next h0 hl
  refine am.fz (bY _ _ _ _ _ ?_)
  unfold bM ac.row
  generalize hQ:(fun(v:AV) (L:SH)=>∃v2 L2,aV [v] L [v2] L2∧∃(v:AV) (o':Option Nat),_)=Q
  have fin:=jy hQ
  clear hQ
  have dn:decide (fJ loc s≥0)=false:=by simp;omega
  have ha:=fK loc s (by omega)
  have hc:=k9 w s (by omega)
  repeat' (first | refine st ?_ | ((with_reducible refine aq 15 ?_);(refine cm (i:=⟨6,d,cQ w.cells s,0,0,0⟩) rp rp h0 (by simp at hl;omega) (fun b_=>?_))) | ((with_reducible refine al 15 ?_);refine fg ?_;refine cm (i:=⟨6,d,cQ w.cells s,0,0,0⟩) rp rp h0 (by simp at hl;omega) (fun b_ ks_=>?_)) | ((with_reducible refine aq 45 ?_);refine aj (ha) ?_) | ((with_reducible refine al 45 ?_);refine ab (ha) ?_) | ((with_reducible refine aq 68 ?_);refine aj (hc) ?_) | ((with_reducible refine al 68 ?_);refine ab (hc) ?_) | refine sb (fun nb_ hnb_=>?_) | refine s2 (fun h=>?_) (fun h=>?_) | fail)
  exact fin _ _ _ (.one (.here _) (.slotl .last)) rfl nofun
 | loc n s l d hs=>
  intro bg o out site next h0 hl
  refine am.fz (bY _ _ _ _ _ ?_)
  unfold bM ac.row
  generalize hQ:(fun(v:AV) (L:SH)=>∃v2 L2,aV [v] L [v2] L2∧∃(v:AV) (o':Option Nat),_)=Q
  have fin:=jy hQ
  clear hQ
  have dn:decide (fJ loc s≥0)=true:=by simp;omega
  have ha:=fK loc s (by omega)
  repeat' (first | refine st ?_ | ((with_reducible refine aq 15 ?_);(refine cm (i:=⟨2,d,fJ loc s,0,0,0⟩) rp rp h0 (by simp at hl;omega) (fun b_=>?_))) | ((with_reducible refine aq 45 ?_);refine aj (ha) ?_) | ((with_reducible refine al 45 ?_);refine ab (ha) ?_) | refine sb (fun nb_ hnb_=>?_) | refine s2 (fun h=>?_) (fun h=>?_) | fail)
  exact fin _ _ _ (.one (.here _) (.slotl .last)) rfl nofun
 | un op n s a d c1 n1 n2 n3 hv ih=>
  intro bg o out site next h0 hl
  refine am.fz (bY _ _ _ _ _ ?_)
  unfold bM ac.row
  generalize hQ:(fun(v:AV) (L:SH)=>∃v2 L2,aV [v] L [v2] L2∧∃(v:AV) (o':Option Nat),_)=Q
  have fin:=jy hQ
  clear hQ
  simp only[List.length_append,List.length_cons,List.length_nil]at hl
  have d1:decide (op=1)=false:=by simpa using n1
  have d2:decide (op=2)=false:=by simpa using n2
  have d3:decide (op=3)=false:=by simpa using n3
  have hx:([a].map ac.enc)[0]? =some a.row:=by simp[ac.enc_row]
  repeat' (first | refine st ?_ | ((with_reducible refine aq 51 ?_);(refine fh ih rp rp h0 (by omega) (fun o_ ho_=>?_))) | ((with_reducible refine aq 15 ?_);(refine cm (i:=⟨3,d,d,0,op,0⟩) rp rp (by assumption) (by simp;omega) (fun b_=>?_))) | refine sb (fun nb_ hnb_=>?_) | refine s2 (fun h=>?_) (fun h=>?_) | fail)
  exact fin _ _ _ (.one (.here _) (.slotl .last)) (by simp[List.append_assoc]) nofun
 | bin op n s a b d c1 c2 n1 n2 n3 hd hv hv2 ih ih2=>
  intro bg o out site next h0 hl
  refine am.fz (bY _ _ _ _ _ ?_)
  unfold bM ac.row
  generalize hQ:(fun(v:AV) (L:SH)=>∃v2 L2,aV [v] L [v2] L2∧∃(v:AV) (o':Option Nat),_)=Q
  have fin:=jy hQ
  clear hQ
  simp only[List.length_append,List.length_cons,List.length_nil]at hl
  have d1:decide (op=1)=false:=by simpa using n1
  have d2:decide (op=2)=false:=by simpa using n2
  have d3:decide (op=3)=false:=by simpa using n3
  have hx:([a,b].map ac.enc)[0]? =some a.row:=by simp[ac.enc_row]
  have hx2:([a,b].map ac.enc)[1]? =some b.row:=by simp[ac.enc_row]
  repeat' (first | refine dm (b9 ?_ hd) | refine st ?_ | ((with_reducible refine aq 51 ?_);(refine fh ih rp rp (by assumption) (by simp;omega) (fun o_ ho_=>?_))) | ((with_reducible refine aq 51 ?_);(refine fh ih2 rp rp (by assumption) (by simp;omega) (fun o_ ho_=>?_))) | ((with_reducible refine aq 15 ?_);(refine cm (i:=⟨4,d,d,d+1,op,0⟩) rp rp (by assumption) (by simp;omega) (fun b_=>?_))) | refine sb (fun nb_ hnb_=>?_) | refine s2 (fun h=>?_) (fun h=>?_) | fail)
  exact fin _ _ _ (.one (.here _) (.slotl .last)) (by simp[List.append_assoc]) nofun
 | index n s a d c1 b hb hv hcb ih=>
  intro bg o out site next h0 hl
  refine am.fz (bY _ _ _ _ _ ?_)
  unfold bM ac.row
  generalize hQ:(fun(v:AV) (L:SH)=>∃v2 L2,aV [v] L [v2] L2∧∃(v:AV) (o':Option Nat),_)=Q
  have fin:=jy hQ
  clear hQ
  simp only[List.length_append,List.length_cons,List.length_nil]at hl
  have hx:([a].map ac.enc)[0]? =some a.row:=by simp[ac.enc_row]
  have hc:=k9 w s (by omega)
  rw[hcb]at hc
  have hxc:=aC (f:=fq.enc) hb
  repeat' (first | refine st ?_ | ((with_reducible refine aq 51 ?_);(refine fh ih rp rp (by assumption) (by simp;omega) (fun o_ ho_=>?_))) | ((with_reducible refine aq 68 ?_);refine aj (hc) ?_) | ((with_reducible refine al 68 ?_);refine ab (hc) ?_) | ((with_reducible refine aq 15 ?_);(refine cm (i:=⟨7,d,b,d,w.cells[b].size,0⟩) rp rp (by assumption) (by simp;omega) (fun b_=>?_))) | refine sb (fun nb_ hnb_=>?_) | refine s2 (fun h=>?_) (fun h=>?_) | fail)
  exact fin _ _ _ (.one (.here _) (.slotl .last)) (by simp[List.append_assoc]) nofun
end
end Go.Proofs.Ytljkdffikfkcgaa.Am
end
section
namespace Go.Proofs.Ytljkdffikfkcgaa.Am
set_option maxRecDepth 100000
set_option maxHeartbeats 2000000
set_option linter.unusedVariables false
section
variable {w:bj} {loc:List aL}
inductive yc (w:bj) (loc:List aL):aa→List aw→Prop where
 | idx (op line:Int) (s arg:aL) (i e:ac) (rest:List ac) (body els:List aa) (c1 c2:List aw) (b:Nat) (hb:b<w.cells.length):dE w loc i loc.length c1→dE w loc e ((loc.length:Int)+1) c2→cQ w.cells s=b→yc w loc (.mk op line s arg (i::rest) e body els) (c1++c2++[⟨9,b,(loc.length:Int)+1,loc.length,w.cells[b].size,0⟩])
 | loc (op line:Int) (s arg:aL) (e:ac) (body els:List aa) (c:List aw):dE w loc e loc.length c→0≤fJ loc s→yc w loc (.mk op line s arg [] e body els) (c++[⟨2,fJ loc s,loc.length,0,0,0⟩])
 | store (op line:Int) (s arg:aL) (e:ac) (body els:List aa) (c:List aw):dE w loc e loc.length c→fJ loc s<0→yc w loc (.mk op line s arg [] e body els) (c++[⟨8,cQ w.cells s,loc.length,0,0,0⟩])
theorem Hk(hw:w.cells.length<2^40)(hlo:loc.length<2^40){x:aa}{c:List aw}(h:yc w loc x c):Hj 47 [.agg x.row] w loc c:=by
 intro bg o out site next h0 hl
 have hk:IntKind.i64.wrap ((loc.length:Int)+1)=(loc.length:Int)+1:=by rw[IntWalk.i64_in _ (by omega)]
 refine am.fz (mi _ _ _ _ ?_)
 unfold gK aa.row
 generalize hQ:(fun(v:AV) (L:SH)=>∃v2 L2,aV [v] L [v2] L2∧∃(v:AV) (o':Option Nat),_)=Q
 have fin:=jy hQ
 clear hQ
 cases h with
 | idx op line s arg i e rest body els c1 c2 b hb hv1 hv2 hcb=>
  have v1:=fu hw hlo hv1
  have v2:=fu hw hlo hv2
  simp only[List.length_append,List.length_cons,List.length_nil]at hl
  have dl:decide ((0:Int)<((i::rest).length:Int))=true:=by simp
  have hx:((i::rest).map ac.enc)[0]? =some i.row:=by simp[ac.enc_row]
  have hc:=k9 w s (by omega)
  rw[hcb]at hc
  have hxc:=aC (f:=fq.enc) hb
  repeat' (first | refine dm (b9 ?_ hk) | refine st ?_ | ((with_reducible refine aq 51 ?_);(refine fh v1 rp rp (by assumption) (by simp;omega) (fun o_ ho_=>?_))) | ((with_reducible refine aq 51 ?_);(refine fh v2 rp rp (by assumption) (by simp;omega) (fun o_ ho_=>?_))) | ((with_reducible refine aq 68 ?_);refine aj (hc) ?_) | ((with_reducible refine al 68 ?_);refine ab (hc) ?_) | ((with_reducible refine aq 15 ?_);(refine cm (i:=⟨9,b,(loc.length:Int)+1,loc.length,w.cells[b].size,0⟩) rp rp (by assumption) (by simp;omega) (fun b_=>?_))) | refine sb (fun nb_ hnb_=>?_) | fail)
  exact fin _ _ _ (.one (.here _) (.slotl .last)) (by simp[List.append_assoc]) nofun
 | loc op line s arg e body els c hv hs=>
  have v1:=fu hw hlo hv
  simp only[List.length_append,List.length_cons,List.length_nil]at hl
  have dn:decide (fJ loc s≥0)=true:=by simp;omega
  have ha:=fK loc s (by omega)
  repeat' (first | refine st ?_ | ((with_reducible refine aq 51 ?_);(refine fh v1 rp rp (by assumption) (by omega) (fun o_ ho_=>?_))) | ((with_reducible refine aq 45 ?_);refine aj (ha) ?_) | ((with_reducible refine al 45 ?_);refine ab (ha) ?_) | ((with_reducible refine aq 15 ?_);(refine cm (i:=⟨2,fJ loc s,loc.length,0,0,0⟩) rp rp (by assumption) (by simp;omega) (fun b_=>?_))) | refine sb (fun nb_ hnb_=>?_) | fail)
  exact fin _ _ _ (.one (.here _) (.slotl .last)) (by simp[List.append_assoc]) nofun
 | store op line s arg e body els c hv hs=>
  have v1:=fu hw hlo hv
  simp only[List.length_append,List.length_cons,List.length_nil]at hl
  have dn:decide (fJ loc s≥0)=false:=by simp;omega
  have ha:=fK loc s (by omega)
  have hc:=k9 w s (by omega)
  repeat' (first | refine st ?_ | ((with_reducible refine aq 51 ?_);(refine fh v1 rp rp (by assumption) (by omega) (fun o_ ho_=>?_))) | ((with_reducible refine aq 45 ?_);refine aj (ha) ?_) | ((with_reducible refine al 45 ?_);refine ab (ha) ?_) | ((with_reducible refine aq 68 ?_);refine aj (hc) ?_) | ((with_reducible refine al 68 ?_);refine ab (hc) ?_) | ((with_reducible refine al 15 ?_);refine fg ?_;refine cm (i:=⟨8,cQ w.cells s,loc.length,0,0,0⟩) rp rp (by assumption) (by simp;omega) (fun b_ ks_=>?_)) | refine sb (fun nb_ hnb_=>?_) | fail)
  exact fin _ _ _ (.one (.here _) (.slotl .last)) (by simp[List.append_assoc]) nofun
end
end Go.Proofs.Ytljkdffikfkcgaa.Am
end
section
namespace Go.Proofs.Ytljkdffikfkcgaa.Am
set_option maxRecDepth 100000
set_option maxHeartbeats 2000000
set_option linter.unusedVariables false
theorem yd(bg:Nat)(w:bj)(loc:List aL)(v:AV)(site next:Int)(s:aL)(hl:w.conds.length<2^62):
  am Try.prog 50 [.ptr bg 0 0,.str s] [(bg,cz w loc v site next)] fun u K=>u=.int .i64 (da w.conds s)∧K=[(bg,cz w loc v site next)]:=by
 refine rb _ _ _ _ ?_
 unfold i4
 refine cJ w.conds (fun x=>decide (x.name=s)) (fun i=>[.ptr bg 0 0,.str s,.int .i64 i]) hl rfl (fun i h1 hd hi hno nx hn=>?_) (fun i h1 hd hno nx=>?_)
 all_goals unfold ik
 ·have hx:=aC (f:=mo.enc) h1
  unfold cz at *
  repeat' (first | refine st ?_ | refine sb (fun nb_ hnb_=>?_) | refine s2 (fun h=>?_) (fun h=>?_) | fail)
  ·exact⟨by rw[da,gh h1 hno h],rfl⟩
  ·exact hn h
 ·unfold cz at *
  repeat' (first | refine st ?_ | refine sb (fun nb_ hnb_=>?_) | refine s2 (fun h=>?_) (fun h=>?_) | fail)
  exact⟨by rw[da,eq hno],rfl⟩
end Go.Proofs.Ytljkdffikfkcgaa.Am
end
section
namespace Go.Proofs.Ytljkdffikfkcgaa.Am
set_option linter.unusedVariables false
def aA(c:List aw)(s:Nat):List aw:=c.map (·.at_ (s:Int))
def zH(w:bj)(op:Int)(s:aL):Option (Int×Int×Int):=
 if op=4 then some (11,12,bv w.locks s)else
 if op=5 then some (13,14,bv w.locks s)else
 if op=6 then some (15,16,bv w.locks s)else
 if op=7 then some (17,18,0)else
 if op=8 then some (19,20,0)else none
def DP(w:bj)(loc:List aL)(op:Int)(s arg:aL):Option aw:=
 if op=9 then some ⟨21,da w.conds s,0,0,0,0⟩else
 if op=10 then some ⟨22,da w.conds s,0,0,0,0⟩else
 if op=11 then some ⟨23,da w.conds s,0,0,0,0⟩else
 if op=12 then some ⟨24,fJ w.threads s,0,0,0,0⟩else
 if op=13 then some ⟨25,fJ w.threads s,0,0,0,0⟩else
 if op=15 then some ⟨27,fJ loc s,fJ w.futures arg,0,0,0⟩else none
mutual
inductive Ay (w:bj) (loc:List aL):aa→Nat→Nat→List aw→Nat→Prop where
 | asg (line:Int) (s arg:aL) (ix:List ac) (e:ac) (body els:List aa) (c:List aw) (n b:Nat):yc w loc (.mk 1 line s arg ix e body els) c→Ay w loc (.mk 1 line s arg ix e body els) n b (aA c n) (n+1)
 | if1 (line:Int) (s arg:aL) (ix:List ac) (e:ac) (body:List aa) (ce cb:List aw) (n b n2:Nat):dE w loc e loc.length ce→StsC w loc body (n+1) (b+ce.length+1) cb n2→Ay w loc (.mk 2 line s arg ix e body []) n b (aA (ce++[⟨10,loc.length,((b+ce.length+1+cb.length:Nat):Int),0,0,0⟩]) n++cb) n2
 | if2 (line:Int) (s arg:aL) (ix:List ac) (e:ac) (body:List aa) (y:aa) (els:List aa) (ce cb cl:List aw) (n b n2 n3:Nat):dE w loc e loc.length ce→StsC w loc body (n+1) (b+ce.length+1) cb n2→StsC w loc (y::els) n2 (b+ce.length+1+cb.length+1) cl n3→
   Ay w loc (.mk 2 line s arg ix e body (y::els)) n b (aA (ce++[⟨10,loc.length,((b+ce.length+1+cb.length+1:Nat):Int),0,0,0⟩]) n++cb++aA [⟨5,((b+ce.length+1+cb.length+1+cl.length:Nat):Int),0,0,0,0⟩] n++cl) n3
 | while (line:Int) (s arg:aL) (ix:List ac) (e:ac) (body els:List aa) (ce cb:List aw) (n b n2:Nat):dE w loc e loc.length ce→StsC w loc body (n+1) (b+ce.length+1) cb n2→Ay w loc (.mk 3 line s arg ix e body els) n b (aA (ce++[⟨10,loc.length,((b+ce.length+1+cb.length+1:Nat):Int),0,0,0⟩]) n++cb++aA [⟨5,(b:Int),0,0,0,0⟩] n) n2
 | arnd (op line:Int) (s arg:aL) (ix:List ac) (e:ac) (body els:List aa) (f l ob:Int) (cb:List aw) (n b n2:Nat):zH w op s=some (f,l,ob)→StsC w loc body (n+1) (b+1) cb n2→Ay w loc (.mk op line s arg ix e body els) n b (aA [⟨f,ob,0,0,0,0⟩] n++cb++aA [⟨l,ob,0,0,0,0⟩] n) n2
 | one (op line:Int) (s arg:aL) (ix:List ac) (e:ac) (body els:List aa) (i:aw) (n b:Nat):DP w loc op s arg=some i→Ay w loc (.mk op line s arg ix e body els) n b (aA [i] n) (n+1)
 | set (line:Int) (s arg:aL) (ix:List ac) (e:ac) (body els:List aa) (ce:List aw) (n b:Nat):dE w loc e loc.length ce→Ay w loc (.mk 14 line s arg ix e body els) n b (aA (ce++[⟨26,fJ w.futures s,loc.length,0,0,0⟩]) n) (n+1)
inductive StsC (w:bj) (loc:List aL):List aa→Nat→Nat→List aw→Nat→Prop where
 | nil (n b:Nat):StsC w loc [] n b [] n
 | cons (x:aa) (l:List aa) (c1 c2:List aw) (n b n1 n2:Nat):Ay w loc x n b c1 n1→StsC w loc l n1 (b+c1.length) c2 n2→StsC w loc (x::l) n b (c1++c2) n2
end
section
variable {w:bj} {loc:List aL}
theorem ye {M1 : aa → Nat → Nat → List aw → Nat → Prop} {M2 : List aa → Nat → Nat → List aw → Nat → Prop}
    (asg:∀(line:Int) (s arg:aL) (ix:List ac) (e:ac) (body els:List aa) (c:List aw) (n b:Nat),yc w loc (.mk 1 line s arg ix e body els) c→M1 (.mk 1 line s arg ix e body els) n b (aA c n) (n+1))
    (if1:∀(line:Int) (s arg:aL) (ix:List ac) (e:ac) (body:List aa) (ce cb:List aw) (n b n2:Nat),dE w loc e loc.length ce→StsC w loc body (n+1) (b+ce.length+1) cb n2→M2 body (n+1) (b+ce.length+1) cb n2→M1 (.mk 2 line s arg ix e body []) n b (aA (ce++[⟨10,loc.length,((b+ce.length+1+cb.length:Nat):Int),0,0,0⟩]) n++cb) n2)
    (if2:∀(line:Int) (s arg:aL) (ix:List ac) (e:ac) (body:List aa) (y:aa) (els:List aa) (ce cb cl:List aw) (n b n2 n3:Nat),dE w loc e loc.length ce→StsC w loc body (n+1) (b+ce.length+1) cb n2→StsC w loc (y::els) n2 (b+ce.length+1+cb.length+1) cl n3→M2 body (n+1) (b+ce.length+1) cb n2→M2 (y::els) n2 (b+ce.length+1+cb.length+1) cl n3→
      M1 (.mk 2 line s arg ix e body (y::els)) n b (aA (ce++[⟨10,loc.length,((b+ce.length+1+cb.length+1:Nat):Int),0,0,0⟩]) n++cb++aA [⟨5,((b+ce.length+1+cb.length+1+cl.length:Nat):Int),0,0,0,0⟩] n++cl) n3)
    (whi:∀(line:Int) (s arg:aL) (ix:List ac) (e:ac) (body els:List aa) (ce cb:List aw) (n b n2:Nat),dE w loc e loc.length ce→StsC w loc body (n+1) (b+ce.length+1) cb n2→M2 body (n+1) (b+ce.length+1) cb n2→M1 (.mk 3 line s arg ix e body els) n b (aA (ce++[⟨10,loc.length,((b+ce.length+1+cb.length+1:Nat):Int),0,0,0⟩]) n++cb++aA [⟨5,(b:Int),0,0,0,0⟩] n) n2)
    (arnd:∀(op line:Int) (s arg:aL) (ix:List ac) (e:ac) (body els:List aa) (f l ob:Int) (cb:List aw) (n b n2:Nat),zH w op s=some (f,l,ob)→StsC w loc body (n+1) (b+1) cb n2→M2 body (n+1) (b+1) cb n2→M1 (.mk op line s arg ix e body els) n b (aA [⟨f,ob,0,0,0,0⟩] n++cb++aA [⟨l,ob,0,0,0,0⟩] n) n2)
    (one:∀(op line:Int) (s arg:aL) (ix:List ac) (e:ac) (body els:List aa) (i:aw) (n b:Nat),DP w loc op s arg=some i→M1 (.mk op line s arg ix e body els) n b (aA [i] n) (n+1))
    (set:∀(line:Int) (s arg:aL) (ix:List ac) (e:ac) (body els:List aa) (ce:List aw) (n b:Nat),dE w loc e loc.length ce→M1 (.mk 14 line s arg ix e body els) n b (aA (ce++[⟨26,fJ w.futures s,loc.length,0,0,0⟩]) n) (n+1))
    (nil:∀(n b:Nat),M2 [] n b [] n)
    (cons:∀(x:aa) (l:List aa) (c1 c2:List aw) (n b n1 n2:Nat),Ay w loc x n b c1 n1→StsC w loc l n1 (b+c1.length) c2 n2→M1 x n b c1 n1→M2 l n1 (b+c1.length) c2 n2→M2 (x::l) n b (c1++c2) n2) :
    (∀{x n b c n2},Ay w loc x n b c n2→M1 x n b c n2)∧∀{l n b c n2},StsC w loc l n b c n2→M2 l n b c n2:=
  ⟨fun h=>Ay.rec (motive_1:=fun x n b c n2 _=>M1 x n b c n2) (motive_2:=fun x n b c n2 _=>M2 x n b c n2) asg if1 if2 whi arnd one set nil cons h,
   fun h=>StsC.rec (motive_1:=fun x n b c n2 _=>M1 x n b c n2) (motive_2:=fun x n b c n2 _=>M2 x n b c n2) asg if1 if2 whi arnd one set nil cons h⟩
end
end Go.Proofs.Ytljkdffikfkcgaa.Am
end
section
namespace Go.Proofs.Ytljkdffikfkcgaa.Am
set_option maxRecDepth 100000
set_option maxHeartbeats 2000000
set_option linter.unusedVariables false
def c7(f:FuncId)(args:List AV)(w:bj)(loc:List aL)(n b:Nat)(c:List aw)(n2:Nat):Prop:=∀(bg:Nat) (o:Option Nat) (out:List aw) (site:Int),(o=none→out=[])→out.length=b→b+c.length<2^30→n2<2^30→
 am Try.prog f (.ptr bg 0 0::args) ((bg,cz w loc (au o out.length) site n)::ao o 6 (out.map aw.enc)) fun u K=>∃(v:AV) (o':Option Nat) (site':Int),u=v∧v=.tup []∧(o'=none→out++c=[])∧K=(bg,cz w loc (au o' (out++c).length) site' n2)::ao o' 6 ((out++c).map aw.enc)
section
variable {w:bj} {loc:List aL}
theorem pu{f:FuncId}{args:List AV}{c:List aw}{bg b n n2:Nat}{o:Option Nat}{out:List aw}{site:Int}{L L1 L2:SH}{KL:R}(h:c7 f args w loc n b c n2)(h1:dG bg (cz w loc (au o out.length) site n) L L1)(h2:cW o 6 (out.map aw.enc) L1 L2)(h0:o=none→out=[])(hb:out.length=b)(hl:b+c.length<2^30)(hn:n2<2^30)
  (hq:∀(o':Option Nat) (site':Int),(o'=none→out++c=[])→KL (.tup []) ((bg,cz w loc (au o' (out++c).length) site' n2)::(L2++ao o' 6 ((out++c).map aw.enc)))):W.callM Try.prog f (.ptr bg 0 0::args) L KL:=by
 refine kZ (M:=L2) (h bg o out site h0 hb hl hn) (h1.perm.trans (h2.perm.cons _)) ?_
 rintro _ _ ⟨v,o',site',rfl,rfl,h3,rfl⟩
 exact⟨_,.cons _ List.perm_append_comm,hq o' site' h3⟩
theorem cu{Q:R}{bg:Nat}{out:List aw}{c:List aw}{n2:Nat}
  (hQ:(fun(v:AV) (L:SH)=>∃v2 L2,aV [v] L [v2] L2∧∃(v:AV) (o':Option Nat) (site':Int),v2=v∧v=.tup []∧(o'=none→out++c=[])∧L2=(bg,cz w loc (au o' (out++c).length) site' n2)::ao o' 6 ((out++c).map aw.enc))=Q)
  (o':Option Nat) (out':List aw) (site':Int) (L:SH) (h:ez L ((bg,cz w loc (au o' out'.length) site' n2)::ao o' 6 (out'.map aw.enc))) (he:out'=out++c) (hn:o'=none→out'=[]):Q (.tup []) L:=by
 subst hQ he
 exact⟨_,_,aV.pick h rfl,_,o',site',rfl,rfl,hn,rfl⟩
theorem i6(bg:Nat)(o:Option Nat)(out:List aw)(n m n2:Nat)(op line:Int)(s arg:aL)(ix:List ac)(e:ac)(body els:List aa)(f l ob:Int)(cb:List aw)(h0:o=none→out=[])(hB:c7 14 [.lst (body.map aa.enc)] w loc m (out.length+1) cb n2)(hl:out.length+1+cb.length+1<2^30)(hn:n2<2^30):
  am Try.prog 49 [.ptr bg 0 0,.agg (aa.mk op line s arg ix e body els).row,.int .i64 f,.int .i64 l,.int .i64 ob] ((bg,cz w loc (au o out.length) n m)::ao o 6 (out.map aw.enc)) fun u K=>∃(v:AV) (o':Option Nat) (site':Int),u=v∧v=.tup []∧(o'=none→out++(aA [⟨f,ob,0,0,0,0⟩] n++cb++aA [⟨l,ob,0,0,0,0⟩] n)=[])∧K=(bg,cz w loc (au o' (out++(aA [⟨f,ob,0,0,0,0⟩] n++cb++aA [⟨l,ob,0,0,0,0⟩] n)).length) site' n2)::ao o' 6 ((out++(aA [⟨f,ob,0,0,0,0⟩] n++cb++aA [⟨l,ob,0,0,0,0⟩] n)).map aw.enc):=by
 refine am.fz (mn _ _ _ _ _ _ _ ?_)
 unfold gL aa.row
 generalize hQ:(fun(v:AV) (L:SH)=>∃v2 L2,aV [v] L [v2] L2∧∃(v:AV) (o':Option Nat) (site':Int),_)=Q
 have fin:=cu hQ
 clear hQ
 repeat' (first | refine st ?_ | ((with_reducible refine aq 15 ?_);(first | (refine cm (i:=⟨f,ob,0,0,0,0⟩) (site:=(n:Int)) (next:=(m:Int)) rp rp h0 (by omega) (fun b_=>?_)) | (refine cm (i:=⟨l,ob,0,0,0,0⟩) rp rp (by assumption) (by simp;omega) (fun b_=>?_)) | fail)) | ((with_reducible refine aq 14 ?_);(refine pu hB rp rp (fun e_=>by cases e_) (by simp) (by omega) hn (fun o_ s_ ho_=>?_))) | refine sb (fun nb_ hnb_=>?_) | fail)
 exact fin _ _ _ _ (.one (.here _) (.slotl .last)) (by simp[aA,List.append_assoc]) nofun
end
end Go.Proofs.Ytljkdffikfkcgaa.Am
end
section
namespace Go.Proofs.Ytljkdffikfkcgaa.Am
set_option maxRecDepth 100000
set_option maxHeartbeats 2000000
set_option linter.unusedVariables false
theorem uq{b N off m m2:Nat}{kd:IntKind}{k:Nat}{out out2 A B:List aw}{i j:aw}{v:AV}{L:SH}{g:Nat×Blk}{KS:SH→Fp→Prop}
  (e1:out=A++[i]++B) (e2:out2=A++[j]++B) (hk:k=A.length) (hL:L=(g::ao (some b) 6 (out.map aw.enc))) (hN:N=out.length) (he:i.enc.set off v=j.enc) (ho:off<6) (hv:v.cells? =some [v]) (h1:v.one=true)
  (kk:∀r,KS (g::ao (some b) 6 (out2.map aw.enc)) r):di [] m 6 (au (some b) N) (.int kd (k:Int)) L fun x r=>W.faddr off x fun y=>ds [] m2 1 y v L KS:=by
 subst e1 e2 hk hN hL
 refine Gr (xI (cR (mX (rO (In (xI ?_))) ) (by simp only[List.length_append,List.length_cons,List.length_nil];omega) (.tail _ (.head _)) rfl))
 refine s7 (x:=⟨6,(A++[i]++B).map aw.enc⟩) (r:=i.enc) (x':=⟨6,(A++[j]++B).map aw.enc⟩) (.there _ (.here _)) ?_ hv h1 (by simpa[aw.enc]using ho) ?_ (mX (kk _))
 ·rw[List.getElem?_map,List.append_assoc,List.getElem?_append_right (Nat.le_refl _),Nat.sub_self];rfl
 ·congr 1
  rw[Nat.zero_add,he,List.map_append,List.map_append,List.map_append,List.map_append,List.append_assoc,List.append_assoc,List.set_append_right _ _ (by simp),List.length_map,Nat.sub_self]
  rfl
section
variable {w:bj} {loc:List aL}
theorem Fb{f:FuncId}{args:List AV}{c:List aw}{bg b n n2 k:Nat}{o:Option Nat}{out:List aw}{site:Int}{L L1 L2:SH}{KL:R}(h:c7 f args w loc n b c n2)(h1:dG bg (cz w loc (au o k) site n) L L1)(h2:cW o 6 (out.map aw.enc) L1 L2)(hk:k=out.length)(h0:o=none→out=[])(hb:out.length=b)(hl:b+c.length<2^30)(hn:n2<2^30)
  (hq:∀(o':Option Nat) (site':Int),(o'=none→out++c=[])→KL (.tup []) ((bg,cz w loc (au o' (out++c).length) site' n2)::(L2++ao o' 6 ((out++c).map aw.enc)))):W.callM Try.prog f (.ptr bg 0 0::args) L KL:=by
 subst hk
 exact pu h h1 h2 h0 hb hl hn hq
theorem DQ(hw:w.cells.length<2^40)(hlo:loc.length<2^40)(bg:Nat)(o:Option Nat)(out:List aw)(n m n2:Nat)(line:Int)(s arg:aL)(ix:List ac)(e:ac)(body els:List aa)(ce cb:List aw)(h0:o=none→out=[])(hv:dE w loc e loc.length ce)(hB:c7 14 [.lst (body.map aa.enc)] w loc m (out.length+ce.length+1) cb n2)(hl:out.length+ce.length+1+cb.length+1<2^30)(hn:n2<2^30){Q:R}
  (fin:∀(o':Option Nat) (out':List aw) (site':Int) (L:SH),ez L ((bg,cz w loc (au o' out'.length) site' n2)::ao o' 6 (out'.map aw.enc))→out'=out++(aA (ce++[⟨10,loc.length,((out.length+ce.length+1+cb.length+1:Nat):Int),0,0,0⟩]) n++cb++aA [⟨5,(out.length:Int),0,0,0,0⟩] n)→(o'=none→out'=[])→Q (.tup []) L) :
  bn (.ptr bg 0 0) (.agg (aa.mk 3 line s arg ix e body els).row) ((bg,cz w loc (au o out.length) n m)::ao o 6 (out.map aw.enc)) Q:=by
 have v1:=fu hw hlo hv
 have fin2:∀(o':Option Nat) (out':List aw) (site':Int) (k:Nat) (L:SH),ez L ((bg,cz w loc (au o' k) site' n2)::ao o' 6 (out'.map aw.enc))→k=out'.length→out'=out++(aA (ce++[⟨10,loc.length,((out.length+ce.length+1+cb.length+1:Nat):Int),0,0,0⟩]) n++cb++aA [⟨5,(out.length:Int),0,0,0,0⟩] n)→(o'=none→out'=[])→Q (.tup []) L:=fun o' out' site' k L h1 h2 h3 h4=>by subst h2;exact fin o' out' site' L h1 h3 h4
 clear fin
 unfold bn aa.row
 repeat' (first | (with_reducible refine uq (A:=out++ce.map (fun x=>x.at_ (n:Int))) (i:=aw.at_ ⟨10,loc.length,0,0,0,0⟩ n) (B:=cb++[aw.at_ ⟨5,out.length,0,0,0,0⟩ n]) (j:=aw.at_ ⟨10,loc.length,((out.length+ce.length+1+cb.length+1:Nat):Int),0,0,0⟩ n) (by simp) rfl (by simp) rfl rfl (by simp[aw.enc,aw.at_];omega) (by decide) rfl rfl (fun r_=>?_)) | refine st ?_ | refine kY ?_ (fun e_=>by first | (rw[h0 e_];rfl) | (rw[ho_ e_];rfl) | (cases e_;done) | fail) | ((with_reducible refine al 51 ?_);refine fg ?_;refine fh v1 (site:=(n:Int)) (next:=(m:Int)) rp rp h0 (by omega) (fun o_ ho_ ks_=>?_)) | ((with_reducible refine aq 15 ?_);(first | (refine cm (i:=⟨10,loc.length,0,0,0,0⟩) rp rp (by assumption) (by simp;omega) (fun b_=>?_)) | (refine cm (i:=⟨5,out.length,0,0,0,0⟩) rp rp (by assumption) (by simp;omega) (fun b_=>?_)) | fail)) | ((with_reducible refine aq 14 ?_);(refine pu hB rp rp (fun e_=>by cases e_) (by simp;omega) (by omega) hn (fun o_ s_ ho_=>?_))) | refine sb (fun nb_ hnb_=>?_) | fail)
 exact fin2 _ _ _ _ _ (.one (.here _) (.slotl .last)) (by simp) (by simp[aA,List.append_assoc]) nofun
theorem Hl(hw:w.cells.length<2^40)(hlo:loc.length<2^40)(bg:Nat)(o:Option Nat)(out:List aw)(n m n2:Nat)(line:Int)(s arg:aL)(ix:List ac)(e:ac)(body:List aa)(ce cb:List aw)(h0:o=none→out=[])(hv:dE w loc e loc.length ce)(hB:c7 14 [.lst (body.map aa.enc)] w loc m (out.length+ce.length+1) cb n2)(hl:out.length+ce.length+1+cb.length<2^30)(hn:n2<2^30){Q:R}
  (fin:∀(o':Option Nat) (out':List aw) (site':Int) (L:SH),ez L ((bg,cz w loc (au o' out'.length) site' n2)::ao o' 6 (out'.map aw.enc))→out'=out++(aA (ce++[⟨10,loc.length,((out.length+ce.length+1+cb.length:Nat):Int),0,0,0⟩]) n++cb)→(o'=none→out'=[])→Q (.tup []) L) :
  bn (.ptr bg 0 0) (.agg (aa.mk 2 line s arg ix e body []).row) ((bg,cz w loc (au o out.length) n m)::ao o 6 (out.map aw.enc)) Q:=by
 have v1:=fu hw hlo hv
 have de:decide (((([]:List aa).length:Nat):Int)=0)=true:=by decide
 have fin2:∀(o':Option Nat) (out':List aw) (site':Int) (k:Nat) (L:SH),ez L ((bg,cz w loc (au o' k) site' n2)::ao o' 6 (out'.map aw.enc))→k=out'.length→out'=out++(aA (ce++[⟨10,loc.length,((out.length+ce.length+1+cb.length:Nat):Int),0,0,0⟩]) n++cb)→(o'=none→out'=[])→Q (.tup []) L:=fun o' out' site' k L h1 h2 h3 h4=>by subst h2;exact fin o' out' site' L h1 h3 h4
 clear fin
 unfold bn aa.row
 repeat' (first | (with_reducible refine uq (A:=out++ce.map (fun x=>x.at_ (n:Int))) (i:=aw.at_ ⟨10,loc.length,0,0,0,0⟩ n) (B:=cb) (j:=aw.at_ ⟨10,loc.length,((out.length+ce.length+1+cb.length:Nat):Int),0,0,0⟩ n) (by simp) rfl (by simp) rfl rfl (by simp[aw.enc,aw.at_];omega) (by decide) rfl rfl (fun r_=>?_)) | refine st ?_ | refine kY ?_ (fun e_=>by first | (rw[h0 e_];rfl) | (rw[ho_ e_];rfl) | (cases e_;done) | fail) | ((with_reducible refine al 51 ?_);refine fg ?_;refine fh v1 (site:=(n:Int)) (next:=(m:Int)) rp rp h0 (by omega) (fun o_ ho_ ks_=>?_)) | ((with_reducible refine aq 15 ?_);(refine cm (i:=⟨10,loc.length,0,0,0,0⟩) rp rp (by assumption) (by simp;omega) (fun b_=>?_))) | ((with_reducible refine aq 14 ?_);(refine pu hB rp rp (fun e_=>by cases e_) (by simp;omega) (by omega) hn (fun o_ s_ ho_=>?_);rcases o_ with _ | bq_;(exact absurd (ho_ rfl) (by simp));skip)) | refine sb (fun nb_ hnb_=>?_) | fail)
 exact fin2 _ _ _ _ _ (.one (.here _) (.slotl .last)) (by simp) (by simp[aA,List.append_assoc]) nofun
theorem Hm(hw:w.cells.length<2^40)(hlo:loc.length<2^40)(bg:Nat)(o:Option Nat)(out:List aw)(n m n2 n3:Nat)(line:Int)(s arg:aL)(ix:List ac)(e:ac)(body:List aa)(y:aa)(els:List aa)(ce cb cl:List aw)(h0:o=none→out=[])(hv:dE w loc e loc.length ce)(hB:c7 14 [.lst (body.map aa.enc)] w loc m (out.length+ce.length+1) cb n2)(hB2:c7 14 [.lst ((y::els).map aa.enc)] w loc n2 (out.length+ce.length+1+cb.length+1) cl n3)(hl:out.length+ce.length+1+cb.length+1+cl.length<2^30)(hn:n2<2^30)(hn3:n3<2^30){Q:R}
  (fin:∀(o':Option Nat) (out':List aw) (site':Int) (L:SH),ez L ((bg,cz w loc (au o' out'.length) site' n3)::ao o' 6 (out'.map aw.enc))→out'=out++(aA (ce++[⟨10,loc.length,((out.length+ce.length+1+cb.length+1:Nat):Int),0,0,0⟩]) n++cb++aA [⟨5,((out.length+ce.length+1+cb.length+1+cl.length:Nat):Int),0,0,0,0⟩] n++cl)→(o'=none→out'=[])→Q (.tup []) L) :
  bn (.ptr bg 0 0) (.agg (aa.mk 2 line s arg ix e body (y::els)).row) ((bg,cz w loc (au o out.length) n m)::ao o 6 (out.map aw.enc)) Q:=by
 have v1:=fu hw hlo hv
 have de:decide ((((y::els).length:Nat):Int)=0)=false:=by simp;omega
 have fin2:∀(o':Option Nat) (out':List aw) (site':Int) (k:Nat) (L:SH),ez L ((bg,cz w loc (au o' k) site' n3)::ao o' 6 (out'.map aw.enc))→k=out'.length→out'=out++(aA (ce++[⟨10,loc.length,((out.length+ce.length+1+cb.length+1:Nat):Int),0,0,0⟩]) n++cb++aA [⟨5,((out.length+ce.length+1+cb.length+1+cl.length:Nat):Int),0,0,0,0⟩] n++cl)→(o'=none→out'=[])→Q (.tup []) L:=fun o' out' site' k L h1 h2 h3 h4=>by subst h2;exact fin o' out' site' L h1 h3 h4
 clear fin
 unfold bn aa.row
 repeat' (first | (with_reducible refine uq (A:=out++ce.map (fun x=>x.at_ (n:Int))) (i:=aw.at_ ⟨10,loc.length,0,0,0,0⟩ n) (B:=cb++[aw.at_ ⟨5,0,0,0,0,0⟩ n]) (j:=aw.at_ ⟨10,loc.length,((out.length+ce.length+1+cb.length+1:Nat):Int),0,0,0⟩ n) (by simp) rfl (by simp) rfl rfl (by simp[aw.enc,aw.at_];omega) (by decide) rfl rfl (fun r_=>?_)) | (with_reducible refine uq (A:=out++ce.map (fun x=>x.at_ (n:Int))++[aw.at_ ⟨10,loc.length,((out.length+ce.length+1+cb.length+1:Nat):Int),0,0,0⟩ n]++cb) (i:=aw.at_ ⟨5,0,0,0,0,0⟩ n) (B:=cl) (j:=aw.at_ ⟨5,((out.length+ce.length+1+cb.length+1+cl.length:Nat):Int),0,0,0,0⟩ n) (by simp) rfl (by simp) rfl rfl (by simp[aw.enc,aw.at_];omega) (by decide) rfl rfl (fun r_=>?_)) | refine st ?_ | refine kY ?_ (fun e_=>by first | (rw[h0 e_];rfl) | (rw[ho_ e_];rfl) | (cases e_;done) | fail) | ((with_reducible refine al 51 ?_);refine fg ?_;refine fh v1 (site:=(n:Int)) (next:=(m:Int)) rp rp h0 (by omega) (fun o_ ho_ ks_=>?_)) | ((with_reducible refine aq 15 ?_);(first | (refine cm (i:=⟨10,loc.length,0,0,0,0⟩) rp rp (by assumption) (by simp;omega) (fun b_=>?_)) | (refine cm (i:=⟨5,0,0,0,0,0⟩) rp rp (by assumption) (by simp;omega) (fun b_=>?_)) | fail)) | ((with_reducible refine aq 14 ?_);(first | (refine pu hB rp rp (fun e_=>by cases e_) (by simp;omega) (by omega) hn (fun o_ s_ ho_=>?_)) | (refine Fb hB2 rp rp (by simp) (fun e_=>by cases e_) (by simp;omega) (by omega) hn3 (fun o_ s_ ho_=>?_);rcases o_ with _ | bq_;(exact absurd (ho_ rfl) (by simp));skip) | fail)) | refine sb (fun nb_ hnb_=>?_) | fail)
 exact fin2 _ _ _ _ _ (.one (.here _) (.slotl .last)) (by simp) (by simp[aA,List.append_assoc]) nofun
end
end Go.Proofs.Ytljkdffikfkcgaa.Am
end
section
namespace Go.Proofs.Ytljkdffikfkcgaa.Am
set_option maxRecDepth 100000
set_option maxHeartbeats 2000000
set_option linter.unusedVariables false
section
variable {w:bj} {loc:List aL}
theorem fj:(∀{x n b c n2},Ay w loc x n b c n2→n<n2)∧∀{l n b c n2},StsC w loc l n b c n2→n≤n2:=by
 refine ye (M1:=fun x n b c n2=>n<n2) (M2:=fun l n b c n2=>n≤n2) ?_ ?_ ?_ ?_ ?_ ?_ ?_ ?_ ?_
 all_goals (intros;omega)
inductive mP (w:bj) (loc:List aL):List aa→Nat→Nat→List aw→Nat→Prop where
 | nil (n b:Nat):mP w loc [] n b [] n
 | cons {x:aa} {l:List aa} {c1 c2:List aw} {n b n1 n2:Nat}:c7 35 [.agg x.row] w loc n b c1 n1→n≤n1→mP w loc l n1 (b+c1.length) c2 n2→mP w loc (x::l) n b (c1++c2) n2
theorem mP.mono{l:List aa}{n b n2:Nat}{c:List aw}(h:mP w loc l n b c n2):n≤n2:=by
 induction h with
 | nil=>exact Nat.le_refl _
 | cons _ h1 _ ih=>omega
theorem i7{l:List aa}{n b n2:Nat}{c:List aw}(h:mP w loc l n b c n2)(hll:l.length<2^40):c7 14 [.lst (l.map aa.enc)] w loc n b c n2:=by
 intro bg o out site h0 hb hl hn
 refine am.fz (pt _ _ _ _ ?_)
 unfold il
 generalize hQ:(fun(v:AV) (L:SH)=>∃v2 L2,aV [v] L [v2] L2∧∃(v:AV) (o':Option Nat) (site':Int),_)=Q
 have fin:=cu hQ
 clear hQ
 refine cH l.length (fun i (q:Option Nat×Int×List aw×Nat)=>([.ptr bg 0 0,.lst (l.map aa.enc),.int .i64 i],(bg,cz w loc (au q.1 (out++q.2.2.1).length) q.2.1 q.2.2.2)::ao q.1 6 ((out++q.2.2.1).map aw.enc)))
  (fun i q=>(q.1=none→out++q.2.2.1=[])∧∃rest,c=q.2.2.1++rest∧mP w loc (l.drop i) q.2.2.2 (b+q.2.2.1.length) rest n2) (o,site,[],n) ⟨by simpa using h0,c,rfl,by simpa using h⟩ (by simpa using aV.refl _ _) ?_
 rintro i ⟨o1,site1,pc,m⟩ hi ⟨hG,rest,hc,hch⟩
 dsimp only at hG hc hch ⊢
 unfold gM
 generalize hnx:(fun(vs':List AV) (L':SH)=>∃j o',i<j∧j≤l.length∧_)=nx
 rcases Nat.lt_or_ge i l.length with g1 | g1
 ·have hd:=ct g1
  have hi1:=bH g1 (by omega)
  have hx:=xd g1
  rw[←List.getElem_cons_drop g1]at hch
  have hmono:=hch.mono
  obtain⟨c1,c2,n1,hK,hle,hC,rfl⟩:∃c1 c2 n1,c7 35 [.agg l[i].row] w loc m (b+pc.length) c1 n1∧m≤n1∧mP w loc (l.drop (i+1)) n1 (b+pc.length+c1.length) c2 n2∧rest=c1++c2:=by
   cases hch with
   | cons h1 h2 h3=>exact⟨_,_,_,h1,h2,h3,rfl⟩
  have hm1:=hC.mono
  subst hc
  simp only[List.length_append]at hl
  have hn:∀(o':Option Nat) (s':Int),(o'=none→out++pc++c1=[])→nx [.ptr bg 0 0,.lst (l.map aa.enc),.int .i64 ((i+1:Nat):Int)] ((bg,cz w loc (au o' (out++pc++c1).length) s' n1)::([]++ao o' 6 ((out++pc++c1).map aw.enc))):=by
   intro o' s' h
   subst hnx
   refine⟨i+1,(o',s',pc++c1,n1),by omega,by omega,⟨by simpa[List.append_assoc]using h,c2,by simp,by simpa[Nat.add_assoc]using hC⟩,?_⟩
   rw[List.append_assoc];exact .refl _ _
  clear hnx
  generalize l[i]=x at *
  repeat' (first | refine st ?_ | ((with_reducible refine aq 35 ?_);(refine pu hK rp rp hG (by simp;omega) (by omega) (by omega) (fun o_ s_ ho_=>?_))) | refine sb (fun nb_ hnb_=>?_) | refine s2 (fun h=>?_) (fun h=>?_) | fail)
  exact hn o_ s_ ho_
 ·have hd:=ee g1
  have e:i=l.length:=by omega
  subst e
  rw[List.drop_length]at hch
  obtain⟨rfl,rfl⟩:rest=[]∧m=n2:=by cases hch;exact⟨rfl,rfl⟩
  rw[List.append_nil]at hc
  subst hc
  repeat' (first | refine st ?_ | refine sb (fun nb_ hnb_=>?_) | refine s2 (fun h=>?_) (fun h=>?_) | fail)
  exact fin _ _ _ _ (.one (.here _) (.slotl .last)) rfl hG
theorem Hp(hw:w.cells.length<2^40)(hlo:loc.length<2^40)(line:Int)(s arg:aL)(ix:List ac)(e:ac)(body els:List aa){c:List aw}{n b:Nat}(ha:yc w loc (.mk 1 line s arg ix e body els) c):
  c7 35 [.agg (aa.mk 1 line s arg ix e body els).row] w loc n b (aA c n) (n+1):=by
 intro bg o out site h0 hb hl hn
 refine am.fz (aH _ _ _ _ ?_)
 unfold aI aa.row
 generalize hQ:(fun(v:AV) (L:SH)=>∃v2 L2,aV [v] L [v2] L2∧∃(v:AV) (o':Option Nat) (site':Int),_)=Q
 have fin:=cu hQ
 clear hQ
 have e1:IntKind.i64.wrap ((n:Int)+1)=((n+1:Nat):Int):=by rw[IntWalk.i64_in _ (by omega)];omega
 have v1:=Hk hw hlo ha
 simp only[aA,List.length_map]at hl
 repeat' (first | refine dm (b9 ?_ e1) | refine st ?_ | ((with_reducible refine aq 47 ?_);(refine fh v1 (site:=(n:Int)) (next:=((n+1:Nat):Int)) rp rp h0 (by omega) (fun o_ ho_=>?_))) | refine sb (fun nb_ hnb_=>?_) | fail)
 exact fin _ _ _ _ (.one (.here _) (.slotl .last)) (by simp[aA,List.append_assoc]) ho_
theorem Fc(hw:w.conds.length<2^40)(hf:w.futures.length<2^40)(ht:w.threads.length<2^40)(hlo:loc.length<2^40)(line:Int)(s arg:aL)(ix:List ac)(e:ac)(body els:List aa){n b:Nat}:
  c7 35 [.agg (aa.mk 9 line s arg ix e body els).row] w loc n b (aA [⟨21,da w.conds s,0,0,0,0⟩] n) (n+1):=by
 intro bg o out site h0 hb hl hn
 refine am.fz (aH _ _ _ _ ?_)
 unfold aI aa.row
 generalize hQ:(fun(v:AV) (L:SH)=>∃v2 L2,aV [v] L [v2] L2∧∃(v:AV) (o':Option Nat) (site':Int),_)=Q
 have fin:=cu hQ
 clear hQ
 have e1:IntKind.i64.wrap ((n:Int)+1)=((n+1:Nat):Int):=by rw[IntWalk.i64_in _ (by omega)];omega
 simp only[aA,List.length_map,List.length_cons,List.length_nil]at hl
 repeat' (first | refine dm (b9 ?_ e1) | refine st ?_ | ((with_reducible refine aq 50 ?_);(refine kS (yd bg w loc (au o out.length) n ((n+1:Nat):Int) s (by omega)) rp ?_;rintro _ _ ⟨rfl,rfl⟩;dsimp only[List.cons_append,List.nil_append])) | ((with_reducible refine aq 15 ?_);(refine cm (i:=⟨21,da w.conds s,0,0,0,0⟩) (site:=(n:Int)) (next:=((n+1:Nat):Int)) rp rp (by assumption) (by simp;omega) (fun b_=>?_))) | refine sb (fun nb_ hnb_=>?_) | fail)
 exact fin _ _ _ _ (.one (.here _) (.slotl .last)) (by simp[aA,List.append_assoc]) nofun
theorem DR(hw:w.conds.length<2^40)(hf:w.futures.length<2^40)(ht:w.threads.length<2^40)(hlo:loc.length<2^40)(line:Int)(s arg:aL)(ix:List ac)(e:ac)(body els:List aa){n b:Nat}:
  c7 35 [.agg (aa.mk 10 line s arg ix e body els).row] w loc n b (aA [⟨22,da w.conds s,0,0,0,0⟩] n) (n+1):=by
 intro bg o out site h0 hb hl hn
 refine am.fz (aH _ _ _ _ ?_)
 unfold aI aa.row
 generalize hQ:(fun(v:AV) (L:SH)=>∃v2 L2,aV [v] L [v2] L2∧∃(v:AV) (o':Option Nat) (site':Int),_)=Q
 have fin:=cu hQ
 clear hQ
 have e1:IntKind.i64.wrap ((n:Int)+1)=((n+1:Nat):Int):=by rw[IntWalk.i64_in _ (by omega)];omega
 simp only[aA,List.length_map,List.length_cons,List.length_nil]at hl
 repeat' (first | refine dm (b9 ?_ e1) | refine st ?_ | ((with_reducible refine aq 50 ?_);(refine kS (yd bg w loc (au o out.length) n ((n+1:Nat):Int) s (by omega)) rp ?_;rintro _ _ ⟨rfl,rfl⟩;dsimp only[List.cons_append,List.nil_append])) | ((with_reducible refine aq 15 ?_);(refine cm (i:=⟨22,da w.conds s,0,0,0,0⟩) (site:=(n:Int)) (next:=((n+1:Nat):Int)) rp rp (by assumption) (by simp;omega) (fun b_=>?_))) | refine sb (fun nb_ hnb_=>?_) | fail)
 exact fin _ _ _ _ (.one (.here _) (.slotl .last)) (by simp[aA,List.append_assoc]) nofun
theorem DS(hw:w.conds.length<2^40)(hf:w.futures.length<2^40)(ht:w.threads.length<2^40)(hlo:loc.length<2^40)(line:Int)(s arg:aL)(ix:List ac)(e:ac)(body els:List aa){n b:Nat}:
  c7 35 [.agg (aa.mk 11 line s arg ix e body els).row] w loc n b (aA [⟨23,da w.conds s,0,0,0,0⟩] n) (n+1):=by
 intro bg o out site h0 hb hl hn
 refine am.fz (aH _ _ _ _ ?_)
 unfold aI aa.row
 generalize hQ:(fun(v:AV) (L:SH)=>∃v2 L2,aV [v] L [v2] L2∧∃(v:AV) (o':Option Nat) (site':Int),_)=Q
 have fin:=cu hQ
 clear hQ
 have e1:IntKind.i64.wrap ((n:Int)+1)=((n+1:Nat):Int):=by rw[IntWalk.i64_in _ (by omega)];omega
 simp only[aA,List.length_map,List.length_cons,List.length_nil]at hl
 repeat' (first | refine dm (b9 ?_ e1) | refine st ?_ | ((with_reducible refine aq 50 ?_);(refine kS (yd bg w loc (au o out.length) n ((n+1:Nat):Int) s (by omega)) rp ?_;rintro _ _ ⟨rfl,rfl⟩;dsimp only[List.cons_append,List.nil_append])) | ((with_reducible refine aq 15 ?_);(refine cm (i:=⟨23,da w.conds s,0,0,0,0⟩) (site:=(n:Int)) (next:=((n+1:Nat):Int)) rp rp (by assumption) (by simp;omega) (fun b_=>?_))) | refine sb (fun nb_ hnb_=>?_) | fail)
 exact fin _ _ _ _ (.one (.here _) (.slotl .last)) (by simp[aA,List.append_assoc]) nofun
theorem DT(hw:w.conds.length<2^40)(hf:w.futures.length<2^40)(ht:w.threads.length<2^40)(hlo:loc.length<2^40)(line:Int)(s arg:aL)(ix:List ac)(e:ac)(body els:List aa){n b:Nat}:
  c7 35 [.agg (aa.mk 12 line s arg ix e body els).row] w loc n b (aA [⟨24,fJ w.threads s,0,0,0,0⟩] n) (n+1):=by
 intro bg o out site h0 hb hl hn
 refine am.fz (aH _ _ _ _ ?_)
 unfold aI aa.row
 generalize hQ:(fun(v:AV) (L:SH)=>∃v2 L2,aV [v] L [v2] L2∧∃(v:AV) (o':Option Nat) (site':Int),_)=Q
 have fin:=cu hQ
 clear hQ
 have e1:IntKind.i64.wrap ((n:Int)+1)=((n+1:Nat):Int):=by rw[IntWalk.i64_in _ (by omega)];omega
 simp only[aA,List.length_map,List.length_cons,List.length_nil]at hl
 repeat' (first | refine dm (b9 ?_ e1) | refine st ?_ | ((with_reducible refine aq 45 ?_);refine aj (fK w.threads s (by omega)) ?_) | ((with_reducible refine al 45 ?_);refine ab (fK w.threads s (by omega)) ?_) | ((with_reducible refine al 15 ?_);refine fg ?_;refine cm (i:=⟨24,fJ w.threads s,0,0,0,0⟩) (site:=(n:Int)) (next:=((n+1:Nat):Int)) rp rp (by assumption) (by simp;omega) (fun b_ ks_=>?_)) | refine sb (fun nb_ hnb_=>?_) | fail)
 exact fin _ _ _ _ (.one (.here _) (.slotl .last)) (by simp[aA,List.append_assoc]) nofun
theorem DU(hw:w.conds.length<2^40)(hf:w.futures.length<2^40)(ht:w.threads.length<2^40)(hlo:loc.length<2^40)(line:Int)(s arg:aL)(ix:List ac)(e:ac)(body els:List aa){n b:Nat}:
  c7 35 [.agg (aa.mk 13 line s arg ix e body els).row] w loc n b (aA [⟨25,fJ w.threads s,0,0,0,0⟩] n) (n+1):=by
 intro bg o out site h0 hb hl hn
 refine am.fz (aH _ _ _ _ ?_)
 unfold aI aa.row
 generalize hQ:(fun(v:AV) (L:SH)=>∃v2 L2,aV [v] L [v2] L2∧∃(v:AV) (o':Option Nat) (site':Int),_)=Q
 have fin:=cu hQ
 clear hQ
 have e1:IntKind.i64.wrap ((n:Int)+1)=((n+1:Nat):Int):=by rw[IntWalk.i64_in _ (by omega)];omega
 simp only[aA,List.length_map,List.length_cons,List.length_nil]at hl
 repeat' (first | refine dm (b9 ?_ e1) | refine st ?_ | ((with_reducible refine aq 45 ?_);refine aj (fK w.threads s (by omega)) ?_) | ((with_reducible refine al 45 ?_);refine ab (fK w.threads s (by omega)) ?_) | ((with_reducible refine al 15 ?_);refine fg ?_;refine cm (i:=⟨25,fJ w.threads s,0,0,0,0⟩) (site:=(n:Int)) (next:=((n+1:Nat):Int)) rp rp (by assumption) (by simp;omega) (fun b_ ks_=>?_)) | refine sb (fun nb_ hnb_=>?_) | fail)
 exact fin _ _ _ _ (.one (.here _) (.slotl .last)) (by simp[aA,List.append_assoc]) nofun
theorem DV(hw:w.conds.length<2^40)(hf:w.futures.length<2^40)(ht:w.threads.length<2^40)(hlo:loc.length<2^40)(line:Int)(s arg:aL)(ix:List ac)(e:ac)(body els:List aa){n b:Nat}:
  c7 35 [.agg (aa.mk 15 line s arg ix e body els).row] w loc n b (aA [⟨27,fJ loc s,fJ w.futures arg,0,0,0⟩] n) (n+1):=by
 intro bg o out site h0 hb hl hn
 refine am.fz (aH _ _ _ _ ?_)
 unfold aI aa.row
 generalize hQ:(fun(v:AV) (L:SH)=>∃v2 L2,aV [v] L [v2] L2∧∃(v:AV) (o':Option Nat) (site':Int),_)=Q
 have fin:=cu hQ
 clear hQ
 have e1:IntKind.i64.wrap ((n:Int)+1)=((n+1:Nat):Int):=by rw[IntWalk.i64_in _ (by omega)];omega
 simp only[aA,List.length_map,List.length_cons,List.length_nil]at hl
 repeat' (first | refine dm (b9 ?_ e1) | refine st ?_ | ((with_reducible refine aq 45 ?_);refine aj (fK loc s (by omega)) ?_) | ((with_reducible refine al 45 ?_);refine ab (fK loc s (by omega)) ?_) | ((with_reducible refine aq 45 ?_);refine aj (fK w.futures arg (by omega)) ?_) | ((with_reducible refine al 45 ?_);refine ab (fK w.futures arg (by omega)) ?_) | ((with_reducible refine al 15 ?_);refine fg ?_;refine cm (i:=⟨27,fJ loc s,fJ w.futures arg,0,0,0⟩) (site:=(n:Int)) (next:=((n+1:Nat):Int)) rp rp (by assumption) (by simp;omega) (fun b_ ks_=>?_)) | refine sb (fun nb_ hnb_=>?_) | fail)
 exact fin _ _ _ _ (.one (.here _) (.slotl .last)) (by simp[aA,List.append_assoc]) nofun
theorem Hq(hw:w.cells.length<2^40)(hlo:loc.length<2^40)(hf:w.futures.length<2^40)(line:Int)(s arg:aL)(ix:List ac)(e:ac)(body els:List aa){ce:List aw}{n b:Nat}(hv:dE w loc e loc.length ce):
  c7 35 [.agg (aa.mk 14 line s arg ix e body els).row] w loc n b (aA (ce++[⟨26,fJ w.futures s,loc.length,0,0,0⟩]) n) (n+1):=by
 intro bg o out site h0 hb hl hn
 refine am.fz (aH _ _ _ _ ?_)
 unfold aI aa.row
 generalize hQ:(fun(v:AV) (L:SH)=>∃v2 L2,aV [v] L [v2] L2∧∃(v:AV) (o':Option Nat) (site':Int),_)=Q
 have fin:=cu hQ
 clear hQ
 have e1:IntKind.i64.wrap ((n:Int)+1)=((n+1:Nat):Int):=by rw[IntWalk.i64_in _ (by omega)];omega
 have v1:=fu hw hlo hv
 simp only[aA,List.length_map,List.length_append,List.length_cons,List.length_nil]at hl
 repeat' (first | refine dm (b9 ?_ e1) | refine st ?_ | ((with_reducible refine aq 51 ?_);(refine fh v1 (site:=(n:Int)) (next:=((n+1:Nat):Int)) rp rp h0 (by omega) (fun o_ ho_=>?_))) | ((with_reducible refine aq 45 ?_);refine aj (fK w.futures s (by omega)) ?_) | ((with_reducible refine al 45 ?_);refine ab (fK w.futures s (by omega)) ?_) | ((with_reducible refine al 15 ?_);refine fg ?_;refine cm (i:=⟨26,fJ w.futures s,loc.length,0,0,0⟩) (site:=(n:Int)) (next:=((n+1:Nat):Int)) rp rp (by assumption) (by simp;omega) (fun b_ ks_=>?_)) | refine sb (fun nb_ hnb_=>?_) | fail)
 exact fin _ _ _ _ (.one (.here _) (.slotl .last)) (by simp[aA,List.append_assoc]) nofun
theorem DW(hk:w.locks.length<2^40)(line:Int)(s arg:aL)(ix:List ac)(e:ac)(body els:List aa){cb:List aw}{n b n2:Nat}(hB:c7 14 [.lst (body.map aa.enc)] w loc (n+1) (b+1) cb n2)(hm:n+1≤n2):
  c7 35 [.agg (aa.mk 4 line s arg ix e body els).row] w loc n b (aA [⟨11,(bv w.locks s),0,0,0,0⟩] n++cb++aA [⟨12,(bv w.locks s),0,0,0,0⟩] n) n2:=by
 intro bg o out site h0 hb hl hn
 refine am.fz (aH _ _ _ _ ?_)
 unfold aI aa.row
 generalize hQ:(fun(v:AV) (L:SH)=>∃v2 L2,aV [v] L [v2] L2∧∃(v:AV) (o':Option Nat) (site':Int),_)=Q
 have fin:=cu hQ
 clear hQ
 have e1:IntKind.i64.wrap ((n:Int)+1)=((n+1:Nat):Int):=by rw[IntWalk.i64_in _ (by omega)];omega
 simp only[aA,List.length_map,List.length_append,List.length_cons,List.length_nil]at hl
 repeat' (first | refine dm (b9 ?_ e1) | refine st ?_ | ((with_reducible refine aq 33 ?_);refine aj (fY w.locks s (by omega)) ?_) | ((with_reducible refine al 33 ?_);refine ab (fY w.locks s (by omega)) ?_) | ((with_reducible refine al 49 ?_);refine fg ?_;refine cf (i6 bg o out n (n+1) n2 4 line s arg ix e body els 11 12 (bv w.locks s) cb h0 (by rw[hb];exact hB) (by omega) hn) ?_;rintro _ _ ⟨v_,o_,s_,rfl,rfl,ho_,rfl⟩ ks_) | refine sb (fun nb_ hnb_=>?_) | fail)
 exact fin _ _ _ _ (.one (.here _) (.slotl .last)) rfl ho_
theorem DX(hk:w.locks.length<2^40)(line:Int)(s arg:aL)(ix:List ac)(e:ac)(body els:List aa){cb:List aw}{n b n2:Nat}(hB:c7 14 [.lst (body.map aa.enc)] w loc (n+1) (b+1) cb n2)(hm:n+1≤n2):
  c7 35 [.agg (aa.mk 5 line s arg ix e body els).row] w loc n b (aA [⟨13,(bv w.locks s),0,0,0,0⟩] n++cb++aA [⟨14,(bv w.locks s),0,0,0,0⟩] n) n2:=by
 intro bg o out site h0 hb hl hn
 refine am.fz (aH _ _ _ _ ?_)
 unfold aI aa.row
 generalize hQ:(fun(v:AV) (L:SH)=>∃v2 L2,aV [v] L [v2] L2∧∃(v:AV) (o':Option Nat) (site':Int),_)=Q
 have fin:=cu hQ
 clear hQ
 have e1:IntKind.i64.wrap ((n:Int)+1)=((n+1:Nat):Int):=by rw[IntWalk.i64_in _ (by omega)];omega
 simp only[aA,List.length_map,List.length_append,List.length_cons,List.length_nil]at hl
 repeat' (first | refine dm (b9 ?_ e1) | refine st ?_ | ((with_reducible refine aq 33 ?_);refine aj (fY w.locks s (by omega)) ?_) | ((with_reducible refine al 33 ?_);refine ab (fY w.locks s (by omega)) ?_) | ((with_reducible refine al 49 ?_);refine fg ?_;refine cf (i6 bg o out n (n+1) n2 5 line s arg ix e body els 13 14 (bv w.locks s) cb h0 (by rw[hb];exact hB) (by omega) hn) ?_;rintro _ _ ⟨v_,o_,s_,rfl,rfl,ho_,rfl⟩ ks_) | refine sb (fun nb_ hnb_=>?_) | fail)
 exact fin _ _ _ _ (.one (.here _) (.slotl .last)) rfl ho_
theorem DY(hk:w.locks.length<2^40)(line:Int)(s arg:aL)(ix:List ac)(e:ac)(body els:List aa){cb:List aw}{n b n2:Nat}(hB:c7 14 [.lst (body.map aa.enc)] w loc (n+1) (b+1) cb n2)(hm:n+1≤n2):
  c7 35 [.agg (aa.mk 6 line s arg ix e body els).row] w loc n b (aA [⟨15,(bv w.locks s),0,0,0,0⟩] n++cb++aA [⟨16,(bv w.locks s),0,0,0,0⟩] n) n2:=by
 intro bg o out site h0 hb hl hn
 refine am.fz (aH _ _ _ _ ?_)
 unfold aI aa.row
 generalize hQ:(fun(v:AV) (L:SH)=>∃v2 L2,aV [v] L [v2] L2∧∃(v:AV) (o':Option Nat) (site':Int),_)=Q
 have fin:=cu hQ
 clear hQ
 have e1:IntKind.i64.wrap ((n:Int)+1)=((n+1:Nat):Int):=by rw[IntWalk.i64_in _ (by omega)];omega
 simp only[aA,List.length_map,List.length_append,List.length_cons,List.length_nil]at hl
 repeat' (first | refine dm (b9 ?_ e1) | refine st ?_ | ((with_reducible refine aq 33 ?_);refine aj (fY w.locks s (by omega)) ?_) | ((with_reducible refine al 33 ?_);refine ab (fY w.locks s (by omega)) ?_) | ((with_reducible refine al 49 ?_);refine fg ?_;refine cf (i6 bg o out n (n+1) n2 6 line s arg ix e body els 15 16 (bv w.locks s) cb h0 (by rw[hb];exact hB) (by omega) hn) ?_;rintro _ _ ⟨v_,o_,s_,rfl,rfl,ho_,rfl⟩ ks_) | refine sb (fun nb_ hnb_=>?_) | fail)
 exact fin _ _ _ _ (.one (.here _) (.slotl .last)) rfl ho_
theorem DZ(hk:w.locks.length<2^40)(line:Int)(s arg:aL)(ix:List ac)(e:ac)(body els:List aa){cb:List aw}{n b n2:Nat}(hB:c7 14 [.lst (body.map aa.enc)] w loc (n+1) (b+1) cb n2)(hm:n+1≤n2):
  c7 35 [.agg (aa.mk 7 line s arg ix e body els).row] w loc n b (aA [⟨17,0,0,0,0,0⟩] n++cb++aA [⟨18,0,0,0,0,0⟩] n) n2:=by
 intro bg o out site h0 hb hl hn
 refine am.fz (aH _ _ _ _ ?_)
 unfold aI aa.row
 generalize hQ:(fun(v:AV) (L:SH)=>∃v2 L2,aV [v] L [v2] L2∧∃(v:AV) (o':Option Nat) (site':Int),_)=Q
 have fin:=cu hQ
 clear hQ
 have e1:IntKind.i64.wrap ((n:Int)+1)=((n+1:Nat):Int):=by rw[IntWalk.i64_in _ (by omega)];omega
 simp only[aA,List.length_map,List.length_append,List.length_cons,List.length_nil]at hl
 repeat' (first | refine dm (b9 ?_ e1) | refine st ?_ | ((with_reducible refine aq 49 ?_);(refine cf (i6 bg o out n (n+1) n2 7 line s arg ix e body els 17 18 0 cb h0 (by rw[hb];exact hB) (by omega) hn) ?_;rintro _ _ ⟨v_,o_,s_,rfl,rfl,ho_,rfl⟩)) | refine sb (fun nb_ hnb_=>?_) | fail)
 exact fin _ _ _ _ (.one (.here _) (.slotl .last)) rfl ho_
theorem D0(hk:w.locks.length<2^40)(line:Int)(s arg:aL)(ix:List ac)(e:ac)(body els:List aa){cb:List aw}{n b n2:Nat}(hB:c7 14 [.lst (body.map aa.enc)] w loc (n+1) (b+1) cb n2)(hm:n+1≤n2):
  c7 35 [.agg (aa.mk 8 line s arg ix e body els).row] w loc n b (aA [⟨19,0,0,0,0,0⟩] n++cb++aA [⟨20,0,0,0,0,0⟩] n) n2:=by
 intro bg o out site h0 hb hl hn
 refine am.fz (aH _ _ _ _ ?_)
 unfold aI aa.row
 generalize hQ:(fun(v:AV) (L:SH)=>∃v2 L2,aV [v] L [v2] L2∧∃(v:AV) (o':Option Nat) (site':Int),_)=Q
 have fin:=cu hQ
 clear hQ
 have e1:IntKind.i64.wrap ((n:Int)+1)=((n+1:Nat):Int):=by rw[IntWalk.i64_in _ (by omega)];omega
 simp only[aA,List.length_map,List.length_append,List.length_cons,List.length_nil]at hl
 repeat' (first | refine dm (b9 ?_ e1) | refine st ?_ | ((with_reducible refine aq 49 ?_);(refine cf (i6 bg o out n (n+1) n2 8 line s arg ix e body els 19 20 0 cb h0 (by rw[hb];exact hB) (by omega) hn) ?_;rintro _ _ ⟨v_,o_,s_,rfl,rfl,ho_,rfl⟩)) | refine sb (fun nb_ hnb_=>?_) | fail)
 exact fin _ _ _ _ (.one (.here _) (.slotl .last)) rfl ho_
theorem D1{bg:Nat}{x:AV}{out:List aw}{c:List aw}{n2:Nat}{L:SH}
  (h:∀(Q:R),(∀(o':Option Nat) (out':List aw) (site':Int) (L:SH),ez L ((bg,cz w loc (au o' out'.length) site' n2)::ao o' 6 (out'.map aw.enc))→out'=out++c→(o'=none→out'=[])→Q (.tup []) L)→bn (.ptr bg 0 0) x L Q) :
  am Try.prog 48 [.ptr bg 0 0,x] L fun u K=>∃(v:AV) (o':Option Nat) (site':Int),u=v∧v=.tup []∧(o'=none→out++c=[])∧K=(bg,cz w loc (au o' (out++c).length) site' n2)::ao o' 6 ((out++c).map aw.enc):=by
 refine am.fz (j3 _ _ _ _ ?_)
 generalize hQ:(fun(v:AV) (L:SH)=>∃v2 L2,aV [v] L [v2] L2∧∃(v:AV) (o':Option Nat) (site':Int),_)=Q
 exact h Q (cu hQ)
theorem D2(hw:w.cells.length<2^40)(hlo:loc.length<2^40)(line:Int)(s arg:aL)(ix:List ac)(e:ac)(body:List aa)(els:List aa){ce cb:List aw}{n b n2:Nat}(hv:dE w loc e loc.length ce)(hB:c7 14 [.lst (body.map aa.enc)] w loc (n+1) (b+ce.length+1) cb n2)(hm:n+1≤n2):
  c7 35 [.agg (aa.mk 3 line s arg ix e body els).row] w loc n b (aA (ce++[⟨10,loc.length,((b+ce.length+1+cb.length+1:Nat):Int),0,0,0⟩]) n++cb++aA [⟨5,(b:Int),0,0,0,0⟩] n) n2:=by
 intro bg o out site h0 hb hl hn
 refine am.fz (aH _ _ _ _ ?_)
 unfold aI aa.row
 generalize hQ:(fun(v:AV) (L:SH)=>∃v2 L2,aV [v] L [v2] L2∧∃(v:AV) (o':Option Nat) (site':Int),_)=Q
 have fin:=cu hQ
 clear hQ
 have e1:IntKind.i64.wrap ((n:Int)+1)=((n+1:Nat):Int):=by rw[IntWalk.i64_in _ (by omega)];omega
 simp only[aA,List.length_map,List.length_append,List.length_cons,List.length_nil]at hl
 subst hb
 repeat' (first | refine dm (b9 ?_ e1) | refine st ?_ | ((with_reducible refine aq 48 ?_);(refine cf (D1 (fun Q_ fin_=>DQ hw hlo bg o out n (n+1) n2 line s arg ix e body els ce cb h0 hv hB (by omega) hn fin_)) ?_;rintro _ _ ⟨v_,o_,s_,rfl,rfl,ho_,rfl⟩)) | refine sb (fun nb_ hnb_=>?_) | fail)
 exact fin _ _ _ _ (.one (.here _) (.slotl .last)) rfl ho_
theorem Hr(hw:w.cells.length<2^40)(hlo:loc.length<2^40)(line:Int)(s arg:aL)(ix:List ac)(e:ac)(body:List aa){ce cb:List aw}{n b n2:Nat}(hv:dE w loc e loc.length ce)(hB:c7 14 [.lst (body.map aa.enc)] w loc (n+1) (b+ce.length+1) cb n2)(hm:n+1≤n2):
  c7 35 [.agg (aa.mk 2 line s arg ix e body []).row] w loc n b (aA (ce++[⟨10,loc.length,((b+ce.length+1+cb.length:Nat):Int),0,0,0⟩]) n++cb) n2:=by
 intro bg o out site h0 hb hl hn
 refine am.fz (aH _ _ _ _ ?_)
 unfold aI aa.row
 generalize hQ:(fun(v:AV) (L:SH)=>∃v2 L2,aV [v] L [v2] L2∧∃(v:AV) (o':Option Nat) (site':Int),_)=Q
 have fin:=cu hQ
 clear hQ
 have e1:IntKind.i64.wrap ((n:Int)+1)=((n+1:Nat):Int):=by rw[IntWalk.i64_in _ (by omega)];omega
 simp only[aA,List.length_map,List.length_append,List.length_cons,List.length_nil]at hl
 subst hb
 repeat' (first | refine dm (b9 ?_ e1) | refine st ?_ | ((with_reducible refine aq 48 ?_);(refine cf (D1 (fun Q_ fin_=>Hl hw hlo bg o out n (n+1) n2 line s arg ix e body ce cb h0 hv hB (by omega) hn fin_)) ?_;rintro _ _ ⟨v_,o_,s_,rfl,rfl,ho_,rfl⟩)) | refine sb (fun nb_ hnb_=>?_) | fail)
 exact fin _ _ _ _ (.one (.here _) (.slotl .last)) rfl ho_
theorem Hs(hw:w.cells.length<2^40)(hlo:loc.length<2^40)(line:Int)(s arg:aL)(ix:List ac)(e:ac)(body:List aa)(y:aa)(els:List aa){ce cb cl:List aw}{n b n2 n3:Nat}(hv:dE w loc e loc.length ce)(hB:c7 14 [.lst (body.map aa.enc)] w loc (n+1) (b+ce.length+1) cb n2)(hm:n+1≤n2)(hB2:c7 14 [.lst ((y::els).map aa.enc)] w loc n2 (b+ce.length+1+cb.length+1) cl n3)(hn2:n2≤n3):
  c7 35 [.agg (aa.mk 2 line s arg ix e body (y::els)).row] w loc n b (aA (ce++[⟨10,loc.length,((b+ce.length+1+cb.length+1:Nat):Int),0,0,0⟩]) n++cb++aA [⟨5,((b+ce.length+1+cb.length+1+cl.length:Nat):Int),0,0,0,0⟩] n++cl) n3:=by
 intro bg o out site h0 hb hl hn
 refine am.fz (aH _ _ _ _ ?_)
 unfold aI aa.row
 generalize hQ:(fun(v:AV) (L:SH)=>∃v2 L2,aV [v] L [v2] L2∧∃(v:AV) (o':Option Nat) (site':Int),_)=Q
 have fin:=cu hQ
 clear hQ
 have e1:IntKind.i64.wrap ((n:Int)+1)=((n+1:Nat):Int):=by rw[IntWalk.i64_in _ (by omega)];omega
 simp only[aA,List.length_map,List.length_append,List.length_cons,List.length_nil]at hl
 subst hb
 repeat' (first | refine dm (b9 ?_ e1) | refine st ?_ | ((with_reducible refine aq 48 ?_);(refine cf (D1 (fun Q_ fin_=>Hm hw hlo bg o out n (n+1) n2 n3 line s arg ix e body y els ce cb cl h0 hv hB hB2 (by omega) (by omega) hn fin_)) ?_;rintro _ _ ⟨v_,o_,s_,rfl,rfl,ho_,rfl⟩)) | refine sb (fun nb_ hnb_=>?_) | fail)
 exact fin _ _ _ _ (.one (.here _) (.slotl .last)) rfl ho_
structure Az(w:bj)(loc:List aL):Prop where
 cells:w.cells.length<2^40
 locks:w.locks.length<2^40
 conds:w.conds.length<2^40
 futs:w.futures.length<2^40
 thr:w.threads.length<2^40
 loc:loc.length<2^40
mutual
def aa.short:aa→Prop
 | .mk _ _ _ _ _ _ body els=>aa.shorts body∧body.length<2^40∧aa.shorts els∧els.length<2^40
def aa.shorts:List aa→Prop
 | []=>True
 | x::l=>x.short∧aa.shorts l
end
mutual
theorem aa.short_wt:∀x:aa,x.wt<2^40→x.short
 | .mk a b c d e f body els=>fun h=>by
  have h1:=aa.wts_len body;have h2:=aa.wts_len els
  simp only[aa.wt]at h
  exact⟨aa.shorts_wt body (by omega),by omega,aa.shorts_wt els (by omega),by omega⟩
theorem aa.shorts_wt:∀l:List aa,aa.wts l<2^40→aa.shorts l
 | []=>fun _=>trivial
 | x::l=>fun h=>by simp only[aa.wts]at h;exact⟨aa.short_wt x (by omega),aa.shorts_wt l (by omega)⟩
end
theorem D3(hs:Az w loc):(∀{x n b c n2},Ay w loc x n b c n2→x.short→c7 35 [.agg x.row] w loc n b c n2)∧∀{l n b c n2},StsC w loc l n b c n2→aa.shorts l→mP w loc l n b c n2:=by
 obtain⟨h1,h2,h3,h4,h5,h6⟩:=hs
 refine ye (M1:=fun x n b c n2=>x.short→c7 35 [.agg x.row] w loc n b c n2) (M2:=fun l n b c n2=>aa.shorts l→mP w loc l n b c n2) ?_ ?_ ?_ ?_ ?_ ?_ ?_ ?_ ?_
 ·intro line s arg ix e body els c n b ha _
  exact Hp h1 h6 line s arg ix e body els ha
 ·intro line s arg ix e body ce cb n b n2 hv hs ih hw
  exact Hr h1 h6 line s arg ix e body hv (i7 (ih hw.1) hw.2.1) (fj.2 hs)
 ·intro line s arg ix e body y els ce cb cl n b n2 n3 hv hs hs2 ih ih2 hw
  exact Hs h1 h6 line s arg ix e body y els hv (i7 (ih hw.1) hw.2.1) (fj.2 hs) (i7 (ih2 hw.2.2.1) hw.2.2.2) (fj.2 hs2)
 ·intro line s arg ix e body els ce cb n b n2 hv hs ih hw
  exact D2 h1 h6 line s arg ix e body els hv (i7 (ih hw.1) hw.2.1) (fj.2 hs)
 ·intro op line s arg ix e body els f l ob cb n b n2 ha hs ih hw
  have hB:=i7 (ih hw.1) hw.2.1
  unfold zH at ha
  repeat' split at ha
  all_goals first | (exfalso;cases ha;done) | (rename_i hop;subst hop;cases ha)
  ·exact DW h2 line s arg ix e body els hB (fj.2 hs)
  ·exact DX h2 line s arg ix e body els hB (fj.2 hs)
  ·exact DY h2 line s arg ix e body els hB (fj.2 hs)
  ·exact DZ h2 line s arg ix e body els hB (fj.2 hs)
  ·exact D0 h2 line s arg ix e body els hB (fj.2 hs)
 ·intro op line s arg ix e body els i n b ho _
  unfold DP at ho
  repeat' split at ho
  all_goals first | (exfalso;cases ho;done) | (rename_i hop;subst hop;cases ho)
  ·exact Fc h3 h4 h5 h6 line s arg ix e body els
  ·exact DR h3 h4 h5 h6 line s arg ix e body els
  ·exact DS h3 h4 h5 h6 line s arg ix e body els
  ·exact DT h3 h4 h5 h6 line s arg ix e body els
  ·exact DU h3 h4 h5 h6 line s arg ix e body els
  ·exact DV h3 h4 h5 h6 line s arg ix e body els
 ·intro line s arg ix e body els ce n b hv _
  exact Hq h1 h6 h4 line s arg ix e body els hv
 ·intro n b _
  exact .nil n b
 ·intro x l c1 c2 n b n1 n2 h1 h2 ih1 ih2 hw
  exact .cons (ih1 hw.1) (Nat.le_of_lt (fj.1 h1)) (ih2 hw.2)
end
end Go.Proofs.Ytljkdffikfkcgaa.Am
end
section
namespace Go.Proofs.Ytljkdffikfkcgaa.Am
set_option maxRecDepth 100000
set_option maxHeartbeats 2000000
set_option linter.unusedVariables false
theorem wj{α:Type}{o:Option Nat}{size:Nat}{l:List α}{f:α→List AV}{L:SH}(h0:o=none→l=[])(hs:0<size)(hm:∀q∈ao o size (l.map f),q∈L):Fz L (au o l.length) (.lst (l.map f)):=by
 cases o with
 | none=>rw[h0 rfl];exact .emp
 | some b=>exact Fz.sls (hm _ (.head _)) rfl hs rfl
theorem sU(o:Option Nat)(n:Nat):(au o n).one=true:=by cases o<;>rfl
theorem zI(o:Option Nat)(n:Nat):(au o n).cells? =some [au o n]:=by cases o<;>rfl
section
variable {n151:Kn} {b2 b6 i:Nat} {oc ol od of ot os:Option Nat} {w:bj} {dl:List (List AV)} {ts:List ai} {Q:R}
theorem Fd(hi:i<ts.length)(hi1:IntKind.i64.wrap ((i:Int)+1)=((i+1:Nat):Int))(hw:i=w.threads.length)(hti:i<2^20)(hb:aa.wts ts[i].body<2^20)(hsl:w.sites.length<2^29)(ho:wS b6 oc ol od of ot os w)
  (hn:F3 (n151 [.pptr [[.lst dl,.lst (ts.map ai.enc)]] 0 0,.ptr b2 0 0,.ptr b6 0 0,.int .i64 ((i+1:Nat):Int)]) b2 b6 (cD w ts[i])) :
  gI n151 (wz b2 b6 oc ol od of ot os w) (.ptr b6 0 0) (.pptr [[.lst dl,.lst (ts.map ai.enc)]] 0 0) (.int .i64 i) (.ptr b2 0 0):=by
 have hx:=aC (f:=ai.enc) hi
 have hcw:=aa.cnts_wt ts[i].body
 have hk:=DO i (2^20) ts[i].body (by omega) (by omega)
 have ht0:ot=none→w.threads.map az=[]:=fun e=>by rw[ho.t e];rfl
 unfold cD at hn
 rw[←hw]at hn
 unfold gI wz
 repeat' (first | refine st ?_ | refine cI rp rp (by simp) (fun e=>by first | simp[ht0 e]) (by rfl) (by simp) (by simp;omega) (by simp;omega) (by rfl) (fun nb_ hnb_=>?_) | ((with_reducible refine al 34 ?_);refine fg ?_;refine Ax (t:=i) (n:=0) hk rp rfl rfl ho.s (by omega) (by omega) (fun o_ ho_ ks_=>?_);simp only[List.cons_append,List.nil_append,List.append_assoc]) | refine s8 ?_ (h2:=zI _ _) (h4:=sU _ _) | refine sb (fun nb_ hnb_=>?_) | refine s2 (fun h=>?_) (fun h=>?_) | fail)
 exact hn oc ol od of (some nb_) o_ _ _ _ _ _ _ _ _ _ _ _ _ _ ⟨ho.c,ho.l,ho.d,ho.f,nofun,ho_,ho.n⟩ rp (by simp[au]) rfl rfl rfl rfl (by rw[List.map_append];rfl) rfl
theorem Ht(hts:ts.length<2^20)(hb:∀t∈ts,aa.wts t.body<2^20)(hw0:w.threads=[])(hs0:w.sites=[])(hsl:∀k,(((ts.take k).foldl cD w).sites.length<2^29))(ho:wS b6 oc ol od of ot os w)
  (hq:∀(v:AV) (L:SH),Fz L v (.agg (ts.foldl cD w).enc)→Q v L) :
  W.loop (gJ Q) [.pptr [[.lst dl,.lst (ts.map ai.enc)]] 0 0,.ptr b2 0 0,.ptr b6 0 0,.int .i64 0] (wz b2 b6 oc ol od of ot os w):=by
 have hlen:∀k,k≤ts.length→((ts.take k).foldl cD w).threads.length=k:=by
  intro k
  induction k with
  | zero=>intro _;simp[hw0]
  | succ k ih=>intro h;rw[gN (show k<ts.length by omega)];simp[cD,ih (by omega)]
 refine cH (β:=Option Nat×Option Nat×Option Nat×Option Nat×Option Nat×Option Nat) ts.length (fun i q=>([.pptr [[.lst dl,.lst (ts.map ai.enc)]] 0 0,.ptr b2 0 0,.ptr b6 0 0,.int .i64 i],wz b2 b6 q.1 q.2.1 q.2.2.1 q.2.2.2.1 q.2.2.2.2.1 q.2.2.2.2.2 ((ts.take i).foldl cD w)))
  (fun i q=>wS b6 q.1 q.2.1 q.2.2.1 q.2.2.2.1 q.2.2.2.2.1 q.2.2.2.2.2 ((ts.take i).foldl cD w)) (oc,ol,od,of,ot,os) ho (.refl _ _) ?_
 rintro i ⟨oc,ol,od,of,ot,os⟩ hi ho
 dsimp only at ho ⊢
 unfold gJ
 generalize hnx:(fun(vs':List AV) (L':SH)=>∃j o',i<j∧j≤ts.length∧_)=nx
 rcases Nat.lt_or_ge i ts.length with g1 | g1
 ·have hd:=ct g1
  have hi1:=bH g1 (by omega)
  have hgo:F3 (nx [.pptr [[.lst dl,.lst (ts.map ai.enc)]] 0 0,.ptr b2 0 0,.ptr b6 0 0,.int .i64 ((i+1:Nat):Int)]) b2 b6 (cD ((ts.take i).foldl cD w) ts[i]):=.of fun oc2 ol2 od2 of2 ot2 os2 L' q1 q2=>by
   subst hnx
   rw[←gN (f:=cD) (a:=w) g1]at q1 q2
   exact⟨i+1,(oc2,ol2,od2,of2,ot2,os2),by omega,by omega,q1,aV.pick q2 rfl⟩
  have hr:=Fd (dl:=dl) g1 hi1 (hlen i (by omega)).symm (by omega) (hb _ (List.getElem_mem g1)) (hsl i) ho hgo
  clear hnx hgo
  generalize hW:wz b2 b6 oc ol od of ot os ((ts.take i).foldl cD w)=LW at *
  repeat' (first | exact hr | refine st ?_ | refine sb (fun nb_ hnb_=>?_) | refine s2 (fun h=>?_) (fun h=>?_) | fail)
 ·have hd:=ee g1
  have e:i=ts.length:=by omega
  subst e
  rw[List.take_length]at ho ⊢
  unfold wz
  repeat' (first | refine st ?_ | refine sb (fun nb_ hnb_=>?_) | refine s2 (fun h=>?_) (fun h=>?_) | fail)
  refine gW (cs:=[au oc (List.foldl cD w ts).cells.length,au ol (List.foldl cD w ts).locks.length,au od (List.foldl cD w ts).conds.length,au of (List.foldl cD w ts).futures.length,au ot (List.foldl cD w ts).threads.length,au os (List.foldl cD w ts).sites.length]) (.there _ (.here _)) rfl rfl (by simp[sU]) rfl ?_
  repeat' (first | refine st ?_ | refine sb (fun nb_ hnb_=>?_) | refine s2 (fun h=>?_) (fun h=>?_) | fail)
  refine hq _ _ (Fz.aggs (.cons (wj ho.c (by decide) fun q h=>.tail _ (.tail _ (List.mem_append_left _ h))) (.cons (wj ho.l (by decide) fun q h=>.tail _ (.tail _ (List.mem_append_right _ (List.mem_append_left _ h)))) (.cons (wj ho.d (by decide) fun q h=>.tail _ (.tail _ (List.mem_append_right _ (List.mem_append_right _ (List.mem_append_left _ h))))) (.cons (wj ho.f (by decide) fun q h=>.tail _ (.tail _ (List.mem_append_right _ (List.mem_append_right _ (List.mem_append_right _ (List.mem_append_left _ h)))))) (.cons (wj ho.t (by decide) fun q h=>.tail _ (.tail _ (List.mem_append_right _ (List.mem_append_right _ (List.mem_append_right _ (List.mem_append_right _ (List.mem_append_left _ h))))))) (.cons (wj ho.s (by decide) fun q h=>.tail _ (.tail _ (List.mem_append_right _ (List.mem_append_right _ (List.mem_append_right _ (List.mem_append_right _ (List.mem_append_right _ h))))))) .nil)))))))
end
theorem B8(w:bj)(d:av)(hs:d.size≤4):(bZ w d).cells.length≤w.cells.length+4∧(bZ w d).locks.length≤w.locks.length+1∧(bZ w d).conds.length≤w.conds.length+1∧(bZ w d).futures.length≤w.futures.length+1∧(bZ w d).threads=w.threads∧(bZ w d).sites=w.sites:=by
 unfold bZ
 repeat' split
 all_goals simp[av.celW]
 all_goals omega
theorem xg(w:bj):∀(l:List av),(∀d∈l,d.size≤4)→(l.foldl bZ w).cells.length≤w.cells.length+4*l.length∧(l.foldl bZ w).locks.length≤w.locks.length+l.length∧(l.foldl bZ w).conds.length≤w.conds.length+l.length∧(l.foldl bZ w).futures.length≤w.futures.length+l.length∧(l.foldl bZ w).threads=w.threads∧(l.foldl bZ w).sites=w.sites:=by
 intro l
 induction l generalizing w with
 | nil=>intro _;simp
 | cons d l ih=>
  intro h
  obtain⟨a1,a2,a3,a4,a5,a6⟩:=B8 w d (h d (.head _))
  obtain⟨b1,b2,b3,b4,b5,b6⟩:=ih (bZ w d) fun x hx=>h x (.tail _ hx)
  simp only[List.foldl_cons,List.length_cons]
  exact⟨by omega,by omega,by omega,by omega,b5.trans a5,b6.trans a6⟩
theorem AA(ts:List ai):∀(w:bj),(ts.foldl cD w).sites.length=w.sites.length+bf (fun t=>aa.cnts t.body) ts:=by
 induction ts with
 | nil=>intro w;simp[bf]
 | cons t l ih=>intro w;rw[List.foldl_cons,ih];simp[cD,sitL_len,bf];omega
theorem D4(p:aK)(hp:fD p)(hpass:sJ p)(hw:p.wt≤200000):aO Try.prog 13 [.agg p.enc] (.agg (bD p).enc):=by
 obtain⟨ln,hck⟩:=hpass
 have hkind:∀d∈p.decls,(1≤d.kind∧d.kind≤6)∧d.size≤4:=fun d hd=>by
  obtain⟨i,hi,rfl⟩:=List.getElem_of_mem hd
  refine⟨?_,(hp.decls i hi).size⟩
  have h1:=hp.shaped
  unfold Du at h1
  rw[Bool.and_eq_true]at h1
  have h2:=List.all_eq_true.1 h1.1 _ (List.getElem_mem hi)
  unfold FW Jj at h2
  simp only[Bool.and_eq_true,Bool.not_eq_true',Bool.or_eq_false_iff,decide_eq_false_iff_not]at h2
  omega
 have hdl:=p.decls_len
 have htl:=p.threads_len
 refine am.fz (wh _ _ _ ?_)
 unfold mO aK.enc
 generalize hQ:(fun(v:AV) (L:SH)=>∃v2 L2,aV [v] L [v2] L2∧v2=.agg (bD p).enc∧L2=[])=Q
 have hq:∀v L,Fz L v (.agg (bD p).enc)→Q v L:=fun v L h=>by
  subst hQ;exact⟨_,[],aV.all h,rfl,rfl⟩
 clear hQ
 repeat' (first | refine st ?_ | ((with_reducible refine aq 12 ?_);refine aj (hck) ?_) | ((with_reducible refine al 12 ?_);refine ab (hck) ?_) | refine sb (fun nb_ hnb_=>?_) | refine s2 (fun h=>?_) (fun h=>?_) | fail)
 rename_i b0 hb0 b2 hb2
 have hlen:∀k,((p.decls.take k).foldl bZ bj.zero).cells.length<2^30∧((p.decls.take k).foldl bZ bj.zero).locks.length<2^30∧((p.decls.take k).foldl bZ bj.zero).conds.length<2^30∧((p.decls.take k).foldl bZ bj.zero).futures.length<2^30:=fun k=>by
  obtain⟨a1,a2,a3,a4,_,_⟩:=xg bj.zero (p.decls.take k) fun d hd=>(hkind d (List.mem_of_mem_take hd)).2
  have:(p.decls.take k).length≤200000:=by rw[List.length_take];omega
  simp only[bj.zero,List.length_nil]at a1 a2 a3 a4
  exact⟨by show List.length _<_;unfold bj.zero;omega,by show List.length _<_;unfold bj.zero;omega,by show List.length _<_;unfold bj.zero;omega,by show List.length _<_;unfold bj.zero;omega⟩
 obtain⟨_,_,_,_,hth0,hsi0⟩:=xg bj.zero p.decls fun d hd=>(hkind d hd).2
 refine cH (β:=Option Nat×Option Nat×Option Nat×Option Nat×Option Nat×Option Nat) p.decls.length (fun i q=>([.pptr [[.lst (p.decls.map av.enc),.lst (p.threads.map ai.enc)]] 0 0,.ptr b2 0 0,.ptr nb_ 0 0,.int .i64 i],wz b2 nb_ q.1 q.2.1 q.2.2.1 q.2.2.2.1 q.2.2.2.2.1 q.2.2.2.2.2 ((p.decls.take i).foldl bZ bj.zero)))
  (fun i q=>wS nb_ q.1 q.2.1 q.2.2.1 q.2.2.2.1 q.2.2.2.2.1 q.2.2.2.2.2 ((p.decls.take i).foldl bZ bj.zero)) (none,none,none,none,none,none) ⟨fun _=>rfl,fun _=>rfl,fun _=>rfl,fun _=>rfl,fun _=>rfl,fun _=>rfl,nofun⟩ ?_ ?_
 ·exact aV.rowA (K:=[]) (A:=[]) (R:=[(b2,⟨6,[He]⟩)]) (rows:=[[.nils,.nils,.nils,.nils,.nils,.nils]]) (.one (.here _) (.one (.here _) (.nil _))) rfl (co (.cons .nile (.cons .nile (.cons .nile (.cons .nile (.cons .nile (.cons .nile .nil))))))) rfl
 rintro i ⟨oc,ol,od,of,ot,os⟩ hi ho
 dsimp only at ho ⊢
 unfold kO
 generalize hnx:(fun(vs':List AV) (L':SH)=>∃j o',i<j∧j≤p.decls.length∧_)=nx
 rcases Nat.lt_or_ge i p.decls.length with g1 | g1
 ·have hd:=ct g1
  have hi1:=bH g1 (by omega)
  have hgo:F3 (nx [.pptr [[.lst (p.decls.map av.enc),.lst (p.threads.map ai.enc)]] 0 0,.ptr b2 0 0,.ptr nb_ 0 0,.int .i64 ((i+1:Nat):Int)]) b2 nb_ (bZ ((p.decls.take i).foldl bZ bj.zero) p.decls[i]):=.of fun oc2 ol2 od2 of2 ot2 os2 L' q1 q2=>by
   subst hnx
   rw[←gN (f:=bZ) (a:=bj.zero) g1]at q1 q2
   exact⟨i+1,(oc2,ol2,od2,of2,ot2,os2),by omega,by omega,q1,aV.pick q2 rfl⟩
  obtain⟨a1,a2,a3,a4⟩:=hlen i
  have hk:=hkind _ (List.getElem_mem g1)
  have hr:=Hf (rows:=p.decls.map av.enc) (tl:=p.threads.map ai.enc) (d:=p.decls[i]) (aC g1) hk.1 (by omega) hi1 ho a1 a2 a3 a4 hgo
  clear hnx hgo
  generalize hW:wz b2 nb_ oc ol od of ot os ((p.decls.take i).foldl bZ bj.zero)=LW at *
  repeat' (first | exact hr | refine st ?_ | refine sb (fun nb_ hnb_=>?_) | refine s2 (fun h=>?_) (fun h=>?_) | fail)
 ·have hd:=ee g1
  have e:i=p.decls.length:=by omega
  subst e
  rw[List.take_length]at ho ⊢
  have hl:=Ht (Q:=Q) (dl:=p.decls.map av.enc) (ts:=p.threads) (b2:=b2) (by omega) (fun t ht=>?hb) hth0 hsi0 (fun k=>?hs) ho hq
  case hb=>
   obtain⟨j,hj,rfl⟩:=List.getElem_of_mem ht
   have:=p.thread_wt hj
   unfold ai.wt at this
   omega
  case hs=>
   rw[AA,hsi0]
   have h1:=jw (fun t:ai=>aa.cnts t.body) p.threads k
   have h2:=hp.stmts
   simp only[bj.zero,List.length_nil]
   omega
  generalize hW:wz b2 nb_ oc ol od of ot os (p.decls.foldl bZ bj.zero)=LW at *
  repeat' (first | exact hl | refine st ?_ | refine sb (fun nb_ hnb_=>?_) | refine s2 (fun h=>?_) (fun h=>?_) | fail)
end Go.Proofs.Ytljkdffikfkcgaa.Am
end
section
namespace Go.Proofs.Ytljkdffikfkcgaa.Am
set_option linter.unusedVariables false
set_option maxRecDepth 100000
def pw(Q:R)(L18:SH)(x19:AV):Prop:=
 bo 1 x19 L18 fun x30=>
 bo 2 x19 L18 fun x32=>
 bo 3 x19 L18 fun x34=>
 W.bslice 1 [(.int .i64 0)] 3 [(0,x30),(1,x32),(2,x34)] L18 fun x35 L36=>
 Q x35 L36
def px(Q:R)(L46:SH)(x48 x47:AV):Prop:=
 wb .eql 3 x48 (.int .i64 9) fun x54=>
 wk x54 (
 bo 2 x47 L46 fun x56=>
 bo 3 x47 L46 fun x58=>
 W.bslice 1 [(.int .i64 0)] 2 [(0,x56),(1,x58)] L46 fun x59 L60=>
 Q x59 L60) (
 Q .nils L46)
def py(Q:R)(v44:Vs)(L46:SH):Prop:=
 wu 1 4 37 v44 fun x47 x48 x49=>
 wk x49 (
 bo 2 x47 L46 fun x51=>
 W.bslice 1 [(.int .i64 0)] 1 [(0,x51)] L46 fun x52 L53=>
 Q x52 L53) (
 (px Q L46 x48 x47))
def pz(Q:R)(L18:SH)(x20 x19:AV):Prop:=
 W.join (py Q) fun j45=>
 wb .eql 3 x20 (.int .i64 8) fun x61=>
 wk x61 (
 j45 [x19,x20,x61] L18) (
 wb .eql 3 x20 (.int .i64 26) fun x62=>
 j45 [x19,x20,x62] L18)
def pA(Q:R)(L18:SH)(x20 x19:AV):Prop:=
 wb .eql 3 x20 (.int .i64 7) fun x37=>
 wk x37 (
 bo 1 x19 L18 fun x39=>
 bo 3 x19 L18 fun x41=>
 W.bslice 1 [(.int .i64 0)] 2 [(0,x39),(1,x41)] L18 fun x42 L43=>
 Q x42 L43) (
 (pz Q L18 x20 x19))
def pB(Q:R)(v16:Vs)(L18:SH):Prop:=
 wu 1 4 13 v16 fun x19 x20 x21=>
 wk x21 (
 bo 1 x19 L18 fun x23=>
 bo 2 x19 L18 fun x25=>
 W.bslice 1 [(.int .i64 0)] 2 [(0,x23),(1,x25)] L18 fun x26 L27=>
 Q x26 L27) (
 wb .eql 3 x20 (.int .i64 4) fun x28=>
 wk x28 (
 (pw Q L18 x19)) (
 (pA Q L18 x20 x19)))
def pC(Q:R)(L8:SH)(x10 x9:AV):Prop:=
 W.join (pB Q) fun j17=>
 wb .eql 3 x10 (.int .i64 2) fun x63=>
 wk x63 (
 j17 [x9,x10,x63] L8) (
 wb .eql 3 x10 (.int .i64 3) fun x64=>
 j17 [x9,x10,x64] L8)
def pD(Q:R)(v6:Vs)(L8:SH):Prop:=
 wu 1 4 5 v6 fun x9 x10 x11=>
 wk x11 (
 bo 1 x9 L8 fun x13=>
 W.bslice 1 [(.int .i64 0)] 1 [(0,x13)] L8 fun x14 L15=>
 Q x14 L15) (
 (pC Q L8 x10 x9))
def pE(j7:Kn)(L3:SH)(x5 x2:AV):Prop:=
 wb .eql 3 x5 (.int .i64 6) fun x66=>
 wk x66 (
 j7 [x2,x5,x66] L3) (
 wb .eql 3 x5 (.int .i64 10) fun x67=>
 wk x67 (
 j7 [x2,x5,x67] L3) (
 wb .eql 3 x5 (.int .i64 27) fun x68=>
 j7 [x2,x5,x68] L3))
def im(t0:AV)(L:SH)(Q:R):Prop:=
 xb t0 L fun x2 L3=>
 bo 0 x2 L3 fun x5=>
 W.join (pD Q) fun j7=>
 wb .eql 3 x5 (.int .i64 1) fun x65=>
 wk x65 (
 j7 [x2,x5,x65] L3) (
 (pE j7 L3 x5 x2))
theorem pF(t0:AV)(L:SH)(Q:R)(h:im t0 L Q):am Try.prog 16 [t0] L Q:=
 bC ⟨fun k=>if k=5 then some [1,4,5]else if k=8 then some [1,4,13]else if k=15 then some [1,4,37]else none,fun _=>[],fun k=>if k=0 then [1]else [],fun _=>[]⟩ Try.func16 (by kernel_rfl) (by kernel_rfl) h
end Go.Proofs.Ytljkdffikfkcgaa.Am
end
section
namespace Go.Proofs.Ytljkdffikfkcgaa.Am
set_option maxRecDepth 100000
set_option maxHeartbeats 1000000
set_option linter.unusedVariables false
def aU(i:aw):List Int:=
 if i.op=1∨i.op=6∨i.op=10∨i.op=27 then [i.a]else
 if i.op=2∨i.op=3 then [i.a,i.b]else
 if i.op=4 then [i.a,i.b,i.c]else
 if i.op=7 then [i.a,i.c]else
 if i.op=8∨i.op=26 then [i.b]else
 if i.op=9 then [i.b,i.c]else []
theorem Bs(i:aw):aO Try.prog 16 [.agg i.enc] (.lst ((aU i).map aJ)):=by
 obtain⟨op,ia,ib,ic,n,site⟩:=i
 refine am.fz (pF _ _ _ ?_)
 unfold im
 generalize hQ:(fun(v:AV) (L:SH)=>∃v2 L2,aV [v] L [v2] L2∧v2=AV.lst ((aU ⟨op,ia,ib,ic,n,site⟩).map aJ)∧L2=[])=Q
 have hq:∀(l:List Int),aU ⟨op,ia,ib,ic,n,site⟩=l→∀v L,Fz L v (.lst (l.map aJ))→Q v L:=fun l hl v L h=>by
  subst hQ;exact⟨_,[],aV.all h,by rw[hl],rfl⟩
 clear hQ
 repeat' (first | refine st ?_ | refine sb (fun nb_ hnb_=>?_) | refine s2 (fun h=>?_) (fun h=>?_) | fail)
 all_goals first
  | exact hq [ia] (by simp_all[aU];done) _ _ (Fz.sls (l:=[ia]) (f:=aJ) (.head _) rfl (by decide) rfl)
  | exact hq [ib] (by simp_all[aU];done) _ _ (Fz.sls (l:=[ib]) (f:=aJ) (.head _) rfl (by decide) rfl)
  | exact hq [ia,ib] (by simp_all[aU];done) _ _ (Fz.sls (l:=[ia,ib]) (f:=aJ) (.head _) rfl (by decide) rfl)
  | exact hq [ia,ic] (by simp_all[aU];done) _ _ (Fz.sls (l:=[ia,ic]) (f:=aJ) (.head _) rfl (by decide) rfl)
  | exact hq [ib,ic] (by simp_all[aU];done) _ _ (Fz.sls (l:=[ib,ic]) (f:=aJ) (.head _) rfl (by decide) rfl)
  | exact hq [ia,ib,ic] (by simp_all[aU];done) _ _ (Fz.sls (l:=[ia,ib,ic]) (f:=aJ) (.head _) rfl (by decide) rfl)
  | exact hq [] (by simp_all[aU];done) _ _ .nils
end Go.Proofs.Ytljkdffikfkcgaa.Am
end
section
namespace Go.Proofs.Ytljkdffikfkcgaa.Am
set_option maxRecDepth 100000
set_option maxHeartbeats 2000000
set_option linter.unusedVariables false
theorem am.fzL{P:Program}{f:FuncId}{args args2:List AV}{L L2:SH}{Q:AV→SH→Prop}(hz:aV args L args2 L2)(h:am P f args2 L2 Q):am P f args L Q:=⟨h.1,fun H hb hs=>by
 obtain⟨H2,f1,f2,f3,f4⟩:=iJ hz hs hb
 obtain⟨v,H',L',h1,h2,h3⟩:=h.2 H2 f1.bd f1.sub
 refine⟨v,H',L',fun w σ vs hW hvs=>?_,f1.trans (h2.low (by rw[f2];exact Nat.le_refl _)) (Nat.le_refl _),h3⟩
 obtain⟨g1,g2,g3⟩:=f3 w σ hW
 refine(h1 w σ vs g1 (g3 vs hvs)).mono ?_
 rintro e w' ⟨v',σ',rfl,k1,k2,e1,k4⟩
 exact⟨v',σ',rfl,k1,k2,⟨e1.os,e1.tape,e1.output,e1.size,fun c hc hT=>e1.keep c hc (fun h=>hT (g2 c h)),e1.shape,e1.sig,e1.eqfr,e1.frame,fun c hc=>(e1.own c hc).imp (g2 c) id⟩,fun c pl hc=>by rw[←f2];exact k4 c pl hc⟩⟩
def sV(a:Int)(l:List Int):Int:=l.foldl (fun a r=>max a (r+1)) a
def mq(a:Int)(l:List aw):Int:=l.foldl (fun a i=>sV a (aU i)) a
theorem Hu{k:IntKind}{a b:Int}{K:AV→Prop}(h:K (.int k (max a b))):W.mnx true (.int k a) (.int k b) K:=by
 have:(if b > a then b else a)=max a b:=by split<;>omega
 rw[Cu,this];exact h
section
variable {n81:Kn} {x1 x2 x3 x4 x5 x6:AV} {bt bg k:Nat} {v:AV} {R:SH}
theorem Hv(l:List Int)(a:Int)(hl:l.length<2^30)(hr:∀r∈l,0≤r∧r<1000)(hk1:IntKind.i64.wrap ((k:Int)+1)=((k+1:Nat):Int))
  (hn:n81 [x1,x2,x3,x4,x5,x6,.ptr bt 0 0,.int .i64 ((k+1:Nat):Int)] ((bt,⟨2,[[.int .i64 (sV a l),v]]⟩)::R)) :
  W.loop (fa n81) [x1,x2,x3,x4,x5,x6,.ptr bt 0 0,.int .i64 k,.lst (l.map aJ),.int .i64 0] ((bt,⟨2,[[.int .i64 a,v]]⟩)::R):=by
 refine FT l.length (fun _=>True) (fun j=>([x1,x2,x3,x4,x5,x6,.ptr bt 0 0,.int .i64 k,.lst (l.map aJ),.int .i64 j],(bt,⟨2,[[.int .i64 (sV a (l.take j)),v]]⟩)::R)) (by omega) trivial rfl rfl (fun j h hd hi _ nx hx=>?_) (fun j e hd _ nx=>?_)
 all_goals unfold fa
 ·have hj:=aC (f:=aJ) h
  have hb:=hr _ (List.getElem_mem h)
  have h1:IntKind.i64.wrap (l[j]+1)=l[j]+1:=IntWalk.i64_in _ (by omega)
  have e:sV a (l.take (j+1))=max (sV a (l.take j)) (l[j]+1):=by unfold sV;rw[gN h]
  repeat' (first | refine st ?_ | refine Hu ?_ | refine sb (fun nb_ hnb_=>?_) | refine s2 (fun h=>?_) (fun h=>?_) | fail)
  refine hx trivial _ _ ?_
  rw[e]
  exact .refl _ _
 ·subst e
  rw[List.take_length]
  repeat' (first | refine st ?_ | refine sb (fun nb_ hnb_=>?_) | refine s2 (fun h=>?_) (fun h=>?_) | fail)
  exact hn
theorem Hw{n23:Kn}{w:bj}{loc:List aL}{b:Nat}{site next:Int}{M L0:SH}(out:List aw)(a:Int)(hl:out.length<2^30)(hr:∀i∈out,∀r∈aU i,0≤r∧r<1000)
  (hn:fb n23 ((bt,⟨2,[[.int .i64 (mq a out),v]]⟩)::(bg,cz w loc (au (some b) out.length) site next)::(b,⟨6,out.map aw.enc⟩)::M) x3 (.ptr bt 0 0) x5 x1 x2 x4) :
  ez L0 ((bt,⟨2,[[.int .i64 a,v]]⟩)::(bg,cz w loc (au (some b) out.length) site next)::(b,⟨6,out.map aw.enc⟩)::M)→W.loop (fe n23) [x1,x2,x3,x4,x5,.ptr bg 0 0,.ptr bt 0 0,.int .i64 0] L0:=by
 intro hp
 refine cH (β:=Unit) out.length (fun j _=>([x1,x2,x3,x4,x5,.ptr bg 0 0,.ptr bt 0 0,.int .i64 j],(bt,⟨2,[[.int .i64 (mq a (out.take j)),v]]⟩)::(bg,cz w loc (au (some b) out.length) site next)::(b,⟨6,out.map aw.enc⟩)::M)) (fun _ _=>True) () trivial (aV.pick hp rfl) ?_
 intro j _ hj0 _
 dsimp only
 unfold fe
 rcases Nat.lt_or_ge j out.length with h | h
 ·have hd:=ct h
  have hi:=bH h (by omega)
  generalize hnx:(fun(vs':List AV) (L':SH)=>∃k o',j<k∧k≤out.length∧_)=nx
  have hx:∀vs' L',aV vs' L' [x1,x2,x3,x4,x5,.ptr bg 0 0,.ptr bt 0 0,.int .i64 ((j+1:Nat):Int)] ((bt,⟨2,[[.int .i64 (mq a (out.take (j+1))),v]]⟩)::(bg,cz w loc (au (some b) out.length) site next)::(b,⟨6,out.map aw.enc⟩)::M)→nx vs' L':=fun vs' L' hf=>by
   subst hnx;exact⟨j+1,(),by omega,by omega,trivial,hf⟩
  clear hnx
  have hj:=aC (f:=aw.enc) h
  have e:mq a (out.take (j+1))=sV (mq a (out.take j)) (aU out[j]):=by unfold mq;rw[gN h]
  have hlen:(aU out[j]).length<2^30:=by
   generalize out[j]=i
   unfold aU
   repeat' split
   all_goals simp
  have hrun:=Hv (n81:=nx) (x1:=x1) (x2:=x2) (x3:=x3) (x4:=x4) (x5:=x5) (x6:=.ptr bg 0 0) (bt:=bt) (v:=v) (R:=(bg,cz w loc (au (some b) out.length) site next)::(b,⟨6,out.map aw.enc⟩)::M) (aU out[j]) (mq a (out.take j)) hlen (hr _ (List.getElem_mem h)) hi (by
   refine hx _ _ ?_
   rw[e]
   exact .refl _ _)
  clear hx
  repeat' (first | exact hrun | refine st ?_ | ((with_reducible refine aq 16 ?_);refine aj (Bs out[j]) ?_) | ((with_reducible refine al 16 ?_);refine ab (Bs out[j]) ?_) | refine sb (fun nb_ hnb_=>?_) | refine s2 (fun h=>?_) (fun h=>?_) | fail)
 ·have hd:=ee h
  have e:j=out.length:=by omega
  subst e
  rw[List.take_length]
  generalize(fun(vs':List AV) (L':SH)=>∃k o',out.length<k∧k≤out.length∧_)=nx
  repeat' (first | exact hn | refine st ?_ | refine sb (fun nb_ hnb_=>?_) | refine s2 (fun h=>?_) (fun h=>?_) | fail)
end
def jz:aw:=⟨28,0,0,0,0,-1⟩
def Cd(loc:List aL)(c:List aw):lf:=⟨mq loc.length (c++[jz]),c++[jz]⟩
def I4(b19:Nat)(w:bj)(v:AV):Nat×Blk:=(b19,⟨7,[[.lst (w.cells.map fq.enc),.lst (w.locks.map eB.enc),.lst (w.conds.map mo.enc),.lst (w.futures.map az),.lst (w.threads.map az),.lst (w.sites.map ft.enc),v]]⟩)
def F5(b2 b19:Nat)(w:bj)(oT:Option Nat)(ts:List lf):SH:=I4 b19 w (au oT ts.length)::(b2,⟨7,[[.nils,.nils,.nils,.nils,.nils,.nils,.nils]]⟩)::ao oT 2 (ts.map lf.enc)
section
variable {n23:Kn} {b2 b19 i n n2:Nat} {w:bj} {oT:Option Nat} {ts:List lf} {dl:List (List AV)} {th:List ai} {c:List aw}
theorem Hy(hi:i<th.length)(hi1:IntKind.i64.wrap ((i:Int)+1)=((i+1:Nat):Int))(hT:oT=none→ts=[])(hts:ts.length<2^20)(hK:c7 14 [.lst (th[i].body.map aa.enc)] w th[i].locals n 0 c n2)(hc:c.length<2^20)(hn2:n2<2^20)(hr:∀i∈c++[jz],∀r∈aU i,0≤r∧r<1000)
  (hn:∀(nb:Nat) (L':SH),aV [.pptr [[.lst dl,.lst (th.map ai.enc)]] 0 0,.ptr b2 0 0,.ptr b19 0 0,.int .i64 n2,.int .i64 ((i+1:Nat):Int)] L' [.pptr [[.lst dl,.lst (th.map ai.enc)]] 0 0,.ptr b2 0 0,.ptr b19 0 0,.int .i64 n2,.int .i64 ((i+1:Nat):Int)] (F5 b2 b19 w (some nb) (ts++[Cd th[i].locals c]))→n23 [.pptr [[.lst dl,.lst (th.map ai.enc)]] 0 0,.ptr b2 0 0,.ptr b19 0 0,.int .i64 n2,.int .i64 ((i+1:Nat):Int)] L') :
  ff n23 (F5 b2 b19 w oT ts) (.ptr b19 0 0) (.pptr [[.lst dl,.lst (th.map ai.enc)]] 0 0) (.int .i64 i) (.int .i64 n) (.ptr b2 0 0):=by
 have hx:=aC (f:=ai.enc) hi
 have hT0:oT=none→ts.map lf.enc=[]:=fun e=>by rw[hT e];rfl
 unfold ff F5 I4
 repeat' (first | refine st ?_ | ((with_reducible refine aq 14 ?_);(refine⟨am.fzL (aV.row (K:=[]) (rows':=(cz w th[i].locals (au none 0) 0 n).rows) (.refl _) rfl (co (.cons (.refl _) (.cons (.refl _) (.cons (.refl _) (.cons (.refl _) (.cons (.refl _) (.cons (.refl _) (.cons (.refl _) (.cons .nile (.cons (.refl _) (.cons (.refl _) .nil)))))))))))) (pu (o:=none) (out:=[]) (site:=0) hK rp (.here _) (fun _=>rfl) rfl (by omega) (by omega) (fun o_ s_ ho_=>?_)).1⟩;dsimp only[List.nil_append,List.cons_append])) | ((with_reducible refine aq 15 ?_);(refine cm (i:=⟨28,0,0,0,0,0⟩) (site:=-1) rp rp (by assumption) (by omega) (fun b_=>?_);simp only[List.cons_append,List.append_assoc,List.nil_append,List.append_nil])) | refine sb (fun nb_ hnb_=>?_) | refine s2 (fun h=>?_) (fun h=>?_) | fail)
 have hle:(c++[jz]).length<2^30:=by simp;omega
 refine Hw (out:=c++[jz]) (b:=b_) (w:=w) (loc:=th[i].locals) (site:=-1) (next:=n2) (M:=(b19,⟨7,[[.lst (w.cells.map fq.enc),.lst (w.locks.map eB.enc),.lst (w.conds.map mo.enc),.lst (w.futures.map az),.lst (w.threads.map az),.lst (w.sites.map ft.enc),au oT ts.length]]⟩)::(b2,⟨7,[[.nils,.nils,.nils,.nils,.nils,.nils,.nils]]⟩)::ao oT 2 (ts.map lf.enc)) th[i].locals.length hle hr ?_ (.one (.here _) (.one (.here _) (ez.slot (o:=some b_) (n:=6) (.there _ (.there _ (.skip _ _ _ .last))) (.one (.here _) (.one (.here _) (.slotl rp))))))
 unfold fb
 repeat' (first | refine st ?_ | refine cI rp rp (by simp) (fun e=>by first | simp[hT0 e]) (by rfl) (by simp) (by simp;omega) (by simp;omega) (by rfl) (fun nb_ hnb_=>?_) | refine sb (fun nb_ hnb_=>?_) | refine s2 (fun h=>?_) (fun h=>?_) | fail)
 have e:F5 b2 b19 w (some nb_) (ts++[Cd th[i].locals c])=[I4 b19 w (.sl nb_ 0 (ts.length+1)),(b2,⟨7,[[.nils,.nils,.nils,.nils,.nils,.nils,.nils]]⟩)]++(nb_,⟨2,(ts++[Cd th[i].locals c]).map lf.enc⟩)::[]:=by
  unfold F5;rw[List.length_append];rfl
 refine hn nb_ _ ?_
 rw[e]
 refine aV.rowA (rows:=ts.map lf.enc++[[.int .i64 (mq th[i].locals.length (c++[jz])),.sl b_ 0 (c++[jz]).length]]) (.one (.there _ (.there _ (.there _ (.there _ (.there _ (.here _)))))) (.one (.there _ (.there _ (.there _ (.there _ (.there _ (.here _)))))) (.one (.here _) (.nil _)))) (by simp) (cy (f:=lf.enc) (x:=Cd th[i].locals c) (.cons (.refl _) (.cons (Fz.sls (l:=c++[jz]) (f:=aw.enc) (size:=6) mm rfl (by decide) rfl) .nil))) rfl
end
end Go.Proofs.Ytljkdffikfkcgaa.Am
end
