/- A part of the proof; the statement is proved in the last part. -/
import Derived.Test.YtljkdffikfkcgaaGreatQ2m
set_option linter.unusedSimpArgs false
set_option linter.unusedVariables false
section
namespace Go.Proofs.YtljkdffikfkcgaaGreat.Am
set_option maxRecDepth 100000
set_option maxHeartbeats 2000000
set_option linter.unusedVariables false
theorem xJ(o:Option Nat)(l:List eG)(x:aM)(h0:o=none→l=[])(hl:l.length<2^62):
  aj Tryz.prog 42 [aq o l.length,.str x] (am o 2 (l.map eG.enc)) fun u K=>u=.int .i64 (bA l x)∧K=am o 2 (l.map eG.enc):=by
 refine jU _ _ _ _ ?_
 unfold gL
 generalize hL:am o 2 (l.map eG.enc)=L
 generalize hQ:(fun(u:AV) (K:SH)=>u=AV.int .i64 (bA l x)∧K=L)=Q
 have hq:∀r:Int,r=bA l x→Q (.int .i64 r) L:=fun r h=>by subst hQ h;exact⟨rfl,rfl⟩
 clear hQ
 subst hL
 cases o with
 | none=>
  have:=h0 rfl
  subst this
  dsimp only[am,aq,List.length_nil]at *
  refine eX 0 (fun _=>True) (fun i=>[.emp,.str x,.int .i64 i]) (by omega) trivial rfl (fun i h1 hd hi _ nx hn=>by omega) (fun i h1 hd _ nx=>?_)
  unfold eh
  repeat' (first | refine st ?_ | refine sb (fun nb_ hnb_=>?_) | refine s2 (fun h=>?_) (fun h=>?_) | fail)
  exact hq _ rfl
 | some b1=>
  dsimp only[am,aq]at *
  refine cL l (fun y=>decide (y.name=x)) (fun i=>[.sl b1 0 l.length,.str x,.int .i64 i]) hl rfl (fun i h1 hd hi hno nx hn=>?_) (fun i h1 hd hno nx=>?_)
  all_goals unfold eh
  ·have hx:=aw (f:=eG.enc) h1
   repeat' (first | refine st ?_ | refine sb (fun nb_ hnb_=>?_) | refine s2 (fun h=>?_) (fun h=>?_) | fail)
   ·exact hq _ (by rw[bA,gp h1 hno h])
   ·exact hn h
  ·repeat' (first | refine st ?_ | refine sb (fun nb_ hnb_=>?_) | refine s2 (fun h=>?_) (fun h=>?_) | fail)
   exact hq _ (by rw[bA,eB hno])
def Jd:List AV:=[.nils,.nils,.nils,.nils,.nils,.nils]
def xR(b2 b6:Nat)(oc ol od of ot os:Option Nat)(w:bu):SH:=
 (b6,⟨6,[[aq oc w.cells.length,aq ol w.locks.length,aq od w.conds.length,aq of w.futures.length,aq ot w.threads.length,aq os w.sites.length]]⟩)::(b2,⟨6,[Jd]⟩) ::
  (am oc 5 (w.cells.map fw.enc)++(am ol 2 (w.locks.map eG.enc)++(am od 2 (w.conds.map mO.enc)++(am of 1 (w.futures.map aA)++(am ot 1 (w.threads.map aA)++am os 3 (w.sites.map fx.enc))))))
structure yE(b6:Nat)(oc ol od of ot os:Option Nat)(w:bu):Prop where
 c:oc=none→w.cells=[]
 l:ol=none→w.locks=[]
 d:od=none→w.conds=[]
 f:of=none→w.futures=[]
 t:ot=none→w.threads=[]
 s:os=none→w.sites=[]
 n:∀b,ol=some b→b6≠b
def HT(K:SH→Prop)(b2 b6:Nat)(w:bu):Prop:=∀(oc ol od of ot os:Option Nat) (L':SH) (v0 v1 v2 v3 v4 v5:AV) (r0 r1 r2 r3 r4 r5:List (List AV)),yE b6 oc ol od of ot os w→
 eo L' ((b6,⟨6,[[v0,v1,v2,v3,v4,v5]]⟩)::(b2,⟨6,[Jd]⟩)::(am oc 5 r0++(am ol 2 r1++(am od 2 r2++(am of 1 r3++(am ot 1 r4++am os 3 r5))))))→
 [v0,v1,v2,v3,v4,v5]=[aq oc w.cells.length,aq ol w.locks.length,aq od w.conds.length,aq of w.futures.length,aq ot w.threads.length,aq os w.sites.length]→
 r0=w.cells.map fw.enc→r1=w.locks.map eG.enc→r2=w.conds.map mO.enc→r3=w.futures.map aA→r4=w.threads.map aA→r5=w.sites.map fx.enc→K L'
theorem HT.of{K:SH→Prop}{b2 b6:Nat}{w:bu}(h:∀(oc ol od of ot os:Option Nat) (L':SH),yE b6 oc ol od of ot os w→eo L' (xR b2 b6 oc ol od of ot os w)→K L'):HT K b2 b6 w:=by
 intro oc ol od of ot os L' v0 v1 v2 v3 v4 v5 r0 r1 r2 r3 r4 r5 h1 h2 h3 e0 e1 e2 e3 e4 e5
 simp only[List.cons.injEq,and_true]at h3
 obtain⟨rfl,rfl,rfl,rfl,rfl,rfl⟩:=h3
 subst e0 e1 e2 e3 e4 e5
 exact h oc ol od of ot os L' h1 h2
section
variable {n18:Kn} {b2 b6 i:Nat} {oc ol od of ot os:Option Nat} {w:bu} {rows tl:List (List AV)}
theorem HU{line size init:Int}{name on:aM}{kind:Int}(hk:kind=1∨kind=2)(hs:size≤1000)(hi1:IntKind.i64.wrap ((i:Int)+1)=((i+1:Nat):Int))(ho:yE b6 oc ol od of ot os w)(hlen:w.cells.length<2^30)
  (hn:HT (n18 [.pptr [[.lst rows,.lst tl]] 0 0,.ptr b2 0 0,.ptr b6 0 0,.int .i64 ((i+1:Nat):Int)]) b2 b6 {w with cells:=w.cells++au.celW ⟨kind,line,name,size,init,on⟩}) :
  W.loop (gM n18) [.pptr [[.lst rows,.lst tl]] 0 0,.ptr b2 0 0,.ptr b6 0 0,.int .i64 i,.pptr [[.int .i64 kind,.int .i64 line,.str name,.int .i64 size,.int .i64 init,.str on]] 0 0,.int .i64 0] (xR b2 b6 oc ol od of ot os w):=by
 generalize hN:(max size 1).toNat=N at *
 have hN1:N≤1000:=by omega
 have hcl:au.celW ⟨kind,line,name,size,init,on⟩=(List.range N).map fun k=>⟨name,(k:Nat),size,decide (kind=2),init⟩:=by unfold au.celW;rw[hN]
 rw[hcl]at hn
 obtain⟨WK,hWK⟩:∃f:Nat→bu,f=fun k=>{w with cells:=w.cells++(List.range k).map fun k=>⟨name,(k:Nat),size,decide (kind=2),init⟩}:=⟨_,rfl⟩
 refine cv (β:=Option Nat×Option Nat×Option Nat×Option Nat×Option Nat×Option Nat) N (fun k q=>([.pptr [[.lst rows,.lst tl]] 0 0,.ptr b2 0 0,.ptr b6 0 0,.int .i64 i,.pptr [[.int .i64 kind,.int .i64 line,.str name,.int .i64 size,.int .i64 init,.str on]] 0 0,.int .i64 k],xR b2 b6 q.1 q.2.1 q.2.2.1 q.2.2.2.1 q.2.2.2.2.1 q.2.2.2.2.2 (WK k)))
  (fun k q=>yE b6 q.1 q.2.1 q.2.2.1 q.2.2.2.1 q.2.2.2.2.1 q.2.2.2.2.2 (WK k)) (oc,ol,od,of,ot,os) (by subst hWK;show yE b6 oc ol od of ot os {w with cells:=w.cells++[]};rw[List.append_nil];exact ho) (by subst hWK;show aN _ _ _ (xR b2 b6 oc ol od of ot os {w with cells:=w.cells++[]});rw[List.append_nil];exact aN.refl _ _) ?_
 rintro k ⟨oc,ol,od,of,ot,os⟩ hk ho
 dsimp only at ho ⊢
 unfold gM
 generalize hnx:(fun(vs':List AV) (L':SH)=>∃j o',k<j∧j≤N∧_)=nx
 rcases Nat.lt_or_ge k N with g1 | g1
 ·have hd:=bW g1
  have hk1:=bc g1 (by omega)
  have hrs:List.range (k+1)=List.range k++[k]:=List.range_succ
  have hgo:HT (nx [.pptr [[.lst rows,.lst tl]] 0 0,.ptr b2 0 0,.ptr b6 0 0,.int .i64 i,.pptr [[.int .i64 kind,.int .i64 line,.str name,.int .i64 size,.int .i64 init,.str on]] 0 0,.int .i64 ((k+1:Nat):Int)]) b2 b6 {w with cells:=w.cells++(List.range k).map (fun k=>(⟨name,(k:Nat),size,decide (kind=2),init⟩:fw))++[⟨name,(k:Nat),size,decide (kind=2),init⟩]}:=.of fun oc2 ol2 od2 of2 ot2 os2 L' q1 q2=>by
   subst hnx
   subst hWK
   have e:(fun k=>({w with cells:=w.cells++(List.range k).map fun k=>(⟨name,(k:Nat),size,decide (kind=2),init⟩:fw)}:bu)) (k+1)={w with cells:=w.cells++(List.range k).map (fun k=>(⟨name,(k:Nat),size,decide (kind=2),init⟩:fw))++[⟨name,(k:Nat),size,decide (kind=2),init⟩]}:=by
    show({w with cells:=w.cells++(List.range (k+1)).map (fun k=>(⟨name,(k:Nat),size,decide (kind=2),init⟩:fw))}:bu)=_
    rw[hrs,List.map_append,←List.append_assoc];rfl
   exact⟨k+1,(oc2,ol2,od2,of2,ot2,os2),by omega,by omega,by rw[e];exact q1,by rw[e];exact aN.pick q2 rfl⟩
  clear hnx
  have hCl:(w.cells++(List.range k).map (fun k=>(⟨name,(k:Nat),size,decide (kind=2),init⟩:fw))).length<2^31:=by simp;omega
  obtain⟨wc,wl,wd,wf,wt,ws⟩:=w
  subst hWK
  dsimp only at *
  generalize wc++(List.range k).map (fun k=>(⟨name,(k:Nat),size,decide (kind=2),init⟩:fw))=C at *
  have hC0:oc=none→C.map fw.enc=[]:=fun e=>by have hc:=ho.c e;dsimp only at hc;rw[hc];rfl
  unfold xR
  repeat' (first | rw[hN] | refine st ?_ | refine cG rp rp (by simp) (fun e=>by first | simp[hC0 e]) (by rfl) (by simp) (by simp;omega) (by simp;omega) (by rfl) (fun nb_ hnb_=>?_) | refine Cg ?_ | refine sb (fun nb_ hnb_=>?_) | refine s2 (fun h=>?_) (fun h=>?_) | fail)
  exact hgo (some nb_) ol od of ot os _ _ _ _ _ _ _ _ _ _ _ _ _ ⟨nofun,ho.l,ho.d,ho.f,ho.t,ho.s,ho.n⟩ rp (by simp[aq]) (by rw[List.map_append];rfl) rfl rfl rfl rfl rfl
 ·have hd:=cX g1
  have e:k=N:=by omega
  subst e
  subst hWK
  dsimp only at *
  unfold xR
  repeat' (first | rw[hN] | refine st ?_ | refine Cg ?_ | refine sb (fun nb_ hnb_=>?_) | refine s2 (fun h=>?_) (fun h=>?_) | fail)
  exact hn oc ol od of ot os _ _ _ _ _ _ _ _ _ _ _ _ _ ho rp rfl rfl rfl rfl rfl rfl rfl
theorem GX{o:Option Nat}{l:List eG}{x:aM}{i:Nat}{us:List W.WR}{L L':SH}{KN:AV→SH→List Nat→Prop}(h0:o=none→l=[])(hl:l.length<2^62)(h2:da o 2 (l.map eG.enc) L L')(hf:∀z∈us,W.free z ⟨i,[],(am o 2 (l.map eG.enc)).names,[],true,[]⟩)
  (hk:KN (.int .i64 (bA l x)) (am o 2 (l.map eG.enc)++L') (am o 2 (l.map eG.enc)).names):W.dcallM Tryz.prog us i 42 [aq o l.length,.str x] L KN:=
 ⟨am o 2 (l.map eG.enc),L',h2.perm,hf,(xJ o l x h0 hl).mono fun u K ⟨h1,h3⟩=>by subst h1 h3;exact hk⟩
theorem GY{o:Option Nat}{b6 n i j k:Nat}{rows:List (List AV)}(h:∀b,o=some b→b6≠b):∀z∈[rm i rz,rm j ⟨ac (.ptr b6 0 n),[],[],[]⟩],W.free z ⟨k,[],(am o 2 rows).names,[],true,[]⟩:=by
 intro z hz
 simp only[List.mem_cons,List.not_mem_nil,or_false]at hz
 rcases hz with rfl | rfl
 ·exact⟨nofun,nofun,nofun,nofun,fun _=>rfl⟩
 ·refine⟨nofun,?_,nofun,nofun,fun _=>rfl⟩
  intro c hc
  have:c=b6:=by simpa[rm,ac]using hc
  subst this
  cases o with
  | none=>simp[am,SH.names]
  | some b=>have:=h b rfl;simpa[am,SH.names]using this
theorem Je{d:au}(hr:rows[i]? =some d.enc)(hk:1≤d.kind∧d.kind≤6)(hs:d.size≤1000)(hi1:IntKind.i64.wrap ((i:Int)+1)=((i+1:Nat):Int))(ho:yE b6 oc ol od of ot os w)(h1:w.cells.length<2^30)(h2:w.locks.length<2^30)(h3:w.conds.length<2^30)(h4:w.futures.length<2^30)
  (hn:HT (n18 [.pptr [[.lst rows,.lst tl]] 0 0,.ptr b2 0 0,.ptr b6 0 0,.int .i64 ((i+1:Nat):Int)]) b2 b6 (ca w d)) :
  gN n18 (xR b2 b6 oc ol od of ot os w) (.pptr [[.lst rows,.lst tl]] 0 0) (.int .i64 i) (.ptr b2 0 0) (.ptr b6 0 0):=by
 obtain⟨kind,line,name,size,init,on⟩:=d
 have hr':rows[i]? =some [.int .i64 kind,.int .i64 line,.str name,.int .i64 size,.int .i64 init,.str on]:=hr
 clear hr
 dsimp only at hk hs
 have hl0:ol=none→w.locks.map eG.enc=[]:=fun e=>by rw[ho.l e];rfl
 have hd0:od=none→w.conds.map mO.enc=[]:=fun e=>by rw[ho.d e];rfl
 have hf0:of=none→w.futures.map aA=[]:=fun e=>by rw[ho.f e];rfl
 have hlk:=xJ ol w.locks on ho.l (by omega)
 have hc:kind=1∨kind=2∨kind=3∨kind=4∨kind=5∨kind=6:=by omega
 unfold gN
 rcases hc with rfl | rfl | rfl | rfl | rfl | rfl
 ·have hst:ca w ⟨1,line,name,size,init,on⟩={w with cells:=w.cells++au.celW ⟨1,line,name,size,init,on⟩}:=by unfold ca;rw[if_pos (.inl rfl)]
  rw[hst]at hn
  have hw:=HU (.inl rfl) hs hi1 ho h1 hn
  unfold xR at hw ⊢
  repeat' (first | exact hw | refine st ?_ | refine sb (fun nb_ hnb_=>?_) | refine s2 (fun h=>?_) (fun h=>?_) | fail)
 ·have hst:ca w ⟨2,line,name,size,init,on⟩={w with cells:=w.cells++au.celW ⟨2,line,name,size,init,on⟩}:=by unfold ca;rw[if_pos (.inr rfl)]
  rw[hst]at hn
  have hw:=HU (.inr rfl) hs hi1 ho h1 hn
  unfold xR at hw ⊢
  repeat' (first | exact hw | refine st ?_ | refine sb (fun nb_ hnb_=>?_) | refine s2 (fun h=>?_) (fun h=>?_) | fail)
 ·have hst:ca w ⟨3,line,name,size,init,on⟩={w with locks:=w.locks++[⟨name,decide ((3:Int)=4)⟩]}:=rfl
  rw[hst]at hn
  unfold xR
  repeat' (first | refine st ?_ | refine cG rp rp (by simp) (fun e=>by first | simp[hl0 e]) (by rfl) (by simp) (by simp;omega) (by simp;omega) (by rfl) (fun nb_ hnb_=>?_) | refine sb (fun nb_ hnb_=>?_) | refine s2 (fun h=>?_) (fun h=>?_) | fail)
  exact hn oc (some nb_) od of ot os _ _ _ _ _ _ _ _ _ _ _ _ _ ⟨ho.c,nofun,ho.d,ho.f,ho.t,ho.s,fun b e=>by cases e;rintro rfl;exact hnb_ (by simp[SH.names])⟩ rp (by simp[aq]) rfl (by rw[List.map_append];rfl) rfl rfl rfl rfl
 ·have hst:ca w ⟨4,line,name,size,init,on⟩={w with locks:=w.locks++[⟨name,decide ((4:Int)=4)⟩]}:=rfl
  rw[hst]at hn
  unfold xR
  repeat' (first | refine st ?_ | refine cG rp rp (by simp) (fun e=>by first | simp[hl0 e]) (by rfl) (by simp) (by simp;omega) (by simp;omega) (by rfl) (fun nb_ hnb_=>?_) | refine sb (fun nb_ hnb_=>?_) | refine s2 (fun h=>?_) (fun h=>?_) | fail)
  exact hn oc (some nb_) od of ot os _ _ _ _ _ _ _ _ _ _ _ _ _ ⟨ho.c,nofun,ho.d,ho.f,ho.t,ho.s,fun b e=>by cases e;rintro rfl;exact hnb_ (by simp[SH.names])⟩ rp (by simp[aq]) rfl (by rw[List.map_append];rfl) rfl rfl rfl rfl
 ·have hst:ca w ⟨5,line,name,size,init,on⟩={w with conds:=w.conds++[⟨name,bA w.locks on⟩]}:=rfl
  rw[hst]at hn
  unfold xR
  rcases ol with _ | bl_
  all_goals
   repeat' (first | refine st ?_ | refine cG rp rp (by simp) (fun e=>by first | simp[hd0 e]) (by rfl) (by simp) (by simp;omega) (by simp;omega) (by rfl) (fun nb_ hnb_=>?_) | ((with_reducible refine al 42 ?_);refine GX ho.l (by omega) rp (GY ho.n) ?_;dsimp only[vx,vy,List.nil_append,List.cons_append]) | refine sb (fun nb_ hnb_=>?_) | refine s2 (fun h=>?_) (fun h=>?_) | fail)
  ·exact hn oc none (some nb_) of ot os _ _ _ _ _ _ _ _ _ _ _ _ _ ⟨ho.c,ho.l,nofun,ho.f,ho.t,ho.s,ho.n⟩ rp (by simp[aq]) rfl rfl (by rw[List.map_append];rfl) rfl rfl rfl
  ·exact hn oc (some bl_) (some nb_) of ot os _ _ _ _ _ _ _ _ _ _ _ _ _ ⟨ho.c,ho.l,nofun,ho.f,ho.t,ho.s,ho.n⟩ rp (by simp[aq]) rfl rfl (by rw[List.map_append];rfl) rfl rfl rfl
 ·have hst:ca w ⟨6,line,name,size,init,on⟩={w with futures:=w.futures++[name]}:=rfl
  rw[hst]at hn
  unfold xR
  repeat' (first | refine st ?_ | refine cG rp rp (by simp) (fun e=>by first | simp[hf0 e]) (by rfl) (by simp) (by simp;omega) (by simp;omega) (by rfl) (fun nb_ hnb_=>?_) | refine sb (fun nb_ hnb_=>?_) | refine s2 (fun h=>?_) (fun h=>?_) | fail)
  exact hn oc ol od (some nb_) ot os _ _ _ _ _ _ _ _ _ _ _ _ _ ⟨ho.c,ho.l,ho.d,nofun,ho.t,ho.s,ho.n⟩ rp (by simp[aq]) rfl rfl rfl (by rw[List.map_append];rfl) rfl rfl
end
end Go.Proofs.YtljkdffikfkcgaaGreat.Am
end
section
namespace Go.Proofs.YtljkdffikfkcgaaGreat.Am
set_option maxRecDepth 100000
set_option maxHeartbeats 2000000
set_option linter.unusedVariables false
def cE(w:bu)(loc:List aM)(v:AV)(site next:Int):Blk:=⟨10,[[.lst (w.cells.map fw.enc),.lst (w.locks.map eG.enc),.lst (w.conds.map mO.enc),.lst (w.futures.map aA),.lst (w.threads.map aA),.lst (w.sites.map fx.enc),.lst (loc.map aA),v,.int .i64 site,.int .i64 next]]⟩
def av.at_(i:av)(s:Int):av:={i with site:=s}
theorem Jf(bg:Nat)(w:bu)(loc:List aM)(o:Option Nat)(out:List av)(site next:Int)(i:av)(h0:o=none→out=[])(hl:out.length<2^30):
  aj Tryz.prog 20 [.ptr bg 0 0,.agg i.enc] ((bg,cE w loc (aq o out.length) site next)::am o 6 (out.map av.enc)) fun u K=>∃(v:AV) (b:Nat),u=v∧v=.tup []∧K=(bg,cE w loc (aq (some b) (out.length+1)) site next)::am (some b) 6 ((out++[i.at_ site]).map av.enc):=by
 refine aj.fz (tE _ _ _ _ ?_)
 unfold jW
 generalize hQ:(fun(v:AV) (L:SH)=>∃v2 L2,aN [v] L [v2] L2∧∃(v:AV) (b:Nat),v2=v∧v=AV.tup []∧L2=(bg,cE w loc (aq (some b) (out.length+1)) site next)::am (some b) 6 ((out++[i.at_ site]).map av.enc))=Q
 have hq:∀(b:Nat) (L:SH),eo L ((bg,cE w loc (aq (some b) (out.length+1)) site next)::am (some b) 6 (out.map av.enc++[(i.at_ site).enc]))→Q (.tup []) L:=fun b L h=>by
  subst hQ
  refine⟨_,_,aN.pickE h rfl (R2:=(bg,cE w loc (aq (some b) (out.length+1)) site next)::am (some b) 6 ((out++[i.at_ site]).map av.enc)) (by rw[List.map_append];rfl),_,b,rfl,rfl,rfl⟩
 clear hQ
 unfold cE at *
 repeat' (first | refine st ?_ | refine cG rp rp (by simp) (fun e=>by first | simp[h0 e]) (by rfl) (by simp) (by simp;omega) (by simp;omega) (by rfl) (fun nb_ hnb_=>?_) | refine sb (fun nb_ hnb_=>?_) | refine s2 (fun h=>?_) (fun h=>?_) | fail)
 cases i
 exact hq nb_ _ (.one (.there _ (.there _ (.there _ (.here _)))) (.one (.here _) (.nil _)))
section
variable {bg:Nat} {w:bu} {loc:List aM} {o:Option Nat} {out:List av} {site next:Int} {L L1 L2:SH}
theorem cp{i:av}{KL:R}(h1:dE bg (cE w loc (aq o out.length) site next) L L1)(h2:da o 6 (out.map av.enc) L1 L2)(h0:o=none→out=[])(hl:out.length<2^30)
  (hq:∀b:Nat,KL (.tup []) ((bg,cE w loc (aq (some b) (out++[i.at_ site]).length) site next)::(L2++am (some b) 6 ((out++[i.at_ site]).map av.enc)))):W.callM Tryz.prog 20 [.ptr bg 0 0,.agg i.enc] L KL:=by
 refine lB (M:=L2) (Jf bg w loc o out site next i h0 hl) (h1.perm.trans (h2.perm.cons _)) ?_
 rintro _ _ ⟨v,b,rfl,rfl,rfl⟩
 refine⟨_,.cons _ List.perm_append_comm,?_⟩
 have:=hq b
 rw[List.length_append]at this
 exact this
end
end Go.Proofs.YtljkdffikfkcgaaGreat.Am
end
section
namespace Go.Proofs.YtljkdffikfkcgaaGreat.Am
set_option maxRecDepth 100000
set_option maxHeartbeats 2000000
set_option linter.unusedVariables false
def Jg(f:FuncId)(args:List AV)(w:bu)(loc:List aM)(add:List av):Prop:=∀(bg:Nat) (o:Option Nat) (out:List av) (site next:Int),(o=none→out=[])→out.length+add.length<2^30→
 aj Tryz.prog f (.ptr bg 0 0::args) ((bg,cE w loc (aq o out.length) site next)::am o 6 (out.map av.enc)) fun u K=>∃(v:AV) (o':Option Nat),u=v∧v=.tup []∧(o'=none→out++add.map (·.at_ site)=[])∧K=(bg,cE w loc (aq o' (out++add.map (·.at_ site)).length) site next)::am o' 6 ((out++add.map (·.at_ site)).map av.enc)
theorem fi{P:Program}{g:FuncId}{args:List AV}{i:Nat}{L:SH}{KN:AV→SH→List Nat→Prop}(h:W.callM P g args L (fun v K=>∀ks,KN v K ks)):W.dcallM P [] i g args L KN:=
 ⟨L,[],by simp,nofun,h.1.mono fun v K' hr=>by simpa using hr _⟩
section
variable {w:bu} {loc:List aM}
theorem fj{f:FuncId}{args:List AV}{add:List av}{bg:Nat}{o:Option Nat}{out:List av}{site next:Int}{L L1 L2:SH}{KL:R}(h:Jg f args w loc add)(h1:dE bg (cE w loc (aq o out.length) site next) L L1)(h2:da o 6 (out.map av.enc) L1 L2)(h0:o=none→out=[])(hl:out.length+add.length<2^30)
  (hq:∀o':Option Nat,(o'=none→out++add.map (·.at_ site)=[])→KL (.tup []) ((bg,cE w loc (aq o' (out++add.map (·.at_ site)).length) site next)::(L2++am o' 6 ((out++add.map (·.at_ site)).map av.enc)))):W.callM Tryz.prog f (.ptr bg 0 0::args) L KL:=by
 refine lB (M:=L2) (h bg o out site next h0 hl) (h1.perm.trans (h2.perm.cons _)) ?_
 rintro _ _ ⟨v,o',rfl,rfl,h3,rfl⟩
 exact⟨_,.cons _ List.perm_append_comm,hq o' h3⟩
inductive dK (w:bu) (loc:List aM):ae→Int→List av→Prop where
 | num (n:Int) (s:aM) (l:List ae) (d:Int):dK w loc (.mk 1 n s l) d [⟨1,d,0,0,n,0⟩]
 | loc (n:Int) (s:aM) (l:List ae) (d:Int):0≤fP loc s→dK w loc (.mk 2 n s l) d [⟨2,d,fP loc s,0,0,0⟩]
 | load (n:Int) (s:aM) (l:List ae) (d:Int):fP loc s<0→dK w loc (.mk 2 n s l) d [⟨6,d,cW w.cells s,0,0,0⟩]
 | index (n:Int) (s:aM) (a:ae) (d:Int) (c1:List av) (b:Nat) (hb:b<w.cells.length):dK w loc a d c1→cW w.cells s=b→dK w loc (.mk 3 n s [a]) d (c1++[⟨7,d,b,d,w.cells[b].size,0⟩])
 | un (op n:Int) (s:aM) (a:ae) (d:Int) (c1:List av):op≠1→op≠2→op≠3→dK w loc a d c1→dK w loc (.mk op n s [a]) d (c1++[⟨3,d,d,0,op,0⟩])
 | bin (op n:Int) (s:aM) (a b:ae) (d:Int) (c1 c2:List av):op≠1→op≠2→op≠3→IntKind.i64.wrap (d+1)=d+1→dK w loc a d c1→dK w loc b (d+1) c2→dK w loc (.mk op n s [a,b]) d (c1++c2++[⟨4,d,d,d+1,op,0⟩])
theorem jF{Q:R}{bg:Nat}{out:List av}{site next:Int}{add:List av}
  (hQ:(fun(v:AV) (L:SH)=>∃v2 L2,aN [v] L [v2] L2∧∃(v:AV) (o':Option Nat),v2=v∧v=.tup []∧(o'=none→out++add.map (·.at_ site)=[])∧L2=(bg,cE w loc (aq o' (out++add.map (·.at_ site)).length) site next)::am o' 6 ((out++add.map (·.at_ site)).map av.enc))=Q)
  (o':Option Nat) (out':List av) (L:SH) (h:eo L ((bg,cE w loc (aq o' out'.length) site next)::am o' 6 (out'.map av.enc))) (he:out'=out++add.map (·.at_ site)) (hn:o'=none→out'=[]):Q (.tup []) L:=by
 subst hQ he
 exact⟨_,_,aN.pick h rfl,_,o',rfl,rfl,hn,rfl⟩
theorem fy(hw:w.cells.length<2^40)(hlo:loc.length<2^40){e:ae}{d:Int}{c:List av}(h:dK w loc e d c):Jg 62 [.agg e.row,.int .i64 d] w loc c:=by
 induction h with
 | num n s l d=>
  intro bg o out site next h0 hl
  refine aj.fz (b8 _ _ _ _ _ ?_)
  unfold bO ae.row
  generalize hQ:(fun(v:AV) (L:SH)=>∃v2 L2,aN [v] L [v2] L2∧∃(v:AV) (o':Option Nat),_)=Q
  have fin:=jF hQ
  clear hQ
  repeat' (first | refine st ?_ | ((with_reducible refine ao 20 ?_);(refine cp (i:=⟨1,d,0,0,n,0⟩) rp rp h0 (by simp at hl;omega) (fun b_=>?_))) | refine sb (fun nb_ hnb_=>?_) | refine s2 (fun h=>?_) (fun h=>?_) | fail)
  exact fin _ _ _ (.one (.here _) (.slotl .last)) rfl nofun
 | load n s l d hs=>
  intro bg o out site next h0 hl
  refine aj.fz (b8 _ _ _ _ _ ?_)
  unfold bO ae.row
  generalize hQ:(fun(v:AV) (L:SH)=>∃v2 L2,aN [v] L [v2] L2∧∃(v:AV) (o':Option Nat),_)=Q
  have fin:=jF hQ
  clear hQ
  have dn:decide (fP loc s≥0)=false:=by simp;omega
  have ha:=fQ loc s (by omega)
  have hc:=lC w s (by omega)
  repeat' (first | refine st ?_ | ((with_reducible refine ao 20 ?_);(refine cp (i:=⟨6,d,cW w.cells s,0,0,0⟩) rp rp h0 (by simp at hl;omega) (fun b_=>?_))) | ((with_reducible refine al 20 ?_);refine fi ?_;refine cp (i:=⟨6,d,cW w.cells s,0,0,0⟩) rp rp h0 (by simp at hl;omega) (fun b_ ks_=>?_)) | ((with_reducible refine ao 56 ?_);refine af (ha) ?_) | ((with_reducible refine al 56 ?_);refine ab (ha) ?_) | ((with_reducible refine ao 79 ?_);refine af (hc) ?_) | ((with_reducible refine al 79 ?_);refine ab (hc) ?_) | refine sb (fun nb_ hnb_=>?_) | refine s2 (fun h=>?_) (fun h=>?_) | fail)
  exact fin _ _ _ (.one (.here _) (.slotl .last)) rfl nofun
 | loc n s l d hs=>
  intro bg o out site next h0 hl
  refine aj.fz (b8 _ _ _ _ _ ?_)
  unfold bO ae.row
  generalize hQ:(fun(v:AV) (L:SH)=>∃v2 L2,aN [v] L [v2] L2∧∃(v:AV) (o':Option Nat),_)=Q
  have fin:=jF hQ
  clear hQ
  have dn:decide (fP loc s≥0)=true:=by simp;omega
  have ha:=fQ loc s (by omega)
  repeat' (first | refine st ?_ | ((with_reducible refine ao 20 ?_);(refine cp (i:=⟨2,d,fP loc s,0,0,0⟩) rp rp h0 (by simp at hl;omega) (fun b_=>?_))) | ((with_reducible refine ao 56 ?_);refine af (ha) ?_) | ((with_reducible refine al 56 ?_);refine ab (ha) ?_) | refine sb (fun nb_ hnb_=>?_) | refine s2 (fun h=>?_) (fun h=>?_) | fail)
  exact fin _ _ _ (.one (.here _) (.slotl .last)) rfl nofun
 | un op n s a d c1 n1 n2 n3 hv ih=>
  intro bg o out site next h0 hl
  refine aj.fz (b8 _ _ _ _ _ ?_)
  unfold bO ae.row
  generalize hQ:(fun(v:AV) (L:SH)=>∃v2 L2,aN [v] L [v2] L2∧∃(v:AV) (o':Option Nat),_)=Q
  have fin:=jF hQ
  clear hQ
  simp only[List.length_append,List.length_cons,List.length_nil]at hl
  have d1:decide (op=1)=false:=by simpa using n1
  have d2:decide (op=2)=false:=by simpa using n2
  have d3:decide (op=3)=false:=by simpa using n3
  have hx:([a].map ae.enc)[0]? =some a.row:=by simp[ae.enc_row]
  repeat' (first | refine st ?_ | ((with_reducible refine ao 62 ?_);(refine fj ih rp rp h0 (by omega) (fun o_ ho_=>?_))) | ((with_reducible refine ao 20 ?_);(refine cp (i:=⟨3,d,d,0,op,0⟩) rp rp (by assumption) (by simp;omega) (fun b_=>?_))) | refine sb (fun nb_ hnb_=>?_) | refine s2 (fun h=>?_) (fun h=>?_) | fail)
  exact fin _ _ _ (.one (.here _) (.slotl .last)) (by simp[List.append_assoc]) nofun
 | bin op n s a b d c1 c2 n1 n2 n3 hd hv hv2 ih ih2=>
  intro bg o out site next h0 hl
  refine aj.fz (b8 _ _ _ _ _ ?_)
  unfold bO ae.row
  generalize hQ:(fun(v:AV) (L:SH)=>∃v2 L2,aN [v] L [v2] L2∧∃(v:AV) (o':Option Nat),_)=Q
  have fin:=jF hQ
  clear hQ
  simp only[List.length_append,List.length_cons,List.length_nil]at hl
  have d1:decide (op=1)=false:=by simpa using n1
  have d2:decide (op=2)=false:=by simpa using n2
  have d3:decide (op=3)=false:=by simpa using n3
  have hx:([a,b].map ae.enc)[0]? =some a.row:=by simp[ae.enc_row]
  have hx2:([a,b].map ae.enc)[1]? =some b.row:=by simp[ae.enc_row]
  repeat' (first | refine dy (cj ?_ hd) | refine st ?_ | ((with_reducible refine ao 62 ?_);(refine fj ih rp rp (by assumption) (by simp;omega) (fun o_ ho_=>?_))) | ((with_reducible refine ao 62 ?_);(refine fj ih2 rp rp (by assumption) (by simp;omega) (fun o_ ho_=>?_))) | ((with_reducible refine ao 20 ?_);(refine cp (i:=⟨4,d,d,d+1,op,0⟩) rp rp (by assumption) (by simp;omega) (fun b_=>?_))) | refine sb (fun nb_ hnb_=>?_) | refine s2 (fun h=>?_) (fun h=>?_) | fail)
  exact fin _ _ _ (.one (.here _) (.slotl .last)) (by simp[List.append_assoc]) nofun
 | index n s a d c1 b hb hv hcb ih=>
  intro bg o out site next h0 hl
  refine aj.fz (b8 _ _ _ _ _ ?_)
  unfold bO ae.row
  generalize hQ:(fun(v:AV) (L:SH)=>∃v2 L2,aN [v] L [v2] L2∧∃(v:AV) (o':Option Nat),_)=Q
  have fin:=jF hQ
  clear hQ
  simp only[List.length_append,List.length_cons,List.length_nil]at hl
  have hx:([a].map ae.enc)[0]? =some a.row:=by simp[ae.enc_row]
  have hc:=lC w s (by omega)
  rw[hcb]at hc
  have hxc:=aw (f:=fw.enc) hb
  repeat' (first | refine st ?_ | ((with_reducible refine ao 62 ?_);(refine fj ih rp rp (by assumption) (by simp;omega) (fun o_ ho_=>?_))) | ((with_reducible refine ao 79 ?_);refine af (hc) ?_) | ((with_reducible refine al 79 ?_);refine ab (hc) ?_) | ((with_reducible refine ao 20 ?_);(refine cp (i:=⟨7,d,b,d,w.cells[b].size,0⟩) rp rp (by assumption) (by simp;omega) (fun b_=>?_))) | refine sb (fun nb_ hnb_=>?_) | refine s2 (fun h=>?_) (fun h=>?_) | fail)
  exact fin _ _ _ (.one (.here _) (.slotl .last)) (by simp[List.append_assoc]) nofun
end
end Go.Proofs.YtljkdffikfkcgaaGreat.Am
end
section
namespace Go.Proofs.YtljkdffikfkcgaaGreat.Am
set_option maxRecDepth 100000
set_option maxHeartbeats 2000000
set_option linter.unusedVariables false
section
variable {w:bu} {loc:List aM}
inductive Aa (w:bu) (loc:List aM):aa→List av→Prop where
 | idx (op line:Int) (s arg:aM) (i e:ae) (rest:List ae) (body els:List aa) (c1 c2:List av) (b:Nat) (hb:b<w.cells.length):dK w loc i loc.length c1→dK w loc e ((loc.length:Int)+1) c2→cW w.cells s=b→Aa w loc (.mk op line s arg (i::rest) e body els) (c1++c2++[⟨9,b,(loc.length:Int)+1,loc.length,w.cells[b].size,0⟩])
 | loc (op line:Int) (s arg:aM) (e:ae) (body els:List aa) (c:List av):dK w loc e loc.length c→0≤fP loc s→Aa w loc (.mk op line s arg [] e body els) (c++[⟨2,fP loc s,loc.length,0,0,0⟩])
 | store (op line:Int) (s arg:aM) (e:ae) (body els:List aa) (c:List av):dK w loc e loc.length c→fP loc s<0→Aa w loc (.mk op line s arg [] e body els) (c++[⟨8,cW w.cells s,loc.length,0,0,0⟩])
theorem Jh(hw:w.cells.length<2^40)(hlo:loc.length<2^40){x:aa}{c:List av}(h:Aa w loc x c):Jg 58 [.agg x.row] w loc c:=by
 intro bg o out site next h0 hl
 have hk:IntKind.i64.wrap ((loc.length:Int)+1)=(loc.length:Int)+1:=by rw[IntWalk.i64_in _ (by omega)]
 refine aj.fz (mK _ _ _ _ ?_)
 unfold gQ aa.row
 generalize hQ:(fun(v:AV) (L:SH)=>∃v2 L2,aN [v] L [v2] L2∧∃(v:AV) (o':Option Nat),_)=Q
 have fin:=jF hQ
 clear hQ
 cases h with
 | idx op line s arg i e rest body els c1 c2 b hb hv1 hv2 hcb=>
  have v1:=fy hw hlo hv1
  have v2:=fy hw hlo hv2
  simp only[List.length_append,List.length_cons,List.length_nil]at hl
  have dl:decide ((0:Int)<((i::rest).length:Int))=true:=by simp
  have hx:((i::rest).map ae.enc)[0]? =some i.row:=by simp[ae.enc_row]
  have hc:=lC w s (by omega)
  rw[hcb]at hc
  have hxc:=aw (f:=fw.enc) hb
  repeat' (first | refine dy (cj ?_ hk) | refine st ?_ | ((with_reducible refine ao 62 ?_);(refine fj v1 rp rp (by assumption) (by simp;omega) (fun o_ ho_=>?_))) | ((with_reducible refine ao 62 ?_);(refine fj v2 rp rp (by assumption) (by simp;omega) (fun o_ ho_=>?_))) | ((with_reducible refine ao 79 ?_);refine af (hc) ?_) | ((with_reducible refine al 79 ?_);refine ab (hc) ?_) | ((with_reducible refine ao 20 ?_);(refine cp (i:=⟨9,b,(loc.length:Int)+1,loc.length,w.cells[b].size,0⟩) rp rp (by assumption) (by simp;omega) (fun b_=>?_))) | refine sb (fun nb_ hnb_=>?_) | fail)
  exact fin _ _ _ (.one (.here _) (.slotl .last)) (by simp[List.append_assoc]) nofun
 | loc op line s arg e body els c hv hs=>
  have v1:=fy hw hlo hv
  simp only[List.length_append,List.length_cons,List.length_nil]at hl
  have dn:decide (fP loc s≥0)=true:=by simp;omega
  have ha:=fQ loc s (by omega)
  repeat' (first | refine st ?_ | ((with_reducible refine ao 62 ?_);(refine fj v1 rp rp (by assumption) (by omega) (fun o_ ho_=>?_))) | ((with_reducible refine ao 56 ?_);refine af (ha) ?_) | ((with_reducible refine al 56 ?_);refine ab (ha) ?_) | ((with_reducible refine ao 20 ?_);(refine cp (i:=⟨2,fP loc s,loc.length,0,0,0⟩) rp rp (by assumption) (by simp;omega) (fun b_=>?_))) | refine sb (fun nb_ hnb_=>?_) | fail)
  exact fin _ _ _ (.one (.here _) (.slotl .last)) (by simp[List.append_assoc]) nofun
 | store op line s arg e body els c hv hs=>
  have v1:=fy hw hlo hv
  simp only[List.length_append,List.length_cons,List.length_nil]at hl
  have dn:decide (fP loc s≥0)=false:=by simp;omega
  have ha:=fQ loc s (by omega)
  have hc:=lC w s (by omega)
  repeat' (first | refine st ?_ | ((with_reducible refine ao 62 ?_);(refine fj v1 rp rp (by assumption) (by omega) (fun o_ ho_=>?_))) | ((with_reducible refine ao 56 ?_);refine af (ha) ?_) | ((with_reducible refine al 56 ?_);refine ab (ha) ?_) | ((with_reducible refine ao 79 ?_);refine af (hc) ?_) | ((with_reducible refine al 79 ?_);refine ab (hc) ?_) | ((with_reducible refine al 20 ?_);refine fi ?_;refine cp (i:=⟨8,cW w.cells s,loc.length,0,0,0⟩) rp rp (by assumption) (by simp;omega) (fun b_ ks_=>?_)) | refine sb (fun nb_ hnb_=>?_) | fail)
  exact fin _ _ _ (.one (.here _) (.slotl .last)) (by simp[List.append_assoc]) nofun
end
end Go.Proofs.YtljkdffikfkcgaaGreat.Am
end
section
namespace Go.Proofs.YtljkdffikfkcgaaGreat.Am
set_option maxRecDepth 100000
set_option maxHeartbeats 2000000
set_option linter.unusedVariables false
theorem Ab(bg:Nat)(w:bu)(loc:List aM)(v:AV)(site next:Int)(s:aM)(hl:w.conds.length<2^62):
  aj Tryz.prog 61 [.ptr bg 0 0,.str s] [(bg,cE w loc v site next)] fun u K=>u=.int .i64 (dq w.conds s)∧K=[(bg,cE w loc v site next)]:=by
 refine rS _ _ _ _ ?_
 unfold jd
 refine cL w.conds (fun x=>decide (x.name=s)) (fun i=>[.ptr bg 0 0,.str s,.int .i64 i]) hl rfl (fun i h1 hd hi hno nx hn=>?_) (fun i h1 hd hno nx=>?_)
 all_goals unfold iu
 ·have hx:=aw (f:=mO.enc) h1
  unfold cE at *
  repeat' (first | refine st ?_ | refine sb (fun nb_ hnb_=>?_) | refine s2 (fun h=>?_) (fun h=>?_) | fail)
  ·exact⟨by rw[dq,gp h1 hno h],rfl⟩
  ·exact hn h
 ·unfold cE at *
  repeat' (first | refine st ?_ | refine sb (fun nb_ hnb_=>?_) | refine s2 (fun h=>?_) (fun h=>?_) | fail)
  exact⟨by rw[dq,eB hno],rfl⟩
end Go.Proofs.YtljkdffikfkcgaaGreat.Am
end
section
namespace Go.Proofs.YtljkdffikfkcgaaGreat.Am
set_option linter.unusedVariables false
def aB(c:List av)(s:Nat):List av:=c.map (·.at_ (s:Int))
def BB(w:bu)(op:Int)(s:aM):Option (Int×Int×Int):=
 if op=4 then some (11,12,bA w.locks s)else
 if op=5 then some (13,14,bA w.locks s)else
 if op=6 then some (15,16,bA w.locks s)else
 if op=7 then some (17,18,0)else
 if op=8 then some (19,20,0)else none
def FE(w:bu)(loc:List aM)(op:Int)(s arg:aM):Option av:=
 if op=9 then some ⟨21,dq w.conds s,0,0,0,0⟩else
 if op=10 then some ⟨22,dq w.conds s,0,0,0,0⟩else
 if op=11 then some ⟨23,dq w.conds s,0,0,0,0⟩else
 if op=12 then some ⟨24,fP w.threads s,0,0,0,0⟩else
 if op=13 then some ⟨25,fP w.threads s,0,0,0,0⟩else
 if op=15 then some ⟨27,fP loc s,fP w.futures arg,0,0,0⟩else none
mutual
inductive Cm (w:bu) (loc:List aM):aa→Nat→Nat→List av→Nat→Prop where
 | asg (line:Int) (s arg:aM) (ix:List ae) (e:ae) (body els:List aa) (c:List av) (n b:Nat):Aa w loc (.mk 1 line s arg ix e body els) c→Cm w loc (.mk 1 line s arg ix e body els) n b (aB c n) (n+1)
 | if1 (line:Int) (s arg:aM) (ix:List ae) (e:ae) (body:List aa) (ce cb:List av) (n b n2:Nat):dK w loc e loc.length ce→StsC w loc body (n+1) (b+ce.length+1) cb n2→Cm w loc (.mk 2 line s arg ix e body []) n b (aB (ce++[⟨10,loc.length,((b+ce.length+1+cb.length:Nat):Int),0,0,0⟩]) n++cb) n2
 | if2 (line:Int) (s arg:aM) (ix:List ae) (e:ae) (body:List aa) (y:aa) (els:List aa) (ce cb cl:List av) (n b n2 n3:Nat):dK w loc e loc.length ce→StsC w loc body (n+1) (b+ce.length+1) cb n2→StsC w loc (y::els) n2 (b+ce.length+1+cb.length+1) cl n3→
   Cm w loc (.mk 2 line s arg ix e body (y::els)) n b (aB (ce++[⟨10,loc.length,((b+ce.length+1+cb.length+1:Nat):Int),0,0,0⟩]) n++cb++aB [⟨5,((b+ce.length+1+cb.length+1+cl.length:Nat):Int),0,0,0,0⟩] n++cl) n3
 | while (line:Int) (s arg:aM) (ix:List ae) (e:ae) (body els:List aa) (ce cb:List av) (n b n2:Nat):dK w loc e loc.length ce→StsC w loc body (n+1) (b+ce.length+1) cb n2→Cm w loc (.mk 3 line s arg ix e body els) n b (aB (ce++[⟨10,loc.length,((b+ce.length+1+cb.length+1:Nat):Int),0,0,0⟩]) n++cb++aB [⟨5,(b:Int),0,0,0,0⟩] n) n2
 | arnd (op line:Int) (s arg:aM) (ix:List ae) (e:ae) (body els:List aa) (f l ob:Int) (cb:List av) (n b n2:Nat):BB w op s=some (f,l,ob)→StsC w loc body (n+1) (b+1) cb n2→Cm w loc (.mk op line s arg ix e body els) n b (aB [⟨f,ob,0,0,0,0⟩] n++cb++aB [⟨l,ob,0,0,0,0⟩] n) n2
 | one (op line:Int) (s arg:aM) (ix:List ae) (e:ae) (body els:List aa) (i:av) (n b:Nat):FE w loc op s arg=some i→Cm w loc (.mk op line s arg ix e body els) n b (aB [i] n) (n+1)
 | set (line:Int) (s arg:aM) (ix:List ae) (e:ae) (body els:List aa) (ce:List av) (n b:Nat):dK w loc e loc.length ce→Cm w loc (.mk 14 line s arg ix e body els) n b (aB (ce++[⟨26,fP w.futures s,loc.length,0,0,0⟩]) n) (n+1)
inductive StsC (w:bu) (loc:List aM):List aa→Nat→Nat→List av→Nat→Prop where
 | nil (n b:Nat):StsC w loc [] n b [] n
 | cons (x:aa) (l:List aa) (c1 c2:List av) (n b n1 n2:Nat):Cm w loc x n b c1 n1→StsC w loc l n1 (b+c1.length) c2 n2→StsC w loc (x::l) n b (c1++c2) n2
end
section
variable {w:bu} {loc:List aM}
theorem Ac {M1 : aa → Nat → Nat → List av → Nat → Prop} {M2 : List aa → Nat → Nat → List av → Nat → Prop}
    (asg:∀(line:Int) (s arg:aM) (ix:List ae) (e:ae) (body els:List aa) (c:List av) (n b:Nat),Aa w loc (.mk 1 line s arg ix e body els) c→M1 (.mk 1 line s arg ix e body els) n b (aB c n) (n+1))
    (if1:∀(line:Int) (s arg:aM) (ix:List ae) (e:ae) (body:List aa) (ce cb:List av) (n b n2:Nat),dK w loc e loc.length ce→StsC w loc body (n+1) (b+ce.length+1) cb n2→M2 body (n+1) (b+ce.length+1) cb n2→M1 (.mk 2 line s arg ix e body []) n b (aB (ce++[⟨10,loc.length,((b+ce.length+1+cb.length:Nat):Int),0,0,0⟩]) n++cb) n2)
    (if2:∀(line:Int) (s arg:aM) (ix:List ae) (e:ae) (body:List aa) (y:aa) (els:List aa) (ce cb cl:List av) (n b n2 n3:Nat),dK w loc e loc.length ce→StsC w loc body (n+1) (b+ce.length+1) cb n2→StsC w loc (y::els) n2 (b+ce.length+1+cb.length+1) cl n3→M2 body (n+1) (b+ce.length+1) cb n2→M2 (y::els) n2 (b+ce.length+1+cb.length+1) cl n3→
      M1 (.mk 2 line s arg ix e body (y::els)) n b (aB (ce++[⟨10,loc.length,((b+ce.length+1+cb.length+1:Nat):Int),0,0,0⟩]) n++cb++aB [⟨5,((b+ce.length+1+cb.length+1+cl.length:Nat):Int),0,0,0,0⟩] n++cl) n3)
    (whi:∀(line:Int) (s arg:aM) (ix:List ae) (e:ae) (body els:List aa) (ce cb:List av) (n b n2:Nat),dK w loc e loc.length ce→StsC w loc body (n+1) (b+ce.length+1) cb n2→M2 body (n+1) (b+ce.length+1) cb n2→M1 (.mk 3 line s arg ix e body els) n b (aB (ce++[⟨10,loc.length,((b+ce.length+1+cb.length+1:Nat):Int),0,0,0⟩]) n++cb++aB [⟨5,(b:Int),0,0,0,0⟩] n) n2)
    (arnd:∀(op line:Int) (s arg:aM) (ix:List ae) (e:ae) (body els:List aa) (f l ob:Int) (cb:List av) (n b n2:Nat),BB w op s=some (f,l,ob)→StsC w loc body (n+1) (b+1) cb n2→M2 body (n+1) (b+1) cb n2→M1 (.mk op line s arg ix e body els) n b (aB [⟨f,ob,0,0,0,0⟩] n++cb++aB [⟨l,ob,0,0,0,0⟩] n) n2)
    (one:∀(op line:Int) (s arg:aM) (ix:List ae) (e:ae) (body els:List aa) (i:av) (n b:Nat),FE w loc op s arg=some i→M1 (.mk op line s arg ix e body els) n b (aB [i] n) (n+1))
    (set:∀(line:Int) (s arg:aM) (ix:List ae) (e:ae) (body els:List aa) (ce:List av) (n b:Nat),dK w loc e loc.length ce→M1 (.mk 14 line s arg ix e body els) n b (aB (ce++[⟨26,fP w.futures s,loc.length,0,0,0⟩]) n) (n+1))
    (nil:∀(n b:Nat),M2 [] n b [] n)
    (cons:∀(x:aa) (l:List aa) (c1 c2:List av) (n b n1 n2:Nat),Cm w loc x n b c1 n1→StsC w loc l n1 (b+c1.length) c2 n2→M1 x n b c1 n1→M2 l n1 (b+c1.length) c2 n2→M2 (x::l) n b (c1++c2) n2) :
    (∀{x n b c n2},Cm w loc x n b c n2→M1 x n b c n2)∧∀{l n b c n2},StsC w loc l n b c n2→M2 l n b c n2:=
  ⟨fun h=>Cm.rec (motive_1:=fun x n b c n2 _=>M1 x n b c n2) (motive_2:=fun x n b c n2 _=>M2 x n b c n2) asg if1 if2 whi arnd one set nil cons h,
   fun h=>StsC.rec (motive_1:=fun x n b c n2 _=>M1 x n b c n2) (motive_2:=fun x n b c n2 _=>M2 x n b c n2) asg if1 if2 whi arnd one set nil cons h⟩
end
end Go.Proofs.YtljkdffikfkcgaaGreat.Am
end
section
namespace Go.Proofs.YtljkdffikfkcgaaGreat.Am
set_option maxRecDepth 100000
set_option maxHeartbeats 2000000
set_option linter.unusedVariables false
def dg(f:FuncId)(args:List AV)(w:bu)(loc:List aM)(n b:Nat)(c:List av)(n2:Nat):Prop:=∀(bg:Nat) (o:Option Nat) (out:List av) (site:Int),(o=none→out=[])→out.length=b→b+c.length<2^30→n2<2^30→
 aj Tryz.prog f (.ptr bg 0 0::args) ((bg,cE w loc (aq o out.length) site n)::am o 6 (out.map av.enc)) fun u K=>∃(v:AV) (o':Option Nat) (site':Int),u=v∧v=.tup []∧(o'=none→out++c=[])∧K=(bg,cE w loc (aq o' (out++c).length) site' n2)::am o' 6 ((out++c).map av.enc)
section
variable {w:bu} {loc:List aM}
theorem qe{f:FuncId}{args:List AV}{c:List av}{bg b n n2:Nat}{o:Option Nat}{out:List av}{site:Int}{L L1 L2:SH}{KL:R}(h:dg f args w loc n b c n2)(h1:dE bg (cE w loc (aq o out.length) site n) L L1)(h2:da o 6 (out.map av.enc) L1 L2)(h0:o=none→out=[])(hb:out.length=b)(hl:b+c.length<2^30)(hn:n2<2^30)
  (hq:∀(o':Option Nat) (site':Int),(o'=none→out++c=[])→KL (.tup []) ((bg,cE w loc (aq o' (out++c).length) site' n2)::(L2++am o' 6 ((out++c).map av.enc)))):W.callM Tryz.prog f (.ptr bg 0 0::args) L KL:=by
 refine lB (M:=L2) (h bg o out site h0 hb hl hn) (h1.perm.trans (h2.perm.cons _)) ?_
 rintro _ _ ⟨v,o',site',rfl,rfl,h3,rfl⟩
 exact⟨_,.cons _ List.perm_append_comm,hq o' site' h3⟩
theorem cy{Q:R}{bg:Nat}{out:List av}{c:List av}{n2:Nat}
  (hQ:(fun(v:AV) (L:SH)=>∃v2 L2,aN [v] L [v2] L2∧∃(v:AV) (o':Option Nat) (site':Int),v2=v∧v=.tup []∧(o'=none→out++c=[])∧L2=(bg,cE w loc (aq o' (out++c).length) site' n2)::am o' 6 ((out++c).map av.enc))=Q)
  (o':Option Nat) (out':List av) (site':Int) (L:SH) (h:eo L ((bg,cE w loc (aq o' out'.length) site' n2)::am o' 6 (out'.map av.enc))) (he:out'=out++c) (hn:o'=none→out'=[]):Q (.tup []) L:=by
 subst hQ he
 exact⟨_,_,aN.pick h rfl,_,o',site',rfl,rfl,hn,rfl⟩
theorem jf(bg:Nat)(o:Option Nat)(out:List av)(n m n2:Nat)(op line:Int)(s arg:aM)(ix:List ae)(e:ae)(body els:List aa)(f l ob:Int)(cb:List av)(h0:o=none→out=[])(hB:dg 19 [.lst (body.map aa.enc)] w loc m (out.length+1) cb n2)(hl:out.length+1+cb.length+1<2^30)(hn:n2<2^30):
  aj Tryz.prog 60 [.ptr bg 0 0,.agg (aa.mk op line s arg ix e body els).row,.int .i64 f,.int .i64 l,.int .i64 ob] ((bg,cE w loc (aq o out.length) n m)::am o 6 (out.map av.enc)) fun u K=>∃(v:AV) (o':Option Nat) (site':Int),u=v∧v=.tup []∧(o'=none→out++(aB [⟨f,ob,0,0,0,0⟩] n++cb++aB [⟨l,ob,0,0,0,0⟩] n)=[])∧K=(bg,cE w loc (aq o' (out++(aB [⟨f,ob,0,0,0,0⟩] n++cb++aB [⟨l,ob,0,0,0,0⟩] n)).length) site' n2)::am o' 6 ((out++(aB [⟨f,ob,0,0,0,0⟩] n++cb++aB [⟨l,ob,0,0,0,0⟩] n)).map av.enc):=by
 refine aj.fz (mN _ _ _ _ _ _ _ ?_)
 unfold gR aa.row
 generalize hQ:(fun(v:AV) (L:SH)=>∃v2 L2,aN [v] L [v2] L2∧∃(v:AV) (o':Option Nat) (site':Int),_)=Q
 have fin:=cy hQ
 clear hQ
 repeat' (first | refine st ?_ | ((with_reducible refine ao 20 ?_);(first | (refine cp (i:=⟨f,ob,0,0,0,0⟩) (site:=(n:Int)) (next:=(m:Int)) rp rp h0 (by omega) (fun b_=>?_)) | (refine cp (i:=⟨l,ob,0,0,0,0⟩) rp rp (by assumption) (by simp;omega) (fun b_=>?_)) | fail)) | ((with_reducible refine ao 19 ?_);(refine qe hB rp rp (fun e_=>by cases e_) (by simp) (by omega) hn (fun o_ s_ ho_=>?_))) | refine sb (fun nb_ hnb_=>?_) | fail)
 exact fin _ _ _ _ (.one (.here _) (.slotl .last)) (by simp[aB,List.append_assoc]) nofun
end
end Go.Proofs.YtljkdffikfkcgaaGreat.Am
end
section
namespace Go.Proofs.YtljkdffikfkcgaaGreat.Am
set_option maxRecDepth 100000
set_option maxHeartbeats 2000000
set_option linter.unusedVariables false
theorem vz{b N off m m2:Nat}{kd:IntKind}{k:Nat}{out out2 A B:List av}{i j:av}{v:AV}{L:SH}{g:Nat×Blk}{KS:SH→Fp→Prop}
  (e1:out=A++[i]++B) (e2:out2=A++[j]++B) (hk:k=A.length) (hL:L=(g::am (some b) 6 (out.map av.enc))) (hN:N=out.length) (he:i.enc.set off v=j.enc) (ho:off<6) (hv:v.cells? =some [v]) (h1:v.one=true)
  (kk:∀r,KS (g::am (some b) 6 (out2.map av.enc)) r):di [] m 6 (aq (some b) N) (.int kd (k:Int)) L fun x r=>W.faddr off x fun y=>ds [] m2 1 y v L KS:=by
 subst e1 e2 hk hN hL
 refine Ii (zG (cY (nH (sJ (Kd (zG ?_))) ) (by simp only[List.length_append,List.length_cons,List.length_nil];omega) (.tail _ (.head _)) rfl))
 refine tW (x:=⟨6,(A++[i]++B).map av.enc⟩) (r:=i.enc) (x':=⟨6,(A++[j]++B).map av.enc⟩) (.there _ (.here _)) ?_ hv h1 (by simpa[av.enc]using ho) ?_ (nH (kk _))
 ·rw[List.getElem?_map,List.append_assoc,List.getElem?_append_right (Nat.le_refl _),Nat.sub_self];rfl
 ·congr 1
  rw[Nat.zero_add,he,List.map_append,List.map_append,List.map_append,List.map_append,List.append_assoc,List.append_assoc,List.set_append_right _ _ (by simp),List.length_map,Nat.sub_self]
  rfl
section
variable {w:bu} {loc:List aM}
theorem GZ{f:FuncId}{args:List AV}{c:List av}{bg b n n2 k:Nat}{o:Option Nat}{out:List av}{site:Int}{L L1 L2:SH}{KL:R}(h:dg f args w loc n b c n2)(h1:dE bg (cE w loc (aq o k) site n) L L1)(h2:da o 6 (out.map av.enc) L1 L2)(hk:k=out.length)(h0:o=none→out=[])(hb:out.length=b)(hl:b+c.length<2^30)(hn:n2<2^30)
  (hq:∀(o':Option Nat) (site':Int),(o'=none→out++c=[])→KL (.tup []) ((bg,cE w loc (aq o' (out++c).length) site' n2)::(L2++am o' 6 ((out++c).map av.enc)))):W.callM Tryz.prog f (.ptr bg 0 0::args) L KL:=by
 subst hk
 exact qe h h1 h2 h0 hb hl hn hq
theorem FF(hw:w.cells.length<2^40)(hlo:loc.length<2^40)(bg:Nat)(o:Option Nat)(out:List av)(n m n2:Nat)(line:Int)(s arg:aM)(ix:List ae)(e:ae)(body els:List aa)(ce cb:List av)(h0:o=none→out=[])(hv:dK w loc e loc.length ce)(hB:dg 19 [.lst (body.map aa.enc)] w loc m (out.length+ce.length+1) cb n2)(hl:out.length+ce.length+1+cb.length+1<2^30)(hn:n2<2^30){Q:R}
  (fin:∀(o':Option Nat) (out':List av) (site':Int) (L:SH),eo L ((bg,cE w loc (aq o' out'.length) site' n2)::am o' 6 (out'.map av.enc))→out'=out++(aB (ce++[⟨10,loc.length,((out.length+ce.length+1+cb.length+1:Nat):Int),0,0,0⟩]) n++cb++aB [⟨5,(out.length:Int),0,0,0,0⟩] n)→(o'=none→out'=[])→Q (.tup []) L) :
  bv (.ptr bg 0 0) (.agg (aa.mk 3 line s arg ix e body els).row) ((bg,cE w loc (aq o out.length) n m)::am o 6 (out.map av.enc)) Q:=by
 have v1:=fy hw hlo hv
 have fin2:∀(o':Option Nat) (out':List av) (site':Int) (k:Nat) (L:SH),eo L ((bg,cE w loc (aq o' k) site' n2)::am o' 6 (out'.map av.enc))→k=out'.length→out'=out++(aB (ce++[⟨10,loc.length,((out.length+ce.length+1+cb.length+1:Nat):Int),0,0,0⟩]) n++cb++aB [⟨5,(out.length:Int),0,0,0,0⟩] n)→(o'=none→out'=[])→Q (.tup []) L:=fun o' out' site' k L h1 h2 h3 h4=>by subst h2;exact fin o' out' site' L h1 h3 h4
 clear fin
 unfold bv aa.row
 repeat' (first | (with_reducible refine vz (A:=out++ce.map (fun x=>x.at_ (n:Int))) (i:=av.at_ ⟨10,loc.length,0,0,0,0⟩ n) (B:=cb++[av.at_ ⟨5,out.length,0,0,0,0⟩ n]) (j:=av.at_ ⟨10,loc.length,((out.length+ce.length+1+cb.length+1:Nat):Int),0,0,0⟩ n) (by simp) rfl (by simp) rfl rfl (by simp[av.enc,av.at_];omega) (by decide) rfl rfl (fun r_=>?_)) | refine st ?_ | refine lz ?_ (fun e_=>by first | (rw[h0 e_];rfl) | (rw[ho_ e_];rfl) | (cases e_;done) | fail) | ((with_reducible refine al 62 ?_);refine fi ?_;refine fj v1 (site:=(n:Int)) (next:=(m:Int)) rp rp h0 (by omega) (fun o_ ho_ ks_=>?_)) | ((with_reducible refine ao 20 ?_);(first | (refine cp (i:=⟨10,loc.length,0,0,0,0⟩) rp rp (by assumption) (by simp;omega) (fun b_=>?_)) | (refine cp (i:=⟨5,out.length,0,0,0,0⟩) rp rp (by assumption) (by simp;omega) (fun b_=>?_)) | fail)) | ((with_reducible refine ao 19 ?_);(refine qe hB rp rp (fun e_=>by cases e_) (by simp;omega) (by omega) hn (fun o_ s_ ho_=>?_))) | refine sb (fun nb_ hnb_=>?_) | fail)
 exact fin2 _ _ _ _ _ (.one (.here _) (.slotl .last)) (by simp) (by simp[aB,List.append_assoc]) nofun
theorem Ji(hw:w.cells.length<2^40)(hlo:loc.length<2^40)(bg:Nat)(o:Option Nat)(out:List av)(n m n2:Nat)(line:Int)(s arg:aM)(ix:List ae)(e:ae)(body:List aa)(ce cb:List av)(h0:o=none→out=[])(hv:dK w loc e loc.length ce)(hB:dg 19 [.lst (body.map aa.enc)] w loc m (out.length+ce.length+1) cb n2)(hl:out.length+ce.length+1+cb.length<2^30)(hn:n2<2^30){Q:R}
  (fin:∀(o':Option Nat) (out':List av) (site':Int) (L:SH),eo L ((bg,cE w loc (aq o' out'.length) site' n2)::am o' 6 (out'.map av.enc))→out'=out++(aB (ce++[⟨10,loc.length,((out.length+ce.length+1+cb.length:Nat):Int),0,0,0⟩]) n++cb)→(o'=none→out'=[])→Q (.tup []) L) :
  bv (.ptr bg 0 0) (.agg (aa.mk 2 line s arg ix e body []).row) ((bg,cE w loc (aq o out.length) n m)::am o 6 (out.map av.enc)) Q:=by
 have v1:=fy hw hlo hv
 have de:decide (((([]:List aa).length:Nat):Int)=0)=true:=by decide
 have fin2:∀(o':Option Nat) (out':List av) (site':Int) (k:Nat) (L:SH),eo L ((bg,cE w loc (aq o' k) site' n2)::am o' 6 (out'.map av.enc))→k=out'.length→out'=out++(aB (ce++[⟨10,loc.length,((out.length+ce.length+1+cb.length:Nat):Int),0,0,0⟩]) n++cb)→(o'=none→out'=[])→Q (.tup []) L:=fun o' out' site' k L h1 h2 h3 h4=>by subst h2;exact fin o' out' site' L h1 h3 h4
 clear fin
 unfold bv aa.row
 repeat' (first | (with_reducible refine vz (A:=out++ce.map (fun x=>x.at_ (n:Int))) (i:=av.at_ ⟨10,loc.length,0,0,0,0⟩ n) (B:=cb) (j:=av.at_ ⟨10,loc.length,((out.length+ce.length+1+cb.length:Nat):Int),0,0,0⟩ n) (by simp) rfl (by simp) rfl rfl (by simp[av.enc,av.at_];omega) (by decide) rfl rfl (fun r_=>?_)) | refine st ?_ | refine lz ?_ (fun e_=>by first | (rw[h0 e_];rfl) | (rw[ho_ e_];rfl) | (cases e_;done) | fail) | ((with_reducible refine al 62 ?_);refine fi ?_;refine fj v1 (site:=(n:Int)) (next:=(m:Int)) rp rp h0 (by omega) (fun o_ ho_ ks_=>?_)) | ((with_reducible refine ao 20 ?_);(refine cp (i:=⟨10,loc.length,0,0,0,0⟩) rp rp (by assumption) (by simp;omega) (fun b_=>?_))) | ((with_reducible refine ao 19 ?_);(refine qe hB rp rp (fun e_=>by cases e_) (by simp;omega) (by omega) hn (fun o_ s_ ho_=>?_);rcases o_ with _ | bq_;(exact absurd (ho_ rfl) (by simp));skip)) | refine sb (fun nb_ hnb_=>?_) | fail)
 exact fin2 _ _ _ _ _ (.one (.here _) (.slotl .last)) (by simp) (by simp[aB,List.append_assoc]) nofun
theorem Jj(hw:w.cells.length<2^40)(hlo:loc.length<2^40)(bg:Nat)(o:Option Nat)(out:List av)(n m n2 n3:Nat)(line:Int)(s arg:aM)(ix:List ae)(e:ae)(body:List aa)(y:aa)(els:List aa)(ce cb cl:List av)(h0:o=none→out=[])(hv:dK w loc e loc.length ce)(hB:dg 19 [.lst (body.map aa.enc)] w loc m (out.length+ce.length+1) cb n2)(hB2:dg 19 [.lst ((y::els).map aa.enc)] w loc n2 (out.length+ce.length+1+cb.length+1) cl n3)(hl:out.length+ce.length+1+cb.length+1+cl.length<2^30)(hn:n2<2^30)(hn3:n3<2^30){Q:R}
  (fin:∀(o':Option Nat) (out':List av) (site':Int) (L:SH),eo L ((bg,cE w loc (aq o' out'.length) site' n3)::am o' 6 (out'.map av.enc))→out'=out++(aB (ce++[⟨10,loc.length,((out.length+ce.length+1+cb.length+1:Nat):Int),0,0,0⟩]) n++cb++aB [⟨5,((out.length+ce.length+1+cb.length+1+cl.length:Nat):Int),0,0,0,0⟩] n++cl)→(o'=none→out'=[])→Q (.tup []) L) :
  bv (.ptr bg 0 0) (.agg (aa.mk 2 line s arg ix e body (y::els)).row) ((bg,cE w loc (aq o out.length) n m)::am o 6 (out.map av.enc)) Q:=by
 have v1:=fy hw hlo hv
 have de:decide ((((y::els).length:Nat):Int)=0)=false:=by simp;omega
 have fin2:∀(o':Option Nat) (out':List av) (site':Int) (k:Nat) (L:SH),eo L ((bg,cE w loc (aq o' k) site' n3)::am o' 6 (out'.map av.enc))→k=out'.length→out'=out++(aB (ce++[⟨10,loc.length,((out.length+ce.length+1+cb.length+1:Nat):Int),0,0,0⟩]) n++cb++aB [⟨5,((out.length+ce.length+1+cb.length+1+cl.length:Nat):Int),0,0,0,0⟩] n++cl)→(o'=none→out'=[])→Q (.tup []) L:=fun o' out' site' k L h1 h2 h3 h4=>by subst h2;exact fin o' out' site' L h1 h3 h4
 clear fin
 unfold bv aa.row
 repeat' (first | (with_reducible refine vz (A:=out++ce.map (fun x=>x.at_ (n:Int))) (i:=av.at_ ⟨10,loc.length,0,0,0,0⟩ n) (B:=cb++[av.at_ ⟨5,0,0,0,0,0⟩ n]) (j:=av.at_ ⟨10,loc.length,((out.length+ce.length+1+cb.length+1:Nat):Int),0,0,0⟩ n) (by simp) rfl (by simp) rfl rfl (by simp[av.enc,av.at_];omega) (by decide) rfl rfl (fun r_=>?_)) | (with_reducible refine vz (A:=out++ce.map (fun x=>x.at_ (n:Int))++[av.at_ ⟨10,loc.length,((out.length+ce.length+1+cb.length+1:Nat):Int),0,0,0⟩ n]++cb) (i:=av.at_ ⟨5,0,0,0,0,0⟩ n) (B:=cl) (j:=av.at_ ⟨5,((out.length+ce.length+1+cb.length+1+cl.length:Nat):Int),0,0,0,0⟩ n) (by simp) rfl (by simp) rfl rfl (by simp[av.enc,av.at_];omega) (by decide) rfl rfl (fun r_=>?_)) | refine st ?_ | refine lz ?_ (fun e_=>by first | (rw[h0 e_];rfl) | (rw[ho_ e_];rfl) | (cases e_;done) | fail) | ((with_reducible refine al 62 ?_);refine fi ?_;refine fj v1 (site:=(n:Int)) (next:=(m:Int)) rp rp h0 (by omega) (fun o_ ho_ ks_=>?_)) | ((with_reducible refine ao 20 ?_);(first | (refine cp (i:=⟨10,loc.length,0,0,0,0⟩) rp rp (by assumption) (by simp;omega) (fun b_=>?_)) | (refine cp (i:=⟨5,0,0,0,0,0⟩) rp rp (by assumption) (by simp;omega) (fun b_=>?_)) | fail)) | ((with_reducible refine ao 19 ?_);(first | (refine qe hB rp rp (fun e_=>by cases e_) (by simp;omega) (by omega) hn (fun o_ s_ ho_=>?_)) | (refine GZ hB2 rp rp (by simp) (fun e_=>by cases e_) (by simp;omega) (by omega) hn3 (fun o_ s_ ho_=>?_);rcases o_ with _ | bq_;(exact absurd (ho_ rfl) (by simp));skip) | fail)) | refine sb (fun nb_ hnb_=>?_) | fail)
 exact fin2 _ _ _ _ _ (.one (.here _) (.slotl .last)) (by simp) (by simp[aB,List.append_assoc]) nofun
end
end Go.Proofs.YtljkdffikfkcgaaGreat.Am
end
section
namespace Go.Proofs.YtljkdffikfkcgaaGreat.Am
set_option maxRecDepth 100000
set_option maxHeartbeats 2000000
set_option linter.unusedVariables false
section
variable {w:bu} {loc:List aM}
theorem fm:(∀{x n b c n2},Cm w loc x n b c n2→n<n2)∧∀{l n b c n2},StsC w loc l n b c n2→n≤n2:=by
 refine Ac (M1:=fun x n b c n2=>n<n2) (M2:=fun l n b c n2=>n≤n2) ?_ ?_ ?_ ?_ ?_ ?_ ?_ ?_ ?_
 all_goals (intros;omega)
inductive nz (w:bu) (loc:List aM):List aa→Nat→Nat→List av→Nat→Prop where
 | nil (n b:Nat):nz w loc [] n b [] n
 | cons {x:aa} {l:List aa} {c1 c2:List av} {n b n1 n2:Nat}:dg 44 [.agg x.row] w loc n b c1 n1→n≤n1→nz w loc l n1 (b+c1.length) c2 n2→nz w loc (x::l) n b (c1++c2) n2
theorem nz.mono{l:List aa}{n b n2:Nat}{c:List av}(h:nz w loc l n b c n2):n≤n2:=by
 induction h with
 | nil=>exact Nat.le_refl _
 | cons _ h1 _ ih=>omega
theorem jg{l:List aa}{n b n2:Nat}{c:List av}(h:nz w loc l n b c n2)(hll:l.length<2^40):dg 19 [.lst (l.map aa.enc)] w loc n b c n2:=by
 intro bg o out site h0 hb hl hn
 refine aj.fz (qd _ _ _ _ ?_)
 unfold iv
 generalize hQ:(fun(v:AV) (L:SH)=>∃v2 L2,aN [v] L [v2] L2∧∃(v:AV) (o':Option Nat) (site':Int),_)=Q
 have fin:=cy hQ
 clear hQ
 refine cv l.length (fun i (q:Option Nat×Int×List av×Nat)=>([.ptr bg 0 0,.lst (l.map aa.enc),.int .i64 i],(bg,cE w loc (aq q.1 (out++q.2.2.1).length) q.2.1 q.2.2.2)::am q.1 6 ((out++q.2.2.1).map av.enc)))
  (fun i q=>(q.1=none→out++q.2.2.1=[])∧∃rest,c=q.2.2.1++rest∧nz w loc (l.drop i) q.2.2.2 (b+q.2.2.1.length) rest n2) (o,site,[],n) ⟨by simpa using h0,c,rfl,by simpa using h⟩ (by simpa using aN.refl _ _) ?_
 rintro i ⟨o1,site1,pc,m⟩ hi ⟨hG,rest,hc,hch⟩
 dsimp only at hG hc hch ⊢
 unfold gS
 generalize hnx:(fun(vs':List AV) (L':SH)=>∃j o',i<j∧j≤l.length∧_)=nx
 rcases Nat.lt_or_ge i l.length with g1 | g1
 ·have hd:=bW g1
  have hi1:=bc g1 (by omega)
  have hx:=yX g1
  rw[←List.getElem_cons_drop g1]at hch
  have hmono:=hch.mono
  obtain⟨c1,c2,n1,hK,hle,hC,rfl⟩:∃c1 c2 n1,dg 44 [.agg l[i].row] w loc m (b+pc.length) c1 n1∧m≤n1∧nz w loc (l.drop (i+1)) n1 (b+pc.length+c1.length) c2 n2∧rest=c1++c2:=by
   cases hch with
   | cons h1 h2 h3=>exact⟨_,_,_,h1,h2,h3,rfl⟩
  have hm1:=hC.mono
  subst hc
  simp only[List.length_append]at hl
  have hn:∀(o':Option Nat) (s':Int),(o'=none→out++pc++c1=[])→nx [.ptr bg 0 0,.lst (l.map aa.enc),.int .i64 ((i+1:Nat):Int)] ((bg,cE w loc (aq o' (out++pc++c1).length) s' n1)::([]++am o' 6 ((out++pc++c1).map av.enc))):=by
   intro o' s' h
   subst hnx
   refine⟨i+1,(o',s',pc++c1,n1),by omega,by omega,⟨by simpa[List.append_assoc]using h,c2,by simp,by simpa[Nat.add_assoc]using hC⟩,?_⟩
   rw[List.append_assoc];exact .refl _ _
  clear hnx
  generalize l[i]=x at *
  repeat' (first | refine st ?_ | ((with_reducible refine ao 44 ?_);(refine qe hK rp rp hG (by simp;omega) (by omega) (by omega) (fun o_ s_ ho_=>?_))) | refine sb (fun nb_ hnb_=>?_) | refine s2 (fun h=>?_) (fun h=>?_) | fail)
  exact hn o_ s_ ho_
 ·have hd:=cX g1
  have e:i=l.length:=by omega
  subst e
  rw[List.drop_length]at hch
  obtain⟨rfl,rfl⟩:rest=[]∧m=n2:=by cases hch;exact⟨rfl,rfl⟩
  rw[List.append_nil]at hc
  subst hc
  repeat' (first | refine st ?_ | refine sb (fun nb_ hnb_=>?_) | refine s2 (fun h=>?_) (fun h=>?_) | fail)
  exact fin _ _ _ _ (.one (.here _) (.slotl .last)) rfl hG
theorem Jk(hw:w.cells.length<2^40)(hlo:loc.length<2^40)(line:Int)(s arg:aM)(ix:List ae)(e:ae)(body els:List aa){c:List av}{n b:Nat}(ha:Aa w loc (.mk 1 line s arg ix e body els) c):
  dg 44 [.agg (aa.mk 1 line s arg ix e body els).row] w loc n b (aB c n) (n+1):=by
 intro bg o out site h0 hb hl hn
 refine aj.fz (aI _ _ _ _ ?_)
 unfold aJ aa.row
 generalize hQ:(fun(v:AV) (L:SH)=>∃v2 L2,aN [v] L [v2] L2∧∃(v:AV) (o':Option Nat) (site':Int),_)=Q
 have fin:=cy hQ
 clear hQ
 have e1:IntKind.i64.wrap ((n:Int)+1)=((n+1:Nat):Int):=by rw[IntWalk.i64_in _ (by omega)];omega
 have v1:=Jh hw hlo ha
 simp only[aB,List.length_map]at hl
 repeat' (first | refine dy (cj ?_ e1) | refine st ?_ | ((with_reducible refine ao 58 ?_);(refine fj v1 (site:=(n:Int)) (next:=((n+1:Nat):Int)) rp rp h0 (by omega) (fun o_ ho_=>?_))) | refine sb (fun nb_ hnb_=>?_) | fail)
 exact fin _ _ _ _ (.one (.here _) (.slotl .last)) (by simp[aB,List.append_assoc]) ho_
theorem G0(hw:w.conds.length<2^40)(hf:w.futures.length<2^40)(ht:w.threads.length<2^40)(hlo:loc.length<2^40)(line:Int)(s arg:aM)(ix:List ae)(e:ae)(body els:List aa){n b:Nat}:
  dg 44 [.agg (aa.mk 9 line s arg ix e body els).row] w loc n b (aB [⟨21,dq w.conds s,0,0,0,0⟩] n) (n+1):=by
 intro bg o out site h0 hb hl hn
 refine aj.fz (aI _ _ _ _ ?_)
 unfold aJ aa.row
 generalize hQ:(fun(v:AV) (L:SH)=>∃v2 L2,aN [v] L [v2] L2∧∃(v:AV) (o':Option Nat) (site':Int),_)=Q
 have fin:=cy hQ
 clear hQ
 have e1:IntKind.i64.wrap ((n:Int)+1)=((n+1:Nat):Int):=by rw[IntWalk.i64_in _ (by omega)];omega
 simp only[aB,List.length_map,List.length_cons,List.length_nil]at hl
 repeat' (first | refine dy (cj ?_ e1) | refine st ?_ | ((with_reducible refine ao 61 ?_);(refine lp (Ab bg w loc (aq o out.length) n ((n+1:Nat):Int) s (by omega)) rp ?_;rintro _ _ ⟨rfl,rfl⟩;dsimp only[List.cons_append,List.nil_append])) | ((with_reducible refine ao 20 ?_);(refine cp (i:=⟨21,dq w.conds s,0,0,0,0⟩) (site:=(n:Int)) (next:=((n+1:Nat):Int)) rp rp (by assumption) (by simp;omega) (fun b_=>?_))) | refine sb (fun nb_ hnb_=>?_) | fail)
 exact fin _ _ _ _ (.one (.here _) (.slotl .last)) (by simp[aB,List.append_assoc]) nofun
theorem FG(hw:w.conds.length<2^40)(hf:w.futures.length<2^40)(ht:w.threads.length<2^40)(hlo:loc.length<2^40)(line:Int)(s arg:aM)(ix:List ae)(e:ae)(body els:List aa){n b:Nat}:
  dg 44 [.agg (aa.mk 10 line s arg ix e body els).row] w loc n b (aB [⟨22,dq w.conds s,0,0,0,0⟩] n) (n+1):=by
 intro bg o out site h0 hb hl hn
 refine aj.fz (aI _ _ _ _ ?_)
 unfold aJ aa.row
 generalize hQ:(fun(v:AV) (L:SH)=>∃v2 L2,aN [v] L [v2] L2∧∃(v:AV) (o':Option Nat) (site':Int),_)=Q
 have fin:=cy hQ
 clear hQ
 have e1:IntKind.i64.wrap ((n:Int)+1)=((n+1:Nat):Int):=by rw[IntWalk.i64_in _ (by omega)];omega
 simp only[aB,List.length_map,List.length_cons,List.length_nil]at hl
 repeat' (first | refine dy (cj ?_ e1) | refine st ?_ | ((with_reducible refine ao 61 ?_);(refine lp (Ab bg w loc (aq o out.length) n ((n+1:Nat):Int) s (by omega)) rp ?_;rintro _ _ ⟨rfl,rfl⟩;dsimp only[List.cons_append,List.nil_append])) | ((with_reducible refine ao 20 ?_);(refine cp (i:=⟨22,dq w.conds s,0,0,0,0⟩) (site:=(n:Int)) (next:=((n+1:Nat):Int)) rp rp (by assumption) (by simp;omega) (fun b_=>?_))) | refine sb (fun nb_ hnb_=>?_) | fail)
 exact fin _ _ _ _ (.one (.here _) (.slotl .last)) (by simp[aB,List.append_assoc]) nofun
theorem FH(hw:w.conds.length<2^40)(hf:w.futures.length<2^40)(ht:w.threads.length<2^40)(hlo:loc.length<2^40)(line:Int)(s arg:aM)(ix:List ae)(e:ae)(body els:List aa){n b:Nat}:
  dg 44 [.agg (aa.mk 11 line s arg ix e body els).row] w loc n b (aB [⟨23,dq w.conds s,0,0,0,0⟩] n) (n+1):=by
 intro bg o out site h0 hb hl hn
 refine aj.fz (aI _ _ _ _ ?_)
 unfold aJ aa.row
 generalize hQ:(fun(v:AV) (L:SH)=>∃v2 L2,aN [v] L [v2] L2∧∃(v:AV) (o':Option Nat) (site':Int),_)=Q
 have fin:=cy hQ
 clear hQ
 have e1:IntKind.i64.wrap ((n:Int)+1)=((n+1:Nat):Int):=by rw[IntWalk.i64_in _ (by omega)];omega
 simp only[aB,List.length_map,List.length_cons,List.length_nil]at hl
 repeat' (first | refine dy (cj ?_ e1) | refine st ?_ | ((with_reducible refine ao 61 ?_);(refine lp (Ab bg w loc (aq o out.length) n ((n+1:Nat):Int) s (by omega)) rp ?_;rintro _ _ ⟨rfl,rfl⟩;dsimp only[List.cons_append,List.nil_append])) | ((with_reducible refine ao 20 ?_);(refine cp (i:=⟨23,dq w.conds s,0,0,0,0⟩) (site:=(n:Int)) (next:=((n+1:Nat):Int)) rp rp (by assumption) (by simp;omega) (fun b_=>?_))) | refine sb (fun nb_ hnb_=>?_) | fail)
 exact fin _ _ _ _ (.one (.here _) (.slotl .last)) (by simp[aB,List.append_assoc]) nofun
theorem FI(hw:w.conds.length<2^40)(hf:w.futures.length<2^40)(ht:w.threads.length<2^40)(hlo:loc.length<2^40)(line:Int)(s arg:aM)(ix:List ae)(e:ae)(body els:List aa){n b:Nat}:
  dg 44 [.agg (aa.mk 12 line s arg ix e body els).row] w loc n b (aB [⟨24,fP w.threads s,0,0,0,0⟩] n) (n+1):=by
 intro bg o out site h0 hb hl hn
 refine aj.fz (aI _ _ _ _ ?_)
 unfold aJ aa.row
 generalize hQ:(fun(v:AV) (L:SH)=>∃v2 L2,aN [v] L [v2] L2∧∃(v:AV) (o':Option Nat) (site':Int),_)=Q
 have fin:=cy hQ
 clear hQ
 have e1:IntKind.i64.wrap ((n:Int)+1)=((n+1:Nat):Int):=by rw[IntWalk.i64_in _ (by omega)];omega
 simp only[aB,List.length_map,List.length_cons,List.length_nil]at hl
 repeat' (first | refine dy (cj ?_ e1) | refine st ?_ | ((with_reducible refine ao 56 ?_);refine af (fQ w.threads s (by omega)) ?_) | ((with_reducible refine al 56 ?_);refine ab (fQ w.threads s (by omega)) ?_) | ((with_reducible refine al 20 ?_);refine fi ?_;refine cp (i:=⟨24,fP w.threads s,0,0,0,0⟩) (site:=(n:Int)) (next:=((n+1:Nat):Int)) rp rp (by assumption) (by simp;omega) (fun b_ ks_=>?_)) | refine sb (fun nb_ hnb_=>?_) | fail)
 exact fin _ _ _ _ (.one (.here _) (.slotl .last)) (by simp[aB,List.append_assoc]) nofun
theorem FJ(hw:w.conds.length<2^40)(hf:w.futures.length<2^40)(ht:w.threads.length<2^40)(hlo:loc.length<2^40)(line:Int)(s arg:aM)(ix:List ae)(e:ae)(body els:List aa){n b:Nat}:
  dg 44 [.agg (aa.mk 13 line s arg ix e body els).row] w loc n b (aB [⟨25,fP w.threads s,0,0,0,0⟩] n) (n+1):=by
 intro bg o out site h0 hb hl hn
 refine aj.fz (aI _ _ _ _ ?_)
 unfold aJ aa.row
 generalize hQ:(fun(v:AV) (L:SH)=>∃v2 L2,aN [v] L [v2] L2∧∃(v:AV) (o':Option Nat) (site':Int),_)=Q
 have fin:=cy hQ
 clear hQ
 have e1:IntKind.i64.wrap ((n:Int)+1)=((n+1:Nat):Int):=by rw[IntWalk.i64_in _ (by omega)];omega
 simp only[aB,List.length_map,List.length_cons,List.length_nil]at hl
 repeat' (first | refine dy (cj ?_ e1) | refine st ?_ | ((with_reducible refine ao 56 ?_);refine af (fQ w.threads s (by omega)) ?_) | ((with_reducible refine al 56 ?_);refine ab (fQ w.threads s (by omega)) ?_) | ((with_reducible refine al 20 ?_);refine fi ?_;refine cp (i:=⟨25,fP w.threads s,0,0,0,0⟩) (site:=(n:Int)) (next:=((n+1:Nat):Int)) rp rp (by assumption) (by simp;omega) (fun b_ ks_=>?_)) | refine sb (fun nb_ hnb_=>?_) | fail)
 exact fin _ _ _ _ (.one (.here _) (.slotl .last)) (by simp[aB,List.append_assoc]) nofun
theorem FK(hw:w.conds.length<2^40)(hf:w.futures.length<2^40)(ht:w.threads.length<2^40)(hlo:loc.length<2^40)(line:Int)(s arg:aM)(ix:List ae)(e:ae)(body els:List aa){n b:Nat}:
  dg 44 [.agg (aa.mk 15 line s arg ix e body els).row] w loc n b (aB [⟨27,fP loc s,fP w.futures arg,0,0,0⟩] n) (n+1):=by
 intro bg o out site h0 hb hl hn
 refine aj.fz (aI _ _ _ _ ?_)
 unfold aJ aa.row
 generalize hQ:(fun(v:AV) (L:SH)=>∃v2 L2,aN [v] L [v2] L2∧∃(v:AV) (o':Option Nat) (site':Int),_)=Q
 have fin:=cy hQ
 clear hQ
 have e1:IntKind.i64.wrap ((n:Int)+1)=((n+1:Nat):Int):=by rw[IntWalk.i64_in _ (by omega)];omega
 simp only[aB,List.length_map,List.length_cons,List.length_nil]at hl
 repeat' (first | refine dy (cj ?_ e1) | refine st ?_ | ((with_reducible refine ao 56 ?_);refine af (fQ loc s (by omega)) ?_) | ((with_reducible refine al 56 ?_);refine ab (fQ loc s (by omega)) ?_) | ((with_reducible refine ao 56 ?_);refine af (fQ w.futures arg (by omega)) ?_) | ((with_reducible refine al 56 ?_);refine ab (fQ w.futures arg (by omega)) ?_) | ((with_reducible refine al 20 ?_);refine fi ?_;refine cp (i:=⟨27,fP loc s,fP w.futures arg,0,0,0⟩) (site:=(n:Int)) (next:=((n+1:Nat):Int)) rp rp (by assumption) (by simp;omega) (fun b_ ks_=>?_)) | refine sb (fun nb_ hnb_=>?_) | fail)
 exact fin _ _ _ _ (.one (.here _) (.slotl .last)) (by simp[aB,List.append_assoc]) nofun
theorem Jl(hw:w.cells.length<2^40)(hlo:loc.length<2^40)(hf:w.futures.length<2^40)(line:Int)(s arg:aM)(ix:List ae)(e:ae)(body els:List aa){ce:List av}{n b:Nat}(hv:dK w loc e loc.length ce):
  dg 44 [.agg (aa.mk 14 line s arg ix e body els).row] w loc n b (aB (ce++[⟨26,fP w.futures s,loc.length,0,0,0⟩]) n) (n+1):=by
 intro bg o out site h0 hb hl hn
 refine aj.fz (aI _ _ _ _ ?_)
 unfold aJ aa.row
 generalize hQ:(fun(v:AV) (L:SH)=>∃v2 L2,aN [v] L [v2] L2∧∃(v:AV) (o':Option Nat) (site':Int),_)=Q
 have fin:=cy hQ
 clear hQ
 have e1:IntKind.i64.wrap ((n:Int)+1)=((n+1:Nat):Int):=by rw[IntWalk.i64_in _ (by omega)];omega
 have v1:=fy hw hlo hv
 simp only[aB,List.length_map,List.length_append,List.length_cons,List.length_nil]at hl
 repeat' (first | refine dy (cj ?_ e1) | refine st ?_ | ((with_reducible refine ao 62 ?_);(refine fj v1 (site:=(n:Int)) (next:=((n+1:Nat):Int)) rp rp h0 (by omega) (fun o_ ho_=>?_))) | ((with_reducible refine ao 56 ?_);refine af (fQ w.futures s (by omega)) ?_) | ((with_reducible refine al 56 ?_);refine ab (fQ w.futures s (by omega)) ?_) | ((with_reducible refine al 20 ?_);refine fi ?_;refine cp (i:=⟨26,fP w.futures s,loc.length,0,0,0⟩) (site:=(n:Int)) (next:=((n+1:Nat):Int)) rp rp (by assumption) (by simp;omega) (fun b_ ks_=>?_)) | refine sb (fun nb_ hnb_=>?_) | fail)
 exact fin _ _ _ _ (.one (.here _) (.slotl .last)) (by simp[aB,List.append_assoc]) nofun
theorem FL(hk:w.locks.length<2^40)(line:Int)(s arg:aM)(ix:List ae)(e:ae)(body els:List aa){cb:List av}{n b n2:Nat}(hB:dg 19 [.lst (body.map aa.enc)] w loc (n+1) (b+1) cb n2)(hm:n+1≤n2):
  dg 44 [.agg (aa.mk 4 line s arg ix e body els).row] w loc n b (aB [⟨11,(bA w.locks s),0,0,0,0⟩] n++cb++aB [⟨12,(bA w.locks s),0,0,0,0⟩] n) n2:=by
 intro bg o out site h0 hb hl hn
 refine aj.fz (aI _ _ _ _ ?_)
 unfold aJ aa.row
 generalize hQ:(fun(v:AV) (L:SH)=>∃v2 L2,aN [v] L [v2] L2∧∃(v:AV) (o':Option Nat) (site':Int),_)=Q
 have fin:=cy hQ
 clear hQ
 have e1:IntKind.i64.wrap ((n:Int)+1)=((n+1:Nat):Int):=by rw[IntWalk.i64_in _ (by omega)];omega
 simp only[aB,List.length_map,List.length_append,List.length_cons,List.length_nil]at hl
 repeat' (first | refine dy (cj ?_ e1) | refine st ?_ | ((with_reducible refine ao 42 ?_);refine af (f9 w.locks s (by omega)) ?_) | ((with_reducible refine al 42 ?_);refine ab (f9 w.locks s (by omega)) ?_) | ((with_reducible refine al 60 ?_);refine fi ?_;refine cz (jf bg o out n (n+1) n2 4 line s arg ix e body els 11 12 (bA w.locks s) cb h0 (by rw[hb];exact hB) (by omega) hn) ?_;rintro _ _ ⟨v_,o_,s_,rfl,rfl,ho_,rfl⟩ ks_) | refine sb (fun nb_ hnb_=>?_) | fail)
 exact fin _ _ _ _ (.one (.here _) (.slotl .last)) rfl ho_
theorem FM(hk:w.locks.length<2^40)(line:Int)(s arg:aM)(ix:List ae)(e:ae)(body els:List aa){cb:List av}{n b n2:Nat}(hB:dg 19 [.lst (body.map aa.enc)] w loc (n+1) (b+1) cb n2)(hm:n+1≤n2):
  dg 44 [.agg (aa.mk 5 line s arg ix e body els).row] w loc n b (aB [⟨13,(bA w.locks s),0,0,0,0⟩] n++cb++aB [⟨14,(bA w.locks s),0,0,0,0⟩] n) n2:=by
 intro bg o out site h0 hb hl hn
 refine aj.fz (aI _ _ _ _ ?_)
 unfold aJ aa.row
 generalize hQ:(fun(v:AV) (L:SH)=>∃v2 L2,aN [v] L [v2] L2∧∃(v:AV) (o':Option Nat) (site':Int),_)=Q
 have fin:=cy hQ
 clear hQ
 have e1:IntKind.i64.wrap ((n:Int)+1)=((n+1:Nat):Int):=by rw[IntWalk.i64_in _ (by omega)];omega
 simp only[aB,List.length_map,List.length_append,List.length_cons,List.length_nil]at hl
 repeat' (first | refine dy (cj ?_ e1) | refine st ?_ | ((with_reducible refine ao 42 ?_);refine af (f9 w.locks s (by omega)) ?_) | ((with_reducible refine al 42 ?_);refine ab (f9 w.locks s (by omega)) ?_) | ((with_reducible refine al 60 ?_);refine fi ?_;refine cz (jf bg o out n (n+1) n2 5 line s arg ix e body els 13 14 (bA w.locks s) cb h0 (by rw[hb];exact hB) (by omega) hn) ?_;rintro _ _ ⟨v_,o_,s_,rfl,rfl,ho_,rfl⟩ ks_) | refine sb (fun nb_ hnb_=>?_) | fail)
 exact fin _ _ _ _ (.one (.here _) (.slotl .last)) rfl ho_
theorem FN(hk:w.locks.length<2^40)(line:Int)(s arg:aM)(ix:List ae)(e:ae)(body els:List aa){cb:List av}{n b n2:Nat}(hB:dg 19 [.lst (body.map aa.enc)] w loc (n+1) (b+1) cb n2)(hm:n+1≤n2):
  dg 44 [.agg (aa.mk 6 line s arg ix e body els).row] w loc n b (aB [⟨15,(bA w.locks s),0,0,0,0⟩] n++cb++aB [⟨16,(bA w.locks s),0,0,0,0⟩] n) n2:=by
 intro bg o out site h0 hb hl hn
 refine aj.fz (aI _ _ _ _ ?_)
 unfold aJ aa.row
 generalize hQ:(fun(v:AV) (L:SH)=>∃v2 L2,aN [v] L [v2] L2∧∃(v:AV) (o':Option Nat) (site':Int),_)=Q
 have fin:=cy hQ
 clear hQ
 have e1:IntKind.i64.wrap ((n:Int)+1)=((n+1:Nat):Int):=by rw[IntWalk.i64_in _ (by omega)];omega
 simp only[aB,List.length_map,List.length_append,List.length_cons,List.length_nil]at hl
 repeat' (first | refine dy (cj ?_ e1) | refine st ?_ | ((with_reducible refine ao 42 ?_);refine af (f9 w.locks s (by omega)) ?_) | ((with_reducible refine al 42 ?_);refine ab (f9 w.locks s (by omega)) ?_) | ((with_reducible refine al 60 ?_);refine fi ?_;refine cz (jf bg o out n (n+1) n2 6 line s arg ix e body els 15 16 (bA w.locks s) cb h0 (by rw[hb];exact hB) (by omega) hn) ?_;rintro _ _ ⟨v_,o_,s_,rfl,rfl,ho_,rfl⟩ ks_) | refine sb (fun nb_ hnb_=>?_) | fail)
 exact fin _ _ _ _ (.one (.here _) (.slotl .last)) rfl ho_
theorem FO(hk:w.locks.length<2^40)(line:Int)(s arg:aM)(ix:List ae)(e:ae)(body els:List aa){cb:List av}{n b n2:Nat}(hB:dg 19 [.lst (body.map aa.enc)] w loc (n+1) (b+1) cb n2)(hm:n+1≤n2):
  dg 44 [.agg (aa.mk 7 line s arg ix e body els).row] w loc n b (aB [⟨17,0,0,0,0,0⟩] n++cb++aB [⟨18,0,0,0,0,0⟩] n) n2:=by
 intro bg o out site h0 hb hl hn
 refine aj.fz (aI _ _ _ _ ?_)
 unfold aJ aa.row
 generalize hQ:(fun(v:AV) (L:SH)=>∃v2 L2,aN [v] L [v2] L2∧∃(v:AV) (o':Option Nat) (site':Int),_)=Q
 have fin:=cy hQ
 clear hQ
 have e1:IntKind.i64.wrap ((n:Int)+1)=((n+1:Nat):Int):=by rw[IntWalk.i64_in _ (by omega)];omega
 simp only[aB,List.length_map,List.length_append,List.length_cons,List.length_nil]at hl
 repeat' (first | refine dy (cj ?_ e1) | refine st ?_ | ((with_reducible refine ao 60 ?_);(refine cz (jf bg o out n (n+1) n2 7 line s arg ix e body els 17 18 0 cb h0 (by rw[hb];exact hB) (by omega) hn) ?_;rintro _ _ ⟨v_,o_,s_,rfl,rfl,ho_,rfl⟩)) | refine sb (fun nb_ hnb_=>?_) | fail)
 exact fin _ _ _ _ (.one (.here _) (.slotl .last)) rfl ho_
theorem FP(hk:w.locks.length<2^40)(line:Int)(s arg:aM)(ix:List ae)(e:ae)(body els:List aa){cb:List av}{n b n2:Nat}(hB:dg 19 [.lst (body.map aa.enc)] w loc (n+1) (b+1) cb n2)(hm:n+1≤n2):
  dg 44 [.agg (aa.mk 8 line s arg ix e body els).row] w loc n b (aB [⟨19,0,0,0,0,0⟩] n++cb++aB [⟨20,0,0,0,0,0⟩] n) n2:=by
 intro bg o out site h0 hb hl hn
 refine aj.fz (aI _ _ _ _ ?_)
 unfold aJ aa.row
 generalize hQ:(fun(v:AV) (L:SH)=>∃v2 L2,aN [v] L [v2] L2∧∃(v:AV) (o':Option Nat) (site':Int),_)=Q
 have fin:=cy hQ
 clear hQ
 have e1:IntKind.i64.wrap ((n:Int)+1)=((n+1:Nat):Int):=by rw[IntWalk.i64_in _ (by omega)];omega
 simp only[aB,List.length_map,List.length_append,List.length_cons,List.length_nil]at hl
 repeat' (first | refine dy (cj ?_ e1) | refine st ?_ | ((with_reducible refine ao 60 ?_);(refine cz (jf bg o out n (n+1) n2 8 line s arg ix e body els 19 20 0 cb h0 (by rw[hb];exact hB) (by omega) hn) ?_;rintro _ _ ⟨v_,o_,s_,rfl,rfl,ho_,rfl⟩)) | refine sb (fun nb_ hnb_=>?_) | fail)
 exact fin _ _ _ _ (.one (.here _) (.slotl .last)) rfl ho_
theorem FQ{bg:Nat}{x:AV}{out:List av}{c:List av}{n2:Nat}{L:SH}
  (h:∀(Q:R),(∀(o':Option Nat) (out':List av) (site':Int) (L:SH),eo L ((bg,cE w loc (aq o' out'.length) site' n2)::am o' 6 (out'.map av.enc))→out'=out++c→(o'=none→out'=[])→Q (.tup []) L)→bv (.ptr bg 0 0) x L Q) :
  aj Tryz.prog 59 [.ptr bg 0 0,x] L fun u K=>∃(v:AV) (o':Option Nat) (site':Int),u=v∧v=.tup []∧(o'=none→out++c=[])∧K=(bg,cE w loc (aq o' (out++c).length) site' n2)::am o' 6 ((out++c).map av.enc):=by
 refine aj.fz (ke _ _ _ _ ?_)
 generalize hQ:(fun(v:AV) (L:SH)=>∃v2 L2,aN [v] L [v2] L2∧∃(v:AV) (o':Option Nat) (site':Int),_)=Q
 exact h Q (cy hQ)
theorem FR(hw:w.cells.length<2^40)(hlo:loc.length<2^40)(line:Int)(s arg:aM)(ix:List ae)(e:ae)(body:List aa)(els:List aa){ce cb:List av}{n b n2:Nat}(hv:dK w loc e loc.length ce)(hB:dg 19 [.lst (body.map aa.enc)] w loc (n+1) (b+ce.length+1) cb n2)(hm:n+1≤n2):
  dg 44 [.agg (aa.mk 3 line s arg ix e body els).row] w loc n b (aB (ce++[⟨10,loc.length,((b+ce.length+1+cb.length+1:Nat):Int),0,0,0⟩]) n++cb++aB [⟨5,(b:Int),0,0,0,0⟩] n) n2:=by
 intro bg o out site h0 hb hl hn
 refine aj.fz (aI _ _ _ _ ?_)
 unfold aJ aa.row
 generalize hQ:(fun(v:AV) (L:SH)=>∃v2 L2,aN [v] L [v2] L2∧∃(v:AV) (o':Option Nat) (site':Int),_)=Q
 have fin:=cy hQ
 clear hQ
 have e1:IntKind.i64.wrap ((n:Int)+1)=((n+1:Nat):Int):=by rw[IntWalk.i64_in _ (by omega)];omega
 simp only[aB,List.length_map,List.length_append,List.length_cons,List.length_nil]at hl
 subst hb
 repeat' (first | refine dy (cj ?_ e1) | refine st ?_ | ((with_reducible refine ao 59 ?_);(refine cz (FQ (fun Q_ fin_=>FF hw hlo bg o out n (n+1) n2 line s arg ix e body els ce cb h0 hv hB (by omega) hn fin_)) ?_;rintro _ _ ⟨v_,o_,s_,rfl,rfl,ho_,rfl⟩)) | refine sb (fun nb_ hnb_=>?_) | fail)
 exact fin _ _ _ _ (.one (.here _) (.slotl .last)) rfl ho_
theorem Jm(hw:w.cells.length<2^40)(hlo:loc.length<2^40)(line:Int)(s arg:aM)(ix:List ae)(e:ae)(body:List aa){ce cb:List av}{n b n2:Nat}(hv:dK w loc e loc.length ce)(hB:dg 19 [.lst (body.map aa.enc)] w loc (n+1) (b+ce.length+1) cb n2)(hm:n+1≤n2):
  dg 44 [.agg (aa.mk 2 line s arg ix e body []).row] w loc n b (aB (ce++[⟨10,loc.length,((b+ce.length+1+cb.length:Nat):Int),0,0,0⟩]) n++cb) n2:=by
 intro bg o out site h0 hb hl hn
 refine aj.fz (aI _ _ _ _ ?_)
 unfold aJ aa.row
 generalize hQ:(fun(v:AV) (L:SH)=>∃v2 L2,aN [v] L [v2] L2∧∃(v:AV) (o':Option Nat) (site':Int),_)=Q
 have fin:=cy hQ
 clear hQ
 have e1:IntKind.i64.wrap ((n:Int)+1)=((n+1:Nat):Int):=by rw[IntWalk.i64_in _ (by omega)];omega
 simp only[aB,List.length_map,List.length_append,List.length_cons,List.length_nil]at hl
 subst hb
 repeat' (first | refine dy (cj ?_ e1) | refine st ?_ | ((with_reducible refine ao 59 ?_);(refine cz (FQ (fun Q_ fin_=>Ji hw hlo bg o out n (n+1) n2 line s arg ix e body ce cb h0 hv hB (by omega) hn fin_)) ?_;rintro _ _ ⟨v_,o_,s_,rfl,rfl,ho_,rfl⟩)) | refine sb (fun nb_ hnb_=>?_) | fail)
 exact fin _ _ _ _ (.one (.here _) (.slotl .last)) rfl ho_
theorem Jn(hw:w.cells.length<2^40)(hlo:loc.length<2^40)(line:Int)(s arg:aM)(ix:List ae)(e:ae)(body:List aa)(y:aa)(els:List aa){ce cb cl:List av}{n b n2 n3:Nat}(hv:dK w loc e loc.length ce)(hB:dg 19 [.lst (body.map aa.enc)] w loc (n+1) (b+ce.length+1) cb n2)(hm:n+1≤n2)(hB2:dg 19 [.lst ((y::els).map aa.enc)] w loc n2 (b+ce.length+1+cb.length+1) cl n3)(hn2:n2≤n3):
  dg 44 [.agg (aa.mk 2 line s arg ix e body (y::els)).row] w loc n b (aB (ce++[⟨10,loc.length,((b+ce.length+1+cb.length+1:Nat):Int),0,0,0⟩]) n++cb++aB [⟨5,((b+ce.length+1+cb.length+1+cl.length:Nat):Int),0,0,0,0⟩] n++cl) n3:=by
 intro bg o out site h0 hb hl hn
 refine aj.fz (aI _ _ _ _ ?_)
 unfold aJ aa.row
 generalize hQ:(fun(v:AV) (L:SH)=>∃v2 L2,aN [v] L [v2] L2∧∃(v:AV) (o':Option Nat) (site':Int),_)=Q
 have fin:=cy hQ
 clear hQ
 have e1:IntKind.i64.wrap ((n:Int)+1)=((n+1:Nat):Int):=by rw[IntWalk.i64_in _ (by omega)];omega
 simp only[aB,List.length_map,List.length_append,List.length_cons,List.length_nil]at hl
 subst hb
 repeat' (first | refine dy (cj ?_ e1) | refine st ?_ | ((with_reducible refine ao 59 ?_);(refine cz (FQ (fun Q_ fin_=>Jj hw hlo bg o out n (n+1) n2 n3 line s arg ix e body y els ce cb cl h0 hv hB hB2 (by omega) (by omega) hn fin_)) ?_;rintro _ _ ⟨v_,o_,s_,rfl,rfl,ho_,rfl⟩)) | refine sb (fun nb_ hnb_=>?_) | fail)
 exact fin _ _ _ _ (.one (.here _) (.slotl .last)) rfl ho_
structure Cn(w:bu)(loc:List aM):Prop where
 cells:w.cells.length<2^40
 locks:w.locks.length<2^40
 conds:w.conds.length<2^40
 futs:w.futures.length<2^40
 thr:w.threads.length<2^40
 loc:loc.length<2^40
mutual
def aa.short:aa→Prop
 | .mk _ _ _ _ _ _ body els=>aa.shorts body∧body.length<2^40∧aa.shorts els∧els.length<2^40
def aa.shorts:List aa→Prop
 | []=>True
 | x::l=>x.short∧aa.shorts l
end
mutual
theorem aa.short_wt:∀x:aa,x.wt<2^40→x.short
 | .mk a b c d e f body els=>fun h=>by
  have h1:=aa.wts_len body;have h2:=aa.wts_len els
  simp only[aa.wt]at h
  exact⟨aa.shorts_wt body (by omega),by omega,aa.shorts_wt els (by omega),by omega⟩
theorem aa.shorts_wt:∀l:List aa,aa.wts l<2^40→aa.shorts l
 | []=>fun _=>trivial
 | x::l=>fun h=>by simp only[aa.wts]at h;exact⟨aa.short_wt x (by omega),aa.shorts_wt l (by omega)⟩
end
theorem FS(hs:Cn w loc):(∀{x n b c n2},Cm w loc x n b c n2→x.short→dg 44 [.agg x.row] w loc n b c n2)∧∀{l n b c n2},StsC w loc l n b c n2→aa.shorts l→nz w loc l n b c n2:=by
 obtain⟨h1,h2,h3,h4,h5,h6⟩:=hs
 refine Ac (M1:=fun x n b c n2=>x.short→dg 44 [.agg x.row] w loc n b c n2) (M2:=fun l n b c n2=>aa.shorts l→nz w loc l n b c n2) ?_ ?_ ?_ ?_ ?_ ?_ ?_ ?_ ?_
 ·intro line s arg ix e body els c n b ha _
  exact Jk h1 h6 line s arg ix e body els ha
 ·intro line s arg ix e body ce cb n b n2 hv hs ih hw
  exact Jm h1 h6 line s arg ix e body hv (jg (ih hw.1) hw.2.1) (fm.2 hs)
 ·intro line s arg ix e body y els ce cb cl n b n2 n3 hv hs hs2 ih ih2 hw
  exact Jn h1 h6 line s arg ix e body y els hv (jg (ih hw.1) hw.2.1) (fm.2 hs) (jg (ih2 hw.2.2.1) hw.2.2.2) (fm.2 hs2)
 ·intro line s arg ix e body els ce cb n b n2 hv hs ih hw
  exact FR h1 h6 line s arg ix e body els hv (jg (ih hw.1) hw.2.1) (fm.2 hs)
 ·intro op line s arg ix e body els f l ob cb n b n2 ha hs ih hw
  have hB:=jg (ih hw.1) hw.2.1
  unfold BB at ha
  repeat' split at ha
  all_goals first | (exfalso;cases ha;done) | (rename_i hop;subst hop;cases ha)
  ·exact FL h2 line s arg ix e body els hB (fm.2 hs)
  ·exact FM h2 line s arg ix e body els hB (fm.2 hs)
  ·exact FN h2 line s arg ix e body els hB (fm.2 hs)
  ·exact FO h2 line s arg ix e body els hB (fm.2 hs)
  ·exact FP h2 line s arg ix e body els hB (fm.2 hs)
 ·intro op line s arg ix e body els i n b ho _
  unfold FE at ho
  repeat' split at ho
  all_goals first | (exfalso;cases ho;done) | (rename_i hop;subst hop;cases ho)
  ·exact G0 h3 h4 h5 h6 line s arg ix e body els
  ·exact FG h3 h4 h5 h6 line s arg ix e body els
  ·exact FH h3 h4 h5 h6 line s arg ix e body els
  ·exact FI h3 h4 h5 h6 line s arg ix e body els
  ·exact FJ h3 h4 h5 h6 line s arg ix e body els
  ·exact FK h3 h4 h5 h6 line s arg ix e body els
 ·intro line s arg ix e body els ce n b hv _
  exact Jl h1 h6 h4 line s arg ix e body els hv
 ·intro n b _
  exact .nil n b
 ·intro x l c1 c2 n b n1 n2 h1 h2 ih1 ih2 hw
  exact .cons (ih1 hw.1) (Nat.le_of_lt (fm.1 h1)) (ih2 hw.2)
end
end Go.Proofs.YtljkdffikfkcgaaGreat.Am
end
section
namespace Go.Proofs.YtljkdffikfkcgaaGreat.Am
set_option maxRecDepth 100000
set_option maxHeartbeats 2000000
set_option linter.unusedVariables false
theorem xK{α:Type}{o:Option Nat}{size:Nat}{l:List α}{f:α→List AV}{L:SH}(h0:o=none→l=[])(hs:0<size)(hm:∀q∈am o size (l.map f),q∈L):Fz L (aq o l.length) (.lst (l.map f)):=by
 cases o with
 | none=>rw[h0 rfl];exact .emp
 | some b=>exact Fz.sls (hm _ (.head _)) rfl hs rfl
theorem tO(o:Option Nat)(n:Nat):(aq o n).one=true:=by cases o<;>rfl
theorem BC(o:Option Nat)(n:Nat):(aq o n).cells? =some [aq o n]:=by cases o<;>rfl
section
variable {n151:Kn} {b2 b6 i:Nat} {oc ol od of ot os:Option Nat} {w:bu} {dl:List (List AV)} {ts:List ai} {Q:R}
theorem G1(hi:i<ts.length)(hi1:IntKind.i64.wrap ((i:Int)+1)=((i+1:Nat):Int))(hw:i=w.threads.length)(hti:i<2^20)(hb:aa.wts ts[i].body<2^20)(hsl:w.sites.length<2^29)(ho:yE b6 oc ol od of ot os w)
  (hn:HT (n151 [.pptr [[.lst dl,.lst (ts.map ai.enc)]] 0 0,.ptr b2 0 0,.ptr b6 0 0,.int .i64 ((i+1:Nat):Int)]) b2 b6 (cH w ts[i])) :
  gO n151 (xR b2 b6 oc ol od of ot os w) (.ptr b6 0 0) (.pptr [[.lst dl,.lst (ts.map ai.enc)]] 0 0) (.int .i64 i) (.ptr b2 0 0):=by
 have hx:=aw (f:=ai.enc) hi
 have hcw:=aa.cnts_wt ts[i].body
 have hk:=FD i (2^20) ts[i].body (by omega) (by omega)
 have ht0:ot=none→w.threads.map aA=[]:=fun e=>by rw[ho.t e];rfl
 unfold cH at hn
 rw[←hw]at hn
 unfold gO xR
 repeat' (first | refine st ?_ | refine cG rp rp (by simp) (fun e=>by first | simp[ht0 e]) (by rfl) (by simp) (by simp;omega) (by simp;omega) (by rfl) (fun nb_ hnb_=>?_) | ((with_reducible refine al 43 ?_);refine fi ?_;refine Cl (t:=i) (n:=0) hk rp rfl rfl ho.s (by omega) (by omega) (fun o_ ho_ ks_=>?_);simp only[List.cons_append,List.nil_append,List.append_assoc]) | refine tX ?_ (h2:=BC _ _) (h4:=tO _ _) | refine sb (fun nb_ hnb_=>?_) | refine s2 (fun h=>?_) (fun h=>?_) | fail)
 exact hn oc ol od of (some nb_) o_ _ _ _ _ _ _ _ _ _ _ _ _ _ ⟨ho.c,ho.l,ho.d,ho.f,nofun,ho_,ho.n⟩ rp (by simp[aq]) rfl rfl rfl rfl (by rw[List.map_append];rfl) rfl
theorem Jo(hts:ts.length<2^20)(hb:∀t∈ts,aa.wts t.body<2^20)(hw0:w.threads=[])(hs0:w.sites=[])(hsl:∀k,(((ts.take k).foldl cH w).sites.length<2^29))(ho:yE b6 oc ol od of ot os w)
  (hq:∀(v:AV) (L:SH),Fz L v (.agg (ts.foldl cH w).enc)→Q v L) :
  W.loop (gP Q) [.pptr [[.lst dl,.lst (ts.map ai.enc)]] 0 0,.ptr b2 0 0,.ptr b6 0 0,.int .i64 0] (xR b2 b6 oc ol od of ot os w):=by
 have hlen:∀k,k≤ts.length→((ts.take k).foldl cH w).threads.length=k:=by
  intro k
  induction k with
  | zero=>intro _;simp[hw0]
  | succ k ih=>intro h;rw[gT (show k<ts.length by omega)];simp[cH,ih (by omega)]
 refine cv (β:=Option Nat×Option Nat×Option Nat×Option Nat×Option Nat×Option Nat) ts.length (fun i q=>([.pptr [[.lst dl,.lst (ts.map ai.enc)]] 0 0,.ptr b2 0 0,.ptr b6 0 0,.int .i64 i],xR b2 b6 q.1 q.2.1 q.2.2.1 q.2.2.2.1 q.2.2.2.2.1 q.2.2.2.2.2 ((ts.take i).foldl cH w)))
  (fun i q=>yE b6 q.1 q.2.1 q.2.2.1 q.2.2.2.1 q.2.2.2.2.1 q.2.2.2.2.2 ((ts.take i).foldl cH w)) (oc,ol,od,of,ot,os) ho (.refl _ _) ?_
 rintro i ⟨oc,ol,od,of,ot,os⟩ hi ho
 dsimp only at ho ⊢
 unfold gP
 generalize hnx:(fun(vs':List AV) (L':SH)=>∃j o',i<j∧j≤ts.length∧_)=nx
 rcases Nat.lt_or_ge i ts.length with g1 | g1
 ·have hd:=bW g1
  have hi1:=bc g1 (by omega)
  have hgo:HT (nx [.pptr [[.lst dl,.lst (ts.map ai.enc)]] 0 0,.ptr b2 0 0,.ptr b6 0 0,.int .i64 ((i+1:Nat):Int)]) b2 b6 (cH ((ts.take i).foldl cH w) ts[i]):=.of fun oc2 ol2 od2 of2 ot2 os2 L' q1 q2=>by
   subst hnx
   rw[←gT (f:=cH) (a:=w) g1]at q1 q2
   exact⟨i+1,(oc2,ol2,od2,of2,ot2,os2),by omega,by omega,q1,aN.pick q2 rfl⟩
  have hr:=G1 (dl:=dl) g1 hi1 (hlen i (by omega)).symm (by omega) (hb _ (List.getElem_mem g1)) (hsl i) ho hgo
  clear hnx hgo
  generalize hW:xR b2 b6 oc ol od of ot os ((ts.take i).foldl cH w)=LW at *
  repeat' (first | exact hr | refine st ?_ | refine sb (fun nb_ hnb_=>?_) | refine s2 (fun h=>?_) (fun h=>?_) | fail)
 ·have hd:=cX g1
  have e:i=ts.length:=by omega
  subst e
  rw[List.take_length]at ho ⊢
  unfold xR
  repeat' (first | refine st ?_ | refine sb (fun nb_ hnb_=>?_) | refine s2 (fun h=>?_) (fun h=>?_) | fail)
  refine hJ (cs:=[aq oc (List.foldl cH w ts).cells.length,aq ol (List.foldl cH w ts).locks.length,aq od (List.foldl cH w ts).conds.length,aq of (List.foldl cH w ts).futures.length,aq ot (List.foldl cH w ts).threads.length,aq os (List.foldl cH w ts).sites.length]) (.there _ (.here _)) rfl rfl (by simp[tO]) rfl ?_
  repeat' (first | refine st ?_ | refine sb (fun nb_ hnb_=>?_) | refine s2 (fun h=>?_) (fun h=>?_) | fail)
  refine hq _ _ (Fz.aggs (.cons (xK ho.c (by decide) fun q h=>.tail _ (.tail _ (List.mem_append_left _ h))) (.cons (xK ho.l (by decide) fun q h=>.tail _ (.tail _ (List.mem_append_right _ (List.mem_append_left _ h)))) (.cons (xK ho.d (by decide) fun q h=>.tail _ (.tail _ (List.mem_append_right _ (List.mem_append_right _ (List.mem_append_left _ h))))) (.cons (xK ho.f (by decide) fun q h=>.tail _ (.tail _ (List.mem_append_right _ (List.mem_append_right _ (List.mem_append_right _ (List.mem_append_left _ h)))))) (.cons (xK ho.t (by decide) fun q h=>.tail _ (.tail _ (List.mem_append_right _ (List.mem_append_right _ (List.mem_append_right _ (List.mem_append_right _ (List.mem_append_left _ h))))))) (.cons (xK ho.s (by decide) fun q h=>.tail _ (.tail _ (List.mem_append_right _ (List.mem_append_right _ (List.mem_append_right _ (List.mem_append_right _ (List.mem_append_right _ h))))))) .nil)))))))
end
theorem DP(w:bu)(d:au)(hs:d.size≤4):(ca w d).cells.length≤w.cells.length+4∧(ca w d).locks.length≤w.locks.length+1∧(ca w d).conds.length≤w.conds.length+1∧(ca w d).futures.length≤w.futures.length+1∧(ca w d).threads=w.threads∧(ca w d).sites=w.sites:=by
 unfold ca
 repeat' split
 all_goals simp[au.celW]
 all_goals omega
theorem zf(w:bu):∀(l:List au),(∀d∈l,d.size≤4)→(l.foldl ca w).cells.length≤w.cells.length+4*l.length∧(l.foldl ca w).locks.length≤w.locks.length+l.length∧(l.foldl ca w).conds.length≤w.conds.length+l.length∧(l.foldl ca w).futures.length≤w.futures.length+l.length∧(l.foldl ca w).threads=w.threads∧(l.foldl ca w).sites=w.sites:=by
 intro l
 induction l generalizing w with
 | nil=>intro _;simp
 | cons d l ih=>
  intro h
  obtain⟨a1,a2,a3,a4,a5,a6⟩:=DP w d (h d (.head _))
  obtain⟨b1,b2,b3,b4,b5,b6⟩:=ih (ca w d) fun x hx=>h x (.tail _ hx)
  simp only[List.foldl_cons,List.length_cons]
  exact⟨by omega,by omega,by omega,by omega,b5.trans a5,b6.trans a6⟩
theorem Co(ts:List ai):∀(w:bu),(ts.foldl cH w).sites.length=w.sites.length+bo (fun t=>aa.cnts t.body) ts:=by
 induction ts with
 | nil=>intro w;simp[bo]
 | cons t l ih=>intro w;rw[List.foldl_cons,ih];simp[cH,sitL_len,bo];omega
theorem FT(p:aL)(hp:fH p)(hpass:tD p)(hw:p.wt≤200000):aD Tryz.prog 18 [.agg p.enc] (.agg (bG p).enc):=by
 obtain⟨ln,hck⟩:=hpass
 have hkind:∀d∈p.decls,(1≤d.kind∧d.kind≤6)∧d.size≤4:=fun d hd=>by
  obtain⟨i,hi,rfl⟩:=List.getElem_of_mem hd
  refine⟨?_,(hp.decls i hi).size⟩
  have h1:=hp.shaped
  unfold Ff at h1
  rw[Bool.and_eq_true]at h1
  have h2:=List.all_eq_true.1 h1.1 _ (List.getElem_mem hi)
  unfold HM Le at h2
  simp only[Bool.and_eq_true,Bool.not_eq_true',Bool.or_eq_false_iff,decide_eq_false_iff_not]at h2
  omega
 have hdl:=p.decls_len
 have htl:=p.threads_len
 refine aj.fz (xI _ _ _ ?_)
 unfold nw aL.enc
 generalize hQ:(fun(v:AV) (L:SH)=>∃v2 L2,aN [v] L [v2] L2∧v2=.agg (bG p).enc∧L2=[])=Q
 have hq:∀v L,Fz L v (.agg (bG p).enc)→Q v L:=fun v L h=>by
  subst hQ;exact⟨_,[],aN.all h,rfl,rfl⟩
 clear hQ
 repeat' (first | refine st ?_ | ((with_reducible refine ao 17 ?_);refine af (hck) ?_) | ((with_reducible refine al 17 ?_);refine ab (hck) ?_) | refine sb (fun nb_ hnb_=>?_) | refine s2 (fun h=>?_) (fun h=>?_) | fail)
 rename_i b0 hb0 b2 hb2
 have hlen:∀k,((p.decls.take k).foldl ca bu.zero).cells.length<2^30∧((p.decls.take k).foldl ca bu.zero).locks.length<2^30∧((p.decls.take k).foldl ca bu.zero).conds.length<2^30∧((p.decls.take k).foldl ca bu.zero).futures.length<2^30:=fun k=>by
  obtain⟨a1,a2,a3,a4,_,_⟩:=zf bu.zero (p.decls.take k) fun d hd=>(hkind d (List.mem_of_mem_take hd)).2
  have:(p.decls.take k).length≤200000:=by rw[List.length_take];omega
  simp only[bu.zero,List.length_nil]at a1 a2 a3 a4
  exact⟨by show List.length _<_;unfold bu.zero;omega,by show List.length _<_;unfold bu.zero;omega,by show List.length _<_;unfold bu.zero;omega,by show List.length _<_;unfold bu.zero;omega⟩
 obtain⟨_,_,_,_,hth0,hsi0⟩:=zf bu.zero p.decls fun d hd=>(hkind d hd).2
 refine cv (β:=Option Nat×Option Nat×Option Nat×Option Nat×Option Nat×Option Nat) p.decls.length (fun i q=>([.pptr [[.lst (p.decls.map au.enc),.lst (p.threads.map ai.enc)]] 0 0,.ptr b2 0 0,.ptr nb_ 0 0,.int .i64 i],xR b2 nb_ q.1 q.2.1 q.2.2.1 q.2.2.2.1 q.2.2.2.2.1 q.2.2.2.2.2 ((p.decls.take i).foldl ca bu.zero)))
  (fun i q=>yE nb_ q.1 q.2.1 q.2.2.1 q.2.2.2.1 q.2.2.2.2.1 q.2.2.2.2.2 ((p.decls.take i).foldl ca bu.zero)) (none,none,none,none,none,none) ⟨fun _=>rfl,fun _=>rfl,fun _=>rfl,fun _=>rfl,fun _=>rfl,fun _=>rfl,nofun⟩ ?_ ?_
 ·exact aN.rowA (K:=[]) (A:=[]) (R:=[(b2,⟨6,[Jd]⟩)]) (rows:=[[.nils,.nils,.nils,.nils,.nils,.nils]]) (.one (.here _) (.one (.here _) (.nil _))) rfl (ct (.cons .nile (.cons .nile (.cons .nile (.cons .nile (.cons .nile (.cons .nile .nil))))))) rfl
 rintro i ⟨oc,ol,od,of,ot,os⟩ hi ho
 dsimp only at ho ⊢
 unfold ld
 generalize hnx:(fun(vs':List AV) (L':SH)=>∃j o',i<j∧j≤p.decls.length∧_)=nx
 rcases Nat.lt_or_ge i p.decls.length with g1 | g1
 ·have hd:=bW g1
  have hi1:=bc g1 (by omega)
  have hgo:HT (nx [.pptr [[.lst (p.decls.map au.enc),.lst (p.threads.map ai.enc)]] 0 0,.ptr b2 0 0,.ptr nb_ 0 0,.int .i64 ((i+1:Nat):Int)]) b2 nb_ (ca ((p.decls.take i).foldl ca bu.zero) p.decls[i]):=.of fun oc2 ol2 od2 of2 ot2 os2 L' q1 q2=>by
   subst hnx
   rw[←gT (f:=ca) (a:=bu.zero) g1]at q1 q2
   exact⟨i+1,(oc2,ol2,od2,of2,ot2,os2),by omega,by omega,q1,aN.pick q2 rfl⟩
  obtain⟨a1,a2,a3,a4⟩:=hlen i
  have hk:=hkind _ (List.getElem_mem g1)
  have hr:=Je (rows:=p.decls.map au.enc) (tl:=p.threads.map ai.enc) (d:=p.decls[i]) (aw g1) hk.1 (by omega) hi1 ho a1 a2 a3 a4 hgo
  clear hnx hgo
  generalize hW:xR b2 nb_ oc ol od of ot os ((p.decls.take i).foldl ca bu.zero)=LW at *
  repeat' (first | exact hr | refine st ?_ | refine sb (fun nb_ hnb_=>?_) | refine s2 (fun h=>?_) (fun h=>?_) | fail)
 ·have hd:=cX g1
  have e:i=p.decls.length:=by omega
  subst e
  rw[List.take_length]at ho ⊢
  have hl:=Jo (Q:=Q) (dl:=p.decls.map au.enc) (ts:=p.threads) (b2:=b2) (by omega) (fun t ht=>?hb) hth0 hsi0 (fun k=>?hs) ho hq
  case hb=>
   obtain⟨j,hj,rfl⟩:=List.getElem_of_mem ht
   have:=p.thread_wt hj
   unfold ai.wt at this
   omega
  case hs=>
   rw[Co,hsi0]
   have h1:=jD (fun t:ai=>aa.cnts t.body) p.threads k
   have h2:=hp.stmts
   simp only[bu.zero,List.length_nil]
   omega
  generalize hW:xR b2 nb_ oc ol od of ot os (p.decls.foldl ca bu.zero)=LW at *
  repeat' (first | exact hl | refine st ?_ | refine sb (fun nb_ hnb_=>?_) | refine s2 (fun h=>?_) (fun h=>?_) | fail)
end Go.Proofs.YtljkdffikfkcgaaGreat.Am
end
section
namespace Go.Proofs.YtljkdffikfkcgaaGreat.Am
set_option maxRecDepth 100000
set_option maxHeartbeats 2000000
set_option linter.unusedVariables false
theorem aj.fzL{P:Program}{f:FuncId}{args args2:List AV}{L L2:SH}{Q:AV→SH→Prop}(hz:aN args L args2 L2)(h:aj P f args2 L2 Q):aj P f args L Q:=⟨h.1,fun H hb hs=>by
 obtain⟨H2,f1,f2,f3,f4⟩:=ll hz hs hb
 obtain⟨v,H',L',h1,h2,h3⟩:=h.2 H2 f1.bd f1.sub
 refine⟨v,H',L',fun w σ vs hW hvs=>?_,f1.trans (h2.low (by rw[f2];exact Nat.le_refl _)) (Nat.le_refl _),h3⟩
 obtain⟨g1,g2,g3⟩:=f3 w σ hW
 refine(h1 w σ vs g1 (g3 vs hvs)).mono ?_
 rintro e w' ⟨v',σ',rfl,k1,k2,e1,k4⟩
 exact⟨v',σ',rfl,k1,k2,⟨e1.os,e1.tape,e1.output,e1.size,fun c hc hT=>e1.keep c hc (fun h=>hT (g2 c h)),e1.shape,e1.sig,e1.eqfr,e1.frame,fun c hc=>(e1.own c hc).imp (g2 c) id⟩,fun c pl hc=>by rw[←f2];exact k4 c pl hc⟩⟩
def tP(a:Int)(l:List Int):Int:=l.foldl (fun a r=>max a (r+1)) a
def mP(a:Int)(l:List av):Int:=l.foldl (fun a i=>tP a (aO i)) a
theorem Jp{k:IntKind}{a b:Int}{K:AV→Prop}(h:K (.int k (max a b))):W.mnx true (.int k a) (.int k b) K:=by
 have:(if b > a then b else a)=max a b:=by split<;>omega
 rw[Ec,this];exact h
section
variable {n81:Kn} {x1 x2 x3 x4 x5 x6:AV} {bt bg k:Nat} {v:AV} {R:SH}
theorem Jq(l:List Int)(a:Int)(hl:l.length<2^30)(hr:∀r∈l,0≤r∧r<1000)(hk1:IntKind.i64.wrap ((k:Int)+1)=((k+1:Nat):Int))
  (hn:n81 [x1,x2,x3,x4,x5,x6,.ptr bt 0 0,.int .i64 ((k+1:Nat):Int)] ((bt,⟨2,[[.int .i64 (tP a l),v]]⟩)::R)) :
  W.loop (fe n81) [x1,x2,x3,x4,x5,x6,.ptr bt 0 0,.int .i64 k,.lst (l.map az),.int .i64 0] ((bt,⟨2,[[.int .i64 a,v]]⟩)::R):=by
 refine HJ l.length (fun _=>True) (fun j=>([x1,x2,x3,x4,x5,x6,.ptr bt 0 0,.int .i64 k,.lst (l.map az),.int .i64 j],(bt,⟨2,[[.int .i64 (tP a (l.take j)),v]]⟩)::R)) (by omega) trivial rfl rfl (fun j h hd hi _ nx hx=>?_) (fun j e hd _ nx=>?_)
 all_goals unfold fe
 ·have hj:=aw (f:=az) h
  have hb:=hr _ (List.getElem_mem h)
  have h1:IntKind.i64.wrap (l[j]+1)=l[j]+1:=IntWalk.i64_in _ (by omega)
  have e:tP a (l.take (j+1))=max (tP a (l.take j)) (l[j]+1):=by unfold tP;rw[gT h]
  repeat' (first | refine st ?_ | refine Jp ?_ | refine sb (fun nb_ hnb_=>?_) | refine s2 (fun h=>?_) (fun h=>?_) | fail)
  refine hx trivial _ _ ?_
  rw[e]
  exact .refl _ _
 ·subst e
  rw[List.take_length]
  repeat' (first | refine st ?_ | refine sb (fun nb_ hnb_=>?_) | refine s2 (fun h=>?_) (fun h=>?_) | fail)
  exact hn
theorem Jr{n23:Kn}{w:bu}{loc:List aM}{b:Nat}{site next:Int}{M L0:SH}(out:List av)(a:Int)(hl:out.length<2^30)(hr:∀i∈out,∀r∈aO i,0≤r∧r<1000)
  (hn:ff n23 ((bt,⟨2,[[.int .i64 (mP a out),v]]⟩)::(bg,cE w loc (aq (some b) out.length) site next)::(b,⟨6,out.map av.enc⟩)::M) x3 (.ptr bt 0 0) x5 x1 x2 x4) :
  eo L0 ((bt,⟨2,[[.int .i64 a,v]]⟩)::(bg,cE w loc (aq (some b) out.length) site next)::(b,⟨6,out.map av.enc⟩)::M)→W.loop (fg n23) [x1,x2,x3,x4,x5,.ptr bg 0 0,.ptr bt 0 0,.int .i64 0] L0:=by
 intro hp
 refine cv (β:=Unit) out.length (fun j _=>([x1,x2,x3,x4,x5,.ptr bg 0 0,.ptr bt 0 0,.int .i64 j],(bt,⟨2,[[.int .i64 (mP a (out.take j)),v]]⟩)::(bg,cE w loc (aq (some b) out.length) site next)::(b,⟨6,out.map av.enc⟩)::M)) (fun _ _=>True) () trivial (aN.pick hp rfl) ?_
 intro j _ hj0 _
 dsimp only
 unfold fg
 rcases Nat.lt_or_ge j out.length with h | h
 ·have hd:=bW h
  have hi:=bc h (by omega)
  generalize hnx:(fun(vs':List AV) (L':SH)=>∃k o',j<k∧k≤out.length∧_)=nx
  have hx:∀vs' L',aN vs' L' [x1,x2,x3,x4,x5,.ptr bg 0 0,.ptr bt 0 0,.int .i64 ((j+1:Nat):Int)] ((bt,⟨2,[[.int .i64 (mP a (out.take (j+1))),v]]⟩)::(bg,cE w loc (aq (some b) out.length) site next)::(b,⟨6,out.map av.enc⟩)::M)→nx vs' L':=fun vs' L' hf=>by
   subst hnx;exact⟨j+1,(),by omega,by omega,trivial,hf⟩
  clear hnx
  have hj:=aw (f:=av.enc) h
  have e:mP a (out.take (j+1))=tP (mP a (out.take j)) (aO out[j]):=by unfold mP;rw[gT h]
  have hlen:(aO out[j]).length<2^30:=by
   generalize out[j]=i
   unfold aO
   repeat' split
   all_goals simp
  have hrun:=Jq (n81:=nx) (x1:=x1) (x2:=x2) (x3:=x3) (x4:=x4) (x5:=x5) (x6:=.ptr bg 0 0) (bt:=bt) (v:=v) (R:=(bg,cE w loc (aq (some b) out.length) site next)::(b,⟨6,out.map av.enc⟩)::M) (aO out[j]) (mP a (out.take j)) hlen (hr _ (List.getElem_mem h)) hi (by
   refine hx _ _ ?_
   rw[e]
   exact .refl _ _)
  clear hx
  repeat' (first | exact hrun | refine st ?_ | ((with_reducible refine ao 21 ?_);refine af (jB out[j]) ?_) | ((with_reducible refine al 21 ?_);refine ab (jB out[j]) ?_) | refine sb (fun nb_ hnb_=>?_) | refine s2 (fun h=>?_) (fun h=>?_) | fail)
 ·have hd:=cX h
  have e:j=out.length:=by omega
  subst e
  rw[List.take_length]
  generalize(fun(vs':List AV) (L':SH)=>∃k o',out.length<k∧k≤out.length∧_)=nx
  repeat' (first | exact hn | refine st ?_ | refine sb (fun nb_ hnb_=>?_) | refine s2 (fun h=>?_) (fun h=>?_) | fail)
end
def jG:av:=⟨28,0,0,0,0,-1⟩
def DV(loc:List aM)(c:List av):sx:=⟨mP loc.length (c++[jG]),c++[jG]⟩
def KX(b19:Nat)(w:bu)(v:AV):Nat×Blk:=(b19,⟨7,[[.lst (w.cells.map fw.enc),.lst (w.locks.map eG.enc),.lst (w.conds.map mO.enc),.lst (w.futures.map aA),.lst (w.threads.map aA),.lst (w.sites.map fx.enc),v]]⟩)
def HV(b2 b19:Nat)(w:bu)(oT:Option Nat)(ts:List sx):SH:=KX b19 w (aq oT ts.length)::(b2,⟨7,[[.nils,.nils,.nils,.nils,.nils,.nils,.nils]]⟩)::am oT 2 (ts.map sx.enc)
section
variable {n23:Kn} {b2 b19 i n n2:Nat} {w:bu} {oT:Option Nat} {ts:List sx} {dl:List (List AV)} {th:List ai} {c:List av}
theorem Js(hi:i<th.length)(hi1:IntKind.i64.wrap ((i:Int)+1)=((i+1:Nat):Int))(hT:oT=none→ts=[])(hts:ts.length<2^20)(hK:dg 19 [.lst (th[i].body.map aa.enc)] w th[i].locals n 0 c n2)(hc:c.length<2^20)(hn2:n2<2^20)(hr:∀i∈c++[jG],∀r∈aO i,0≤r∧r<1000)
  (hn:∀(nb:Nat) (L':SH),aN [.pptr [[.lst dl,.lst (th.map ai.enc)]] 0 0,.ptr b2 0 0,.ptr b19 0 0,.int .i64 n2,.int .i64 ((i+1:Nat):Int)] L' [.pptr [[.lst dl,.lst (th.map ai.enc)]] 0 0,.ptr b2 0 0,.ptr b19 0 0,.int .i64 n2,.int .i64 ((i+1:Nat):Int)] (HV b2 b19 w (some nb) (ts++[DV th[i].locals c]))→n23 [.pptr [[.lst dl,.lst (th.map ai.enc)]] 0 0,.ptr b2 0 0,.ptr b19 0 0,.int .i64 n2,.int .i64 ((i+1:Nat):Int)] L') :
  fh n23 (HV b2 b19 w oT ts) (.ptr b19 0 0) (.pptr [[.lst dl,.lst (th.map ai.enc)]] 0 0) (.int .i64 i) (.int .i64 n) (.ptr b2 0 0):=by
 have hx:=aw (f:=ai.enc) hi
 have hT0:oT=none→ts.map sx.enc=[]:=fun e=>by rw[hT e];rfl
 unfold fh HV KX
 repeat' (first | refine st ?_ | ((with_reducible refine ao 19 ?_);(refine⟨aj.fzL (aN.row (K:=[]) (rows':=(cE w th[i].locals (aq none 0) 0 n).rows) (.refl _) rfl (ct (.cons (.refl _) (.cons (.refl _) (.cons (.refl _) (.cons (.refl _) (.cons (.refl _) (.cons (.refl _) (.cons (.refl _) (.cons .nile (.cons (.refl _) (.cons (.refl _) .nil)))))))))))) (qe (o:=none) (out:=[]) (site:=0) hK rp (.here _) (fun _=>rfl) rfl (by omega) (by omega) (fun o_ s_ ho_=>?_)).1⟩;dsimp only[List.nil_append,List.cons_append])) | ((with_reducible refine ao 20 ?_);(refine cp (i:=⟨28,0,0,0,0,0⟩) (site:=-1) rp rp (by assumption) (by omega) (fun b_=>?_);simp only[List.cons_append,List.append_assoc,List.nil_append,List.append_nil])) | refine sb (fun nb_ hnb_=>?_) | refine s2 (fun h=>?_) (fun h=>?_) | fail)
 have hle:(c++[jG]).length<2^30:=by simp;omega
 refine Jr (out:=c++[jG]) (b:=b_) (w:=w) (loc:=th[i].locals) (site:=-1) (next:=n2) (M:=(b19,⟨7,[[.lst (w.cells.map fw.enc),.lst (w.locks.map eG.enc),.lst (w.conds.map mO.enc),.lst (w.futures.map aA),.lst (w.threads.map aA),.lst (w.sites.map fx.enc),aq oT ts.length]]⟩)::(b2,⟨7,[[.nils,.nils,.nils,.nils,.nils,.nils,.nils]]⟩)::am oT 2 (ts.map sx.enc)) th[i].locals.length hle hr ?_ (.one (.here _) (.one (.here _) (eo.slot (o:=some b_) (n:=6) (.there _ (.there _ (.skip _ _ _ .last))) (.one (.here _) (.one (.here _) (.slotl rp))))))
 unfold ff
 repeat' (first | refine st ?_ | refine cG rp rp (by simp) (fun e=>by first | simp[hT0 e]) (by rfl) (by simp) (by simp;omega) (by simp;omega) (by rfl) (fun nb_ hnb_=>?_) | refine sb (fun nb_ hnb_=>?_) | refine s2 (fun h=>?_) (fun h=>?_) | fail)
 have e:HV b2 b19 w (some nb_) (ts++[DV th[i].locals c])=[KX b19 w (.sl nb_ 0 (ts.length+1)),(b2,⟨7,[[.nils,.nils,.nils,.nils,.nils,.nils,.nils]]⟩)]++(nb_,⟨2,(ts++[DV th[i].locals c]).map sx.enc⟩)::[]:=by
  unfold HV;rw[List.length_append];rfl
 refine hn nb_ _ ?_
 rw[e]
 refine aN.rowA (rows:=ts.map sx.enc++[[.int .i64 (mP th[i].locals.length (c++[jG])),.sl b_ 0 (c++[jG]).length]]) (.one (.there _ (.there _ (.there _ (.there _ (.there _ (.here _)))))) (.one (.there _ (.there _ (.there _ (.there _ (.there _ (.here _)))))) (.one (.here _) (.nil _)))) (by simp) (cD (f:=sx.enc) (x:=DV th[i].locals c) (.cons (.refl _) (.cons (Fz.sls (l:=c++[jG]) (f:=av.enc) (size:=6) mm rfl (by decide) rfl) .nil))) rfl
end
end Go.Proofs.YtljkdffikfkcgaaGreat.Am
end
section
namespace Go.Proofs.YtljkdffikfkcgaaGreat.Am
set_option maxRecDepth 100000
set_option maxHeartbeats 2000000
set_option linter.unusedVariables false
structure yF where
 w:bu
 ts:List sx
def yF.enc(c:yF):List AV:=[.lst (c.w.cells.map fw.enc),.lst (c.w.locks.map eG.enc),.lst (c.w.conds.map mO.enc),.lst (c.w.futures.map aA),.lst (c.w.threads.map aA),.lst (c.w.sites.map fx.enc),.lst (c.ts.map sx.enc)]
structure FU(p:aL)(nx:Nat→Nat)(cs:Nat→List av)(tcs:List sx):Prop where
 zero:nx 0=0
 len:tcs.length=p.threads.length
 code:∀i (h:i<p.threads.length),StsC (bG p) p.threads[i].locals p.threads[i].body (nx i) 0 (cs i) (nx (i+1))
 tc:∀i (h:i<p.threads.length),tcs[i]'(by rw[len];exact h)=DV p.threads[i].locals (cs i)
 short:∀i,(cs i).length<2^20
 few:∀i,nx i<2^20
 regs:∀i,i<p.threads.length→∀x∈cs i++[jG],∀r∈aO x,0≤r∧r<1000
theorem Cp(p:aL)(hp:fH p)(hpass:tD p)(hw:p.wt≤200000){nx:Nat→Nat}{cs:Nat→List av}{tcs:List sx}(hC:FU p nx cs tcs)(hs:∀i (h:i<p.threads.length),Cn (bG p) p.threads[i].locals):
  aD Tryz.prog 10 [.agg p.enc] (.tup [.agg (yF.enc ⟨bG p,tcs⟩),.int .i64 0,.int .i64 0]):=by
 have hW:=FT p hp hpass hw
 obtain⟨ln,hck⟩:=hpass
 have htl:=p.threads_len
 refine aj.fz (tM _ _ _ ?_)
 unfold jX aL.enc
 generalize hQ:(fun(v:AV) (L:SH)=>∃v2 L2,aN [v] L [v2] L2∧v2=AV.tup [.agg (yF.enc ⟨bG p,tcs⟩),.int .i64 0,.int .i64 0]∧L2=[])=Q
 have hq:∀v L,Fz L v (.agg (yF.enc ⟨bG p,tcs⟩))→Q (.tup [v,.int .i64 0,.int .i64 0]) L:=fun v L h=>by
  subst hQ;exact⟨_,[],aN.all (.tups (.cons h (.cons (.refl _) (.cons (.refl _) .nil)))),rfl,rfl⟩
 clear hQ
 repeat' (first | refine st ?_ | ((with_reducible refine ao 17 ?_);refine af (hck) ?_) | ((with_reducible refine al 17 ?_);refine ab (hck) ?_) | ((with_reducible refine ao 18 ?_);refine af (hW) ?_) | ((with_reducible refine al 18 ?_);refine ab (hW) ?_) | refine sb (fun nb_ hnb_=>?_) | refine s2 (fun h=>?_) (fun h=>?_) | fail)
 rename_i b0 hb0 b2 hb2
 have h0:=hC.zero
 refine cv (β:=Option Nat) p.threads.length (fun i oT=>([.pptr [[.lst (p.decls.map au.enc),.lst (p.threads.map ai.enc)]] 0 0,.ptr b2 0 0,.ptr nb_ 0 0,.int .i64 (nx i),.int .i64 i],HV b2 nb_ (bG p) oT (tcs.take i))) (fun i oT=>oT=none→tcs.take i=[]) none (fun _=>rfl) ?_ ?_
 ·dsimp only
  rw[h0]
  refine aN.row (K:=[]) (b:=nb_) (n:=7) (rows:=[bJ [.nils,.nils,.nils,.nils,.nils,.nils,.nils] 0 (bG p).enc]) (rows':=[[.lst ((bG p).cells.map fw.enc),.lst ((bG p).locks.map eG.enc),.lst ((bG p).conds.map mO.enc),.lst ((bG p).futures.map aA),.lst ((bG p).threads.map aA),.lst ((bG p).sites.map fx.enc),.emp]]) (.refl _) rfl ?_
  refine ct ?_
  show nI [] [.lst ((bG p).cells.map fw.enc),.lst ((bG p).locks.map eG.enc),.lst ((bG p).conds.map mO.enc),.lst ((bG p).futures.map aA),.lst ((bG p).threads.map aA),.lst ((bG p).sites.map fx.enc),.nils] _
  exact .cons (.refl _) (.cons (.refl _) (.cons (.refl _) (.cons (.refl _) (.cons (.refl _) (.cons (.refl _) (.cons .nile .nil))))))
 intro i oT hi hG
 dsimp only
 unfold je
 generalize hnx:(fun(vs':List AV) (L':SH)=>∃j o',i<j∧j≤p.threads.length∧_)=nxt
 rcases Nat.lt_or_ge i p.threads.length with g1 | g1
 ·have hd:=bW g1
  have hi1:=bc g1 (by omega)
  have hit:i<tcs.length:=by rw[hC.len];exact g1
  have hK:=jg ((FS (hs i g1)).2 (hC.code i g1) (aa.shorts_wt _ (by have:=p.thread_wt g1;unfold ai.wt at this;omega))) (by have:=aa.wts_len p.threads[i].body;have:=p.thread_wt g1;unfold ai.wt at this;omega)
  have hr:=Js (n23:=nxt) (b2:=b2) (b19:=nb_) (dl:=p.decls.map au.enc) (oT:=oT) (ts:=tcs.take i) g1 hi1 hG (by rw[List.length_take];omega) hK (hC.short i) (hC.few (i+1)) (hC.regs i g1) (fun nb L' hz=>by
   subst hnx
   refine⟨i+1,some nb,by omega,by omega,nofun,?_⟩
   rw[List.take_succ_eq_append_getElem hit,hC.tc i g1]
   exact hz)
  clear hnx
  generalize hL:HV b2 nb_ (bG p) oT (tcs.take i)=LW at *
  repeat' (first | exact hr | refine st ?_ | refine sb (fun nb_ hnb_=>?_) | refine s2 (fun h=>?_) (fun h=>?_) | fail)
 ·have hd:=cX g1
  have e:i=p.threads.length:=by omega
  subst e
  rw[←hC.len,List.take_length]at hG ⊢
  rw[hC.len]
  unfold HV KX
  repeat' (first | refine st ?_ | refine sb (fun nb_ hnb_=>?_) | refine s2 (fun h=>?_) (fun h=>?_) | fail)
  refine hJ (.there _ (.here _)) rfl rfl (by simp[tO];exact⟨rfl,rfl,rfl,rfl,rfl,rfl⟩) rfl ?_
  repeat' (first | refine st ?_ | refine sb (fun nb_ hnb_=>?_) | refine s2 (fun h=>?_) (fun h=>?_) | fail)
  exact hq _ _ (Fz.aggs (.cons (.refl _) (.cons (.refl _) (.cons (.refl _) (.cons (.refl _) (.cons (.refl _) (.cons (.refl _) (.cons (xK hG (by decide) fun q h=>.tail _ (.tail _ h)) .nil))))))))
end Go.Proofs.YtljkdffikfkcgaaGreat.Am
end
section
namespace Go.Proofs.YtljkdffikfkcgaaGreat.Am
set_option linter.unusedVariables false
def av.sil(i:av):Prop:=1≤i.op∧i.op≤5
inductive yG (ins:List av):Nat→Nat→Prop where
 | ev (k:Nat) (i:av):ins[k]? =some i→¬i.sil→yG ins k 0
 | go (k m:Nat) (i:av):ins[k]? =some i→i.sil→i.op≠5→yG ins (k+1) m→yG ins k (m+1)
 | jump (k m j:Nat) (i:av):ins[k]? =some i→i.op=5→i.a=(j:Nat)→yG ins j m→yG ins k (m+1)
def mQ(ins:List av)(k:Nat):Prop:=∃m,yG ins k m
def et(ins c:List av)(b:Nat):Prop:=∀(k:Nat) (i:av),c[k]? =some i→ins[b+k]? =some i
theorem et.left{ins c1 c2:List av}{b:Nat}(h:et ins (c1++c2) b):et ins c1 b:=fun k i hk=>h k i (by rw[List.getElem?_append_left];exact hk;exact(List.getElem?_eq_some_iff.1 hk).1)
theorem et.right{ins c1 c2:List av}{b:Nat}(h:et ins (c1++c2) b):et ins c2 (b+c1.length):=fun k i hk=>by
 have:=h (c1.length+k) i (by rw[List.getElem?_append_right (by omega)];simpa using hk)
 rw[←this];congr 1;omega
theorem et.one{ins:List av}{i:av}{b:Nat}(h:et ins [i] b):ins[b]? =some i:=h 0 i rfl
theorem FV{ins c:List av}{b:Nat}(hl:et ins c b)(hc:∀i∈c,i.op≠5)(he:mQ ins (b+c.length)):∀d k,k+d=c.length→mQ ins (b+k):=by
 intro d
 induction d with
 | zero=>intro k h;rw[show k=c.length by omega];exact he
 | succ d ih=>
  intro k h
  have hk:k<c.length:=by omega
  have hi:=hl k c[k] (List.getElem?_eq_getElem hk)
  obtain⟨m,hm⟩:=ih (k+1) (by omega)
  by_cases hs:c[k].sil
  ·exact⟨m+1,.go _ _ _ hi hs (hc _ (List.getElem_mem hk)) hm⟩
  ·exact⟨0,.ev _ _ hi hs⟩
def kf(ins:List av)(b n:Nat):Prop:=∀k,b≤k→k≤b+n→mQ ins k
theorem jh{ins c:List av}{b:Nat}(hl:et ins c b)(hc:∀i∈c,i.op≠5)(he:mQ ins (b+c.length)):kf ins b c.length:=fun k h1 h2=>by
 have:=FV hl hc he (b+c.length-k) (k-b) (by omega)
 rwa [show b+(k-b)=k by omega]at this
theorem kf.app{ins:List av}{b n m:Nat}(h1:kf ins b n)(h2:kf ins (b+n) m):kf ins b (n+m):=fun k h3 h4=>by
 by_cases h:k≤b+n
 ·exact h1 k h3 h
 ·exact h2 k (by omega) (by omega)
theorem kf.one{ins:List av}{b:Nat}(h1:mQ ins b)(h2:mQ ins (b+1)):kf ins b 1:=fun k h3 h4=>by
 have:k=b∨k=b+1:=by omega
 rcases this with rfl | rfl
 ·exact h1
 ·exact h2
theorem lD{ins:List av}{b:Nat}{i:av}(h:ins[b]? =some i)(hs:5<i.op):mQ ins b:=⟨0,.ev _ _ h (fun g=>by have:=g.2;omega)⟩
section
variable {w:bu} {loc:List aM}
theorem dK.ops{e:ae}{d:Int}{c:List av}(h:dK w loc e d c):∀i∈c,i.op≠5:=by
 induction h with
 | num=>simp
 | loc=>simp
 | load=>simp
 | index n s a d c1 b hb hv hc ih=>intro i hi;rcases List.mem_append.1 hi with h | h;exact ih i h;simp at h;subst h;simp
 | un op n s a d c1 h1 h2 h3 hv ih=>intro i hi;rcases List.mem_append.1 hi with h | h;exact ih i h;simp at h;subst h;simp
 | bin op n s a b d c1 c2 h1 h2 h3 h4 hv hv2 ih ih2=>
  intro i hi
  rcases List.mem_append.1 hi with h | h
  ·rcases List.mem_append.1 h with h | h
   ·exact ih i h
   ·exact ih2 i h
  ·simp at h;subst h;simp
theorem Aa.ops{x:aa}{c:List av}(h:Aa w loc x c):∀i∈c,i.op≠5:=by
 cases h with
 | idx op line s arg i e rest body els c1 c2 b hb h1 h2 h3=>
  intro i hi
  rcases List.mem_append.1 hi with h | h
  ·rcases List.mem_append.1 h with h | h
   ·exact h1.ops i h
   ·exact h2.ops i h
  ·simp at h;subst h;simp
 | loc op line s arg e body els c h1 h2=>intro i hi;rcases List.mem_append.1 hi with h | h;exact h1.ops i h;simp at h;subst h;simp
 | store op line s arg e body els c h1 h2=>intro i hi;rcases List.mem_append.1 hi with h | h;exact h1.ops i h;simp at h;subst h;simp
theorem ga{c:List av}{n:Nat}(h:∀i∈c,i.op≠5):∀i∈aB c n,i.op≠5:=fun i hi=>by
 obtain⟨j,hj,rfl⟩:=List.mem_map.1 hi
 exact h j hj
theorem aG(c:List av)(n:Nat):(aB c n).length=c.length:=by simp[aB]
theorem c6(c d:List av)(n:Nat):aB (c++d) n=aB c n++aB d n:=by simp[aB]
theorem FW{op:Int}{s:aM}{f l ob:Int}(h:BB w op s=some (f,l,ob)):5<f∧5<l:=by
 unfold BB at h
 repeat' split at h
 all_goals first | (cases h;omega) | cases h
theorem G2{op:Int}{s arg:aM}{i:av}(h:FE w loc op s arg=some i):5<i.op:=by
 unfold FE at h
 repeat' split at h
 all_goals first | (cases h;simp;done) | cases h
theorem Jt:(∀{x n b c n2},Cm w loc x n b c n2→∀{ins:List av},et ins c b→mQ ins (b+c.length)→kf ins b c.length)∧∀{l n b c n2},StsC w loc l n b c n2→∀{ins:List av},et ins c b→mQ ins (b+c.length)→kf ins b c.length:=by
 refine Ac (M1:=fun x n b c n2=>∀{ins:List av},et ins c b→mQ ins (b+c.length)→kf ins b c.length) (M2:=fun x n b c n2=>∀{ins:List av},et ins c b→mQ ins (b+c.length)→kf ins b c.length) ?_ ?_ ?_ ?_ ?_ ?_ ?_ ?_ ?_
 ·intro line s arg ix e body els c n b ha ins hl he
  exact jh hl (ga ha.ops) he
 ·intro line s arg ix e body ce cb n b n2 hv hs ih ins hl he
  rw[c6]at hl he ⊢
  have hbr:=hl.left.right.one
  have hl2:=hl.right
  have l1:=lD hbr (by show(5:Int)<10;decide)
  have a1:=jh hl.left.left (ga hv.ops) l1
  simp only[List.length_append,aG,List.length_cons,List.length_nil,Nat.zero_add]at *
  rw[show b+(ce.length+1)=b+ce.length+1 by omega]at hl2
  rw[show b+(ce.length+1+cb.length)=b+ce.length+1+cb.length by omega]at he
  have h2:=ih hl2 he
  have:=(a1.app (kf.one l1 (h2 _ (Nat.le_refl _) (by omega)))).app (m:=cb.length) (by rwa [show b+(ce.length+1)=b+ce.length+1 by omega])
  simpa using this
 ·intro line s arg ix e body y els ce cb cl n b n2 n3 hv hs hs2 ih ih2 ins hl he
  rw[c6]at hl he ⊢
  have hbr:=hl.left.left.left.right.one
  have hj:=hl.left.right.one
  have l1:=lD hbr (by show(5:Int)<10;decide)
  have a1:=jh hl.left.left.left.left (ga hv.ops) l1
  have hl2:=hl.left.left.right
  have hl3:=hl.right
  simp only[List.length_append,aG,List.length_cons,List.length_nil,Nat.zero_add]at *
  rw[show b+(ce.length+1)=b+ce.length+1 by omega]at hl2
  rw[show b+(ce.length+1+cb.length+1)=b+ce.length+1+cb.length+1 by omega]at hl3
  rw[show b+(ce.length+1+cb.length)=b+ce.length+1+cb.length by omega]at hj
  rw[show b+(ce.length+1+cb.length+1+cl.length)=b+ce.length+1+cb.length+1+cl.length by omega]at he
  have g3:=ih2 hl3 he
  obtain⟨m,hm⟩:=he
  have lj:mQ ins (b+ce.length+1+cb.length):=⟨m+1,.jump _ _ (b+ce.length+1+cb.length+1+cl.length) _ hj rfl rfl hm⟩
  have g2:=ih hl2 lj
  have t1:=a1.app (kf.one l1 (g2 _ (Nat.le_refl _) (by omega)))
  have t2:=t1.app (m:=cb.length) (by rwa [show b+(ce.length+1)=b+ce.length+1 by omega])
  have t3:=t2.app (m:=1) (by rw[show b+(ce.length+1+cb.length)=b+ce.length+1+cb.length by omega];exact kf.one lj (g3 _ (Nat.le_refl _) (by omega)))
  exact t3.app (m:=cl.length) (by rwa [show b+(ce.length+1+cb.length+1)=b+ce.length+1+cb.length+1 by omega])
 ·intro line s arg ix e body els ce cb n b n2 hv hs ih ins hl he
  rw[c6]at hl he ⊢
  have hbr:=hl.left.left.right.one
  have hj:=hl.right.one
  have l1:=lD hbr (by show(5:Int)<10;decide)
  have a1:=jh hl.left.left.left (ga hv.ops) l1
  have hl2:=hl.left.right
  simp only[List.length_append,aG,List.length_cons,List.length_nil,Nat.zero_add]at *
  rw[show b+(ce.length+1)=b+ce.length+1 by omega]at hl2
  rw[show b+(ce.length+1+cb.length)=b+ce.length+1+cb.length by omega]at hj
  obtain⟨m,hm⟩:=a1 b (Nat.le_refl _) (by omega)
  have lj:mQ ins (b+ce.length+1+cb.length):=⟨m+1,.jump _ _ b _ hj rfl rfl hm⟩
  have g2:=ih hl2 lj
  have t1:=a1.app (kf.one l1 (g2 _ (Nat.le_refl _) (by omega)))
  have t2:=t1.app (m:=cb.length) (by rwa [show b+(ce.length+1)=b+ce.length+1 by omega])
  exact t2.app (m:=1) (by rw[show b+(ce.length+1+cb.length)=b+ce.length+1+cb.length by omega];exact kf.one lj (by rwa [show b+(ce.length+1+cb.length+1)=b+ce.length+1+cb.length+1 by omega]at he))
 ·intro op line s arg ix e body els f l ob cb n b n2 ha hs ih ins hl he
  have ho:=FW ha
  have hf:=hl.left.left.one
  have hj:=hl.right.one
  have hl2:=hl.left.right
  simp only[List.length_append,aG,List.length_cons,List.length_nil,Nat.zero_add]at *
  rw[show b+(1+cb.length)=b+1+cb.length by omega]at hj
  have lj:mQ ins (b+1+cb.length):=lD hj ho.2
  have g2:=ih hl2 lj
  have t1:=(kf.one (lD hf ho.1) (g2 _ (Nat.le_refl _) (by omega))).app g2
  exact t1.app (m:=1) (by rw[show b+(1+cb.length)=b+1+cb.length by omega];exact kf.one lj (by rwa [show b+(1+cb.length+1)=b+1+cb.length+1 by omega]at he))
 ·intro op line s arg ix e body els i n b ho ins hl he
  exact jh hl (ga (by simp;have:=G2 ho;omega)) he
 ·intro line s arg ix e body els ce n b hv ins hl he
  exact jh hl (ga (fun i hi=>by rcases List.mem_append.1 hi with h | h;exact hv.ops i h;simp at h;subst h;simp)) he
 ·intro n b ins hl he k h1 h2
  have:k=b:=by simp at h2;omega
  subst this;exact he
 ·intro x l c1 c2 n b n1 n2 h1 h2 ih1 ih2 ins hl he
  rw[List.length_append]at he ⊢
  have g2:=ih2 hl.right (by rwa [←Nat.add_assoc]at he)
  have g1:=ih1 hl.left (g2 _ (Nat.le_refl _) (by omega))
  exact g1.app g2
end
theorem yG.uniq{ins:List av}{k m1:Nat}(h1:yG ins k m1):∀{m2:Nat},yG ins k m2→m1=m2:=by
 induction h1 with
 | ev k i hi hs=>
  intro m2 h2
  cases h2 with
  | ev=>rfl
  | go _ _ i' hi' hs'=>rw[hi]at hi';cases hi';exact absurd hs' hs
  | jump _ _ j i' hi' hs'=>rw[hi]at hi';cases hi';exact absurd ⟨by omega,by omega⟩ hs
 | go k m i hi hs h5 hm ih=>
  intro m2 h2
  cases h2 with
  | ev _ i' hi' hs'=>rw[hi]at hi';cases hi';exact absurd hs hs'
  | go _ _ i' hi' hs' _ hm'=>rw[ih hm']
  | jump _ _ j i' hi' hs'=>rw[hi]at hi';cases hi';exact absurd hs' h5
 | jump k m j i hi hs ha hm ih=>
  intro m2 h2
  cases h2 with
  | ev _ i' hi' hs'=>rw[hi]at hi';cases hi';exact absurd ⟨by omega,by omega⟩ hs'
  | go _ _ i' hi' hs' h5 hm'=>rw[hi]at hi';cases hi';exact absurd hs h5
  | jump _ _ j' i' hi' hs' ha' hm'=>
   rw[hi]at hi';cases hi'
   have:j=j':=by omega
   subst this
   rw[ih hm']
theorem yG.lt{ins:List av}{k m:Nat}(h:yG ins k m):k<ins.length:=by
 cases h with
 | ev _ i hi _=>exact(List.getElem?_eq_some_iff.1 hi).1
 | go _ _ i hi=>exact(List.getElem?_eq_some_iff.1 hi).1
 | jump _ _ j i hi=>exact(List.getElem?_eq_some_iff.1 hi).1
theorem yG.path{ins:List av}{k m:Nat}(h:yG ins k m):∃l:List Nat,l.length=m+1∧(∀j∈l,j<ins.length∧∃q,q≤m∧yG ins j q)∧l.Nodup:=by
 induction h with
 | ev k i hi hs=>exact⟨[k],rfl,by simp only[List.mem_singleton,forall_eq];exact⟨(yG.ev k i hi hs).lt,0,Nat.le_refl _,.ev k i hi hs⟩,by simp⟩
 | go k m i hi hs h5 hm ih=>
  obtain⟨l,h1,h2,h3⟩:=ih
  have hk:=yG.go k m i hi hs h5 hm
  refine⟨k::l,by simp[h1],fun j hj=>?_,List.nodup_cons.2 ⟨fun hkl=>?_,h3⟩⟩
  ·rcases List.mem_cons.1 hj with rfl | hj
   ·exact⟨hk.lt,_,Nat.le_refl _,hk⟩
   ·obtain⟨g1,q,g2,g3⟩:=h2 j hj
    exact⟨g1,q,by omega,g3⟩
  ·obtain⟨g1,q,g2,g3⟩:=h2 k hkl
   have:=hk.uniq g3
   omega
 | jump k m j i hi hs ha hm ih=>
  obtain⟨l,h1,h2,h3⟩:=ih
  have hk:=yG.jump k m j i hi hs ha hm
  refine⟨k::l,by simp[h1],fun j hj=>?_,List.nodup_cons.2 ⟨fun hkl=>?_,h3⟩⟩
  ·rcases List.mem_cons.1 hj with rfl | hj
   ·exact⟨hk.lt,_,Nat.le_refl _,hk⟩
   ·obtain⟨g1,q,g2,g3⟩:=h2 j hj
    exact⟨g1,q,by omega,g3⟩
  ·obtain⟨g1,q,g2,g3⟩:=h2 k hkl
   have:=hk.uniq g3
   omega
theorem zg{α:Type}[BEq α][LawfulBEq α]:∀{l U:List α},l.Nodup→(∀x∈l,x∈U)→l.length≤U.length
 | [],U,_,_=>by simp
 | x::l,U,hn,hs=>by
  have hx:x∈U:=hs x (by simp)
  have h1:=List.nodup_cons.1 hn
  have:=zg (l:=l) (U:=U.erase x) h1.2 fun y hy=>(List.mem_erase_of_ne (by rintro rfl;exact h1.1 hy)).2 (hs y (by simp[hy]))
  rw[List.length_erase_of_mem hx]at this
  have:=List.length_pos_of_mem hx
  simp only[List.length_cons]
  omega
theorem FX:∀{n:Nat} {l:List Nat},l.Nodup→(∀j∈l,j<n)→l.length≤n:=by
 intro n l hn h
 have:=zg hn (U:=List.range n) fun j hj=>List.mem_range.2 (h j hj)
 simpa using this
theorem yG.bound{ins:List av}{k m:Nat}(h:yG ins k m):m<ins.length:=by
 obtain⟨l,h1,h2,h3⟩:=h.path
 have:=FX h3 (fun j hj=>(h2 j hj).1)
 omega
end Go.Proofs.YtljkdffikfkcgaaGreat.Am
end
section
namespace Go.Proofs.YtljkdffikfkcgaaGreat.Am
set_option linter.unusedVariables false
set_option maxRecDepth 100000
set_option linter.unusedSectionVars false
def qf:List fw:=[⟨[120],0,0,false,0⟩,⟨[121],0,0,false,1⟩,⟨[118],0,0,true,0⟩,⟨[113],0,2,false,0⟩,⟨[113],1,2,false,0⟩]
def xL:List eG:=[⟨[109],false⟩,⟨[110],false⟩,⟨[114],true⟩]
def Cq:List mO:=[⟨[99],0⟩]
def FY:List aM:=[[102]]
theorem KH(ts:List ai):∀(w:bu),(ts.foldl cH w).cells=w.cells∧(ts.foldl cH w).locks=w.locks∧(ts.foldl cH w).conds=w.conds∧(ts.foldl cH w).futures=w.futures∧(ts.foldl cH w).threads=w.threads++ts.map ai.name:=by
 induction ts with
 | nil=>intro w;simp
 | cons t l ih=>intro w;obtain⟨a,b,c,d,e⟩:=ih (cH w t);rw[List.foldl_cons];exact⟨a,b,c,d,by rw[e];simp[cH]⟩
theorem Cr{p:aL}(hd:p.decls=aR):(bG p).cells=qf∧(bG p).locks=xL∧(bG p).conds=Cq∧(bG p).futures=FY∧(bG p).threads=p.threads.map ai.name:=by
 obtain⟨a,b,c,d,e⟩:=KH p.threads (p.decls.foldl ca bu.zero)
 unfold bG
 rw[a,b,c,d,e,hd]
 exact⟨rfl,rfl,rfl,rfl,rfl⟩
def BD(w:bu)(i:Int):Bool:=inB i w.cells.length&&decide ((w.cells.getD i.toNat default).size=0)
def G3(w:bu)(i n:Int):Bool:=inB i w.cells.length&&decide ((w.cells.getD i.toNat default).index=0)&&decide ((w.cells.getD i.toNat default).size≠0)&&decide ((w.cells.getD i.toNat default).size=n)
def G4(w:bu)(i:Int)(rw:Bool):Bool:=inB i w.locks.length&&((w.locks.getD i.toNat ⟨[],false⟩).rw==rw)
def Cs(w:bu)(i:av):Bool:=
 if i.op=6 then BD w i.b else if i.op=8 then BD w i.a else if i.op=7 then G3 w i.b i.n else if i.op=9 then G3 w i.a i.n else
 if i.op=11∨i.op=12 then G4 w i.a false else if i.op=13∨i.op=14∨i.op=15∨i.op=16 then G4 w i.a true else
 if i.op=21∨i.op=22∨i.op=23 then inB i.a w.conds.length else if i.op=24∨i.op=25 then inB i.a w.threads.length else
 if i.op=26 then inB i.a w.futures.length else if i.op=27 then inB i.b w.futures.length else
 if i.op=3 then decide (i.n=4∨i.n=5)else if i.op=4 then decide (6≤i.n∧i.n≤18)else true
structure Dc(w:bu)(i:av):Prop where
 op:1≤i.op∧i.op≤7∧i.op≠5
 regs:∀r∈aO i,0≤r∧r<16
 obj:Cs w i=true
theorem cF{k a b:Int}:dB k a b=0↔k≠0∧(k=a∨k=b):=by
 unfold dB
 repeat' split
 all_goals omega
theorem eu{p:aL}(hd:p.decls=aR)(loc:List aM)(s:aM):(0≤fP loc s∧aE p loc s=8)∨(fP loc s<0∧((∃d∈aR,d.name=s∧aE p loc s=ik d)∨(0≤cC p.threads s∧aE p loc s=7)∨aE p loc s=0)):=by
 unfold aE
 by_cases h:0≤fP loc s
 ·left;exact⟨h,by simp[h]⟩
 ·right
  refine⟨by omega,?_⟩
  simp only[h,decide_false,cond_false,hd]
  cases hf:kS aR s with
  | some d=>
   left
   exact⟨d,List.mem_of_find?_eq_some hf,by have:=List.find?_some hf;simpa using this,rfl⟩
  | none=>
   right
   unfold Bo
   by_cases ht:0≤cC p.threads s
   ·left;exact⟨ht,by simp[ht]⟩
   ·right;simp[ht]
theorem ji{P:au→Prop}(h0:P ⟨1,0,[120],0,0,[]⟩)(h1:P ⟨1,0,[121],0,1,[]⟩)(h2:P ⟨2,0,[118],0,0,[]⟩)(h3:P ⟨1,0,[113],2,0,[]⟩)(h4:P ⟨3,0,[109],0,0,[]⟩)(h5:P ⟨3,0,[110],0,0,[]⟩)(h6:P ⟨4,0,[114],0,0,[]⟩)(h7:P ⟨5,0,[99],0,0,[109]⟩)(h8:P ⟨6,0,[102],0,0,[]⟩):∀d∈aR,P d:=by
 unfold aR
 simp only[List.forall_mem_cons,List.not_mem_nil,false_implies,implies_true,and_true]
 exact⟨h0,h1,h2,h3,h4,h5,h6,h7,h8⟩
section
variable {p:aL} (hd:p.decls=aR) {loc:List aM}
include hd
theorem zh{s:aM}(h:aE p loc s=1):fP loc s<0∧BD (bG p) (cW (bG p).cells s)=true:=by
 obtain⟨hc,_⟩:=Cr hd
 rcases eu hd loc s with⟨_,h1⟩ | ⟨h0,⟨d,hm,rfl,h1⟩ | ⟨_,h1⟩ | h1⟩
 ·omega
 ·refine⟨h0,?_⟩
  rw[h]at h1
  have hs:BD (bG p) (cW qf d.name)=true:=by
   unfold BD;rw[hc]
   clear h0 h hd
   revert h1
   exact ji (P:=fun d=>1=ik d→(inB (cW qf d.name) qf.length&&decide ((qf.getD (cW qf d.name).toNat default).size=0))=true) (by decide) (by decide) (by decide) (by decide) (by decide) (by decide) (by decide) (by decide) (by decide) d hm
  rw[hc];exact hs
 ·omega
 ·omega
theorem BE{s:aM}(h:aE p loc s=2):∃(b:Nat) (hb:b<(bG p).cells.length),cW (bG p).cells s=b∧G3 (bG p) b (bG p).cells[b].size=true:=by
 obtain⟨hc,_⟩:=Cr hd
 rcases eu hd loc s with⟨_,h1⟩ | ⟨h0,⟨d,hm,rfl,h1⟩ | ⟨_,h1⟩ | h1⟩
 ·omega
 ·rw[h]at h1
  have hn:d.name=[113]:=by
   clear h0 h hd
   revert h1
   exact ji (P:=fun d=>2=ik d→d.name=[113]) (by decide) (by decide) (by decide) (by decide) (by decide) (by decide) (by decide) (by decide) (by decide) d hm
  have key:∀l:List fw,l=qf→∀w:bu,w.cells=l→∃(b:Nat) (hb:b<w.cells.length),cW w.cells [113]=b∧G3 w b w.cells[b].size=true:=by
   intro l hl w hw
   obtain⟨c,lk,cd,f,t,si⟩:=w
   dsimp only at hw ⊢
   subst hw;subst hl
   exact⟨3,by decide,by decide,rfl⟩
  rw[hn]
  exact key _ hc _ rfl
 ·omega
 ·omega
theorem tQ{s:aM}{k:Int}(hk:k=3∨k=4)(h:aE p loc s=k):G4 (bG p) (bA (bG p).locks s) (decide (k=4))=true:=by
 obtain⟨_,hc,_⟩:=Cr hd
 rcases eu hd loc s with⟨_,h1⟩ | ⟨h0,⟨d,hm,rfl,h1⟩ | ⟨_,h1⟩ | h1⟩
 ·omega
 ·unfold G4;rw[hc]
  rw[h]at h1
  clear h0 h hd
  revert hk;rw[h1]
  exact ji (P:=fun d=>ik d=3∨ik d=4→(inB (bA xL d.name) xL.length&&((xL.getD (bA xL d.name).toNat ⟨[],false⟩).rw==decide (ik d=4)))=true) (by decide) (by decide) (by decide) (by decide) (by decide) (by decide) (by decide) (by decide) (by decide) d hm
 ·omega
 ·omega
theorem tR{s:aM}(h:aE p loc s=5):inB (dq (bG p).conds s) (bG p).conds.length=true:=by
 obtain⟨_,_,hc,_⟩:=Cr hd
 rcases eu hd loc s with⟨_,h1⟩ | ⟨h0,⟨d,hm,rfl,h1⟩ | ⟨_,h1⟩ | h1⟩
 ·omega
 ·rw[hc]
  rw[h]at h1
  clear h0 h hd
  revert h1
  exact ji (P:=fun d=>5=ik d→inB (dq Cq d.name) Cq.length=true) (by decide) (by decide) (by decide) (by decide) (by decide) (by decide) (by decide) (by decide) (by decide) d hm
 ·omega
 ·omega
theorem BF{s:aM}(h:aE p loc s=6):inB (fP (bG p).futures s) (bG p).futures.length=true:=by
 obtain⟨_,_,_,hc,_⟩:=Cr hd
 rcases eu hd loc s with⟨_,h1⟩ | ⟨h0,⟨d,hm,rfl,h1⟩ | ⟨_,h1⟩ | h1⟩
 ·omega
 ·rw[hc]
  rw[h]at h1
  clear h0 h hd
  revert h1
  exact ji (P:=fun d=>6=ik d→inB (fP FY d.name) FY.length=true) (by decide) (by decide) (by decide) (by decide) (by decide) (by decide) (by decide) (by decide) (by decide) d hm
 ·omega
 ·omega
theorem zi{d:au}(hm:d∈aR):ik d≠7∧ik d≠8:=ji (P:=fun d=>ik d≠7∧ik d≠8) (by decide) (by decide) (by decide) (by decide) (by decide) (by decide) (by decide) (by decide) (by decide) d hm
theorem xM(s:aM):∀(l:List ai) (i:Nat),gm (fun x=>decide (x=s)) (l.map ai.name) i=gm (fun x:ai=>decide (x.name=s)) l i
 | [],_=>rfl
 | x::l,i=>by simp only[List.map_cons,gm,xM s l (i+1)]
theorem BG{α:Type}{q:α→Bool}{l:List α}(h:0≤gm q l 0):inB (gm q l 0) l.length=true:=by
 rcases ep (p:=q) l 0 with⟨h1,_⟩ | ⟨k,hk,h1,_⟩
 ·omega
 ·rw[h1];exact hM.2 ⟨by omega,by omega⟩
theorem BH{s:aM}(h:aE p loc s=7):inB (fP (bG p).threads s) (bG p).threads.length=true:=by
 obtain⟨_,_,_,_,hc⟩:=Cr hd
 rcases eu hd loc s with⟨_,h1⟩ | ⟨h0,⟨d,hm,rfl,h1⟩ | ⟨h2,h1⟩ | h1⟩
 ·omega
 ·have:=(zi hd hm).1;omega
 ·have e:fP (bG p).threads s=cC p.threads s:=by rw[hc];exact xM hd s _ 0
  unfold fP at e ⊢
  exact BG hd (by rw[e];exact h2)
 ·omega
theorem xN{s:aM}(h:aE p loc s=8):0≤fP loc s∧fP loc s<loc.length:=by
 rcases eu hd loc s with⟨h0,h1⟩ | ⟨h0,⟨d,hm,rfl,h1⟩ | ⟨h2,h1⟩ | h1⟩
 ·have:=hM.1 (BG hd (q:=fun x=>decide (x=s)) (l:=loc) h0)
  exact this
 ·have:=(zi hd hm).2;omega
 ·omega
 ·omega
theorem Ad(hl:loc.length≤4):∀(x:ae) (d:Int),xQ x=true→dW p loc x=0→0≤d→d+x.dp≤15→∃c,dK (bG p) loc x d c∧c.length≤x.nd∧∀i∈c,Dc (bG p) i
 | .mk op n name l,d,h1,h2,h3,h4=>by
  rw[xQ]at h1
  rw[Bool.and_eq_true]at h1
  obtain⟨hsh,hls⟩:=h1
  unfold Fd at hsh
  simp only[Bool.and_eq_true,decide_eq_true_eq]at hsh
  obtain⟨⟨⟨⟨hop,_⟩,_⟩,_⟩,_⟩:=hsh
  rw[dW]at h2
  have h5:kT p loc op name=0∧namesL p loc l=0:=by
   split at h2
   ·rename_i h;exact⟨h,h2⟩
   ·rename_i h;exact absurd h2 h
  obtain⟨hn0,hnl⟩:=h5
  unfold kT at hn0
  unfold GL at hop
  simp only[ae.dp,ae.nd]at h4 ⊢
  by_cases o1:op=1
  ·subst o1
   exact⟨_,.num n name l d,by simp,by simp only[List.mem_singleton,forall_eq];exact⟨by simp,by simp[aO];omega,rfl⟩⟩
  by_cases o2:op=2
  ·subst o2
   rw[if_pos rfl]at hn0
   rcases(cF.1 hn0).2 with h | h
   ·obtain⟨a1,a2⟩:=xN hd h
    refine⟨_,.loc n name l d a1,by simp,?_⟩
    simp only[List.mem_singleton,forall_eq]
    exact⟨by simp,by simp[aO];omega,rfl⟩
   ·obtain⟨a1,a2⟩:=zh hd h
    refine⟨_,.load n name l d a1,by simp,?_⟩
    simp only[List.mem_singleton,forall_eq]
    exact⟨by simp,by simp[aO];omega,a2⟩
  rw[if_neg (by omega)]at hop
  match l,hls,hnl,hop,h4 with
  | [],_,_,hop,_=>
   exfalso
   simp only[List.length_nil]at hop
   split at hop
   ·omega
   ·split at hop<;>omega
  | [a],hls,hnl,hop,h4=>
   have ho:3≤op∧op≤5:=by
    split at hop
    ·assumption
    ·exfalso;split at hop<;>simp at hop
   simp only[shEs,Bool.and_true]at hls
   simp only[namesL]at hnl
   have hna:dW p loc a=0:=by
    split at hnl
    ·assumption
    ·exact absurd hnl (by assumption)
   simp only[ae.dps,Nat.max_zero]at h4
   obtain⟨c,hc,hcl,hg⟩:=Ad hl a d hls hna h3 (by omega)
   by_cases o3:op=3
   ·subst o3
    rw[if_neg (by omega),if_pos rfl]at hn0
    have hk:aE p loc name=2:=by rcases(cF.1 hn0).2 with h | h<;>exact h
    obtain⟨b,hb,hcb,harr⟩:=BE hd hk
    refine⟨_,.index n name a d c b hb hc hcb,by simp[ae.nds];omega,fun i hi=>?_⟩
    rcases List.mem_append.1 hi with h | h
    ·exact hg i h
    ·rw[List.mem_singleton.1 h]
     exact⟨by simp,by simp[aO];omega,harr⟩
   ·refine⟨_,.un op n name a d c o1 o2 o3 hc,by simp[ae.nds];omega,fun i hi=>?_⟩
    rcases List.mem_append.1 hi with h | h
    ·exact hg i h
    ·rw[List.mem_singleton.1 h]
     exact⟨by simp,by simp[aO];omega,by simp[Cs];omega⟩
  | [a,b],hls,hnl,hop,h4=>
   have ho:6≤op∧op≤18:=by
    split at hop
    ·exfalso;simp at hop
    ·split at hop
     ·assumption
     ·exfalso;simp at hop
   simp only[shEs,Bool.and_true,Bool.and_eq_true]at hls
   simp only[namesL]at hnl
   have hna:dW p loc a=0:=by
    split at hnl
    ·assumption
    ·exact absurd hnl (by assumption)
   rw[if_pos hna]at hnl
   have hnb:dW p loc b=0:=by
    split at hnl
    ·assumption
    ·exact absurd hnl (by assumption)
   simp only[ae.dps,Nat.max_zero]at h4
   have hda:1≤a.dp:=by rw[a.dp_eq];omega
   obtain⟨c,hc,hcl,hg⟩:=Ad hl a d hls.1 hna h3 (by omega)
   obtain⟨c2,hc2,hcl2,hg2⟩:=Ad hl b (d+1) hls.2 hnb (by omega) (by omega)
   refine⟨_,.bin op n name a b d c c2 o1 o2 (by omega) (IntWalk.i64_in _ (by omega)) hc hc2,by simp[ae.nds];omega,fun i hi=>?_⟩
   rcases List.mem_append.1 hi with h | h
   ·rcases List.mem_append.1 h with h | h
    ·exact hg i h
    ·exact hg2 i h
   ·rw[List.mem_singleton.1 h]
    exact⟨by simp,by simp[aO];omega,by simp[Cs];omega⟩
  | a::b::e::r,_,_,hop,_=>
   exfalso
   simp only[List.length_cons]at hop
   split at hop
   ·omega
   ·split at hop<;>omega
end
end Go.Proofs.YtljkdffikfkcgaaGreat.Am
end
section
namespace Go.Proofs.YtljkdffikfkcgaaGreat.Am
set_option linter.unusedVariables false
set_option maxRecDepth 100000
set_option linter.unusedSectionVars false
structure HW(w:bu)(n n2 lo hi:Nat)(i:av):Prop where
 op:1≤i.op∧i.op≤27
 regs:∀r∈aO i,0≤r∧r<16
 obj:Cs w i=true
 site:(n:Int)≤i.site∧i.site<n2
 jmp:i.op=5→(lo:Int)≤i.a∧i.a≤hi
 br:i.op=10→(lo:Int)≤i.b∧i.b≤hi
theorem HW.mono{w:bu}{n n2 lo hi m m2 lo2 hi2:Nat}{i:av}(h:HW w n n2 lo hi i)(h1:m≤n)(h2:n2≤m2)(h3:lo2≤lo)(h4:hi≤hi2):HW w m m2 lo2 hi2 i:=
 ⟨h.op,h.regs,h.obj,by have:=h.site;omega,fun e=>by have:=h.jmp e;omega,fun e=>by have:=h.br e;omega⟩
theorem Dc.at_{w:bu}{i:av}(h:Dc w i){n n2 lo hi s:Nat}(h1:n≤s)(h2:s<n2):HW w n n2 lo hi (i.at_ (s:Int)):=
 ⟨by have:=h.op;show 1≤i.op∧i.op≤27;omega,h.regs,h.obj,by show(n:Int)≤s∧(s:Int)<n2;omega,fun e=>absurd e h.op.2.2,fun e=>by have:=h.op;have e2:i.op=10:=e;omega⟩
theorem Dc.all{w:bu}{c:List av}(h:∀i∈c,Dc w i){n n2 lo hi s:Nat}(h1:n≤s)(h2:s<n2):∀i∈aB c s,HW w n n2 lo hi i:=fun i hi=>by
 obtain⟨j,hj,rfl⟩:=List.mem_map.1 hi
 exact(h j hj).at_ h1 h2
theorem bH{α:Type}{P:α→Prop}{a b:List α}(h1:∀i∈a,P i)(h2:∀i∈b,P i):∀i∈a++b,P i:=fun i hi=>by
 rcases List.mem_append.1 hi with h | h
 ·exact h1 i h
 ·exact h2 i h
theorem bI{α:Type}{P:α→Prop}{a:α}(h:P a):∀i∈[a],P i:=fun i hi=>by rw[List.mem_singleton.1 hi];exact h
section
variable {p:aL} (hd:p.decls=aR) {loc:List aM} (hl:loc.length≤4)
include hd hl
theorem lE{e:ae}(h:gB p loc e=0){d:Int}(h0:0≤d)(h9:d≤9):∃c,dK (bG p) loc e d c∧c.length≤e.wt∧∀i∈c,Dc (bG p) i:=by
 unfold gB at h
 cases hs:xQ e with
 | false=>rw[hs]at h;simp at h
 | true=>
  rw[hs]at h
  simp only[Bool.not_true,cond_false]at h
  by_cases hb:(decide (24<(e.nd:Int))||decide (6<(e.dp:Int)))=true
  ·rw[hb]at h;simp at h
  ·rw[Bool.not_eq_true]at hb
   rw[hb]at h
   simp only[cond_false]at h
   simp only[Bool.or_eq_false_iff,decide_eq_false_iff_not]at hb
   obtain⟨c,h1,h2,h3⟩:=Ad hd hl e d hs h h0 (by omega)
   exact⟨c,h1,Nat.le_trans h2 e.nd_wt,h3⟩
def Lo(p:aL)(loc:List aM)(x:aa):Prop:=∀n b:Nat,∃c,Cm (bG p) loc x n b c (n+1+x.cnt)∧c.length≤3*x.wt∧∀i∈c,HW (bG p) n (n+1+x.cnt) b (b+c.length) i
def Li(p:aL)(loc:List aM)(l:List aa):Prop:=∀n b:Nat,∃c,StsC (bG p) loc l n b c (n+aa.cnts l)∧c.length≤3*aa.wts l∧∀i∈c,HW (bG p) n (n+aa.cnts l) b (b+c.length) i
mutual
theorem KI:∀x:aa,gU x=true→yB p loc x→Lo p loc x
 | .mk op line s arg ix e body els,h1,h2=>by
  rw[gU]at h1
  simp only[Bool.and_eq_true]at h1
  obtain⟨⟨h3,h4⟩,h5⟩:=h1
  rw[yB]at h2
  obtain⟨h6,h7,h8⟩:=h2
  have hB:=sts_ex body h4 h7
  have hE:=sts_ex els h5 h8
  unfold GN at h3
  simp only[Bool.and_eq_true,Bool.not_eq_true']at h3
  obtain⟨g1,g2,g3,g4,g5,g6⟩:=h3
  unfold KT at g1;unfold GM at g6;unfold HL at g4
  simp only[Bool.or_eq_false_iff,decide_eq_false_iff_not]at g1
  rw[Bool.or_eq_false_iff]at g6
  have hbody:¬(2≤op∧op≤8)→body=[]:=fun h=>by
   have h0:=g6.1
   by_cases k1:2≤op<;>by_cases k2:op≤8<;>simp[k1,k2]at h0<;>first | exact h0 | exact absurd ⟨k1,k2⟩ h
  have hels:op≠2→els=[]:=fun h=>by have:=g6.2;simpa[h]using this
  unfold df at h6
  dsimp only[aa.op,aa.name,aa.arg,aa.index,aa.expr]at h6
  intro n b
  simp only[aa.wt,aa.cnt]
  have hop:op=1∨op=2∨op=3∨op=4∨op=5∨op=6∨op=7∨op=8∨op=9∨op=10∨op=11∨op=12∨op=13∨op=14∨op=15:=by omega
  rcases hop with rfl | rfl | rfl | rfl | rfl | rfl | rfl | rfl | rfl | rfl | rfl | rfl | rfl | rfl | rfl
  ·obtain rfl:=hbody (by omega)
   obtain rfl:=hels (by omega)
   simp only[if_true]at h6
   match ix,h6 with
   | [],h6=>
    obtain⟨hw,he⟩:=h6
    obtain⟨c,hc,hcl,hg⟩:=lE hd hl he (d:=loc.length) (by omega) (by omega)
    rcases(cF.1 hw).2 with h | h
    ·obtain⟨a1,a2⟩:=xN hd h
     refine⟨_,.asg line s arg [] e [] [] _ n b (.loc 1 line s arg e [] [] c hc a1),by simp[aG,ae.wts,aa.wts];omega,?_⟩
     rw[c6]
     refine bH (Dc.all hg (Nat.le_refl _) (by omega)) (bI ?_)
     exact⟨by show(1:Int)≤2∧(2:Int)≤27;omega,by simp[aO,av.at_];omega,rfl,by show(n:Int)≤n∧(n:Int)<_;omega,by simp[av.at_],by simp[av.at_]⟩
    ·obtain⟨a1,a2⟩:=zh hd h
     refine⟨_,.asg line s arg [] e [] [] _ n b (.store 1 line s arg e [] [] c hc a1),by simp[aG,ae.wts,aa.wts];omega,?_⟩
     rw[c6]
     refine bH (Dc.all hg (Nat.le_refl _) (by omega)) (bI ?_)
     exact⟨by show(1:Int)≤8∧(8:Int)≤27;omega,by simp[aO,av.at_];omega,a2,by show(n:Int)≤n∧(n:Int)<_;omega,by simp[av.at_],by simp[av.at_]⟩
   | i::rest,h6=>
    obtain⟨hw,hi,he⟩:=h6
    obtain⟨c1,hc1,hcl1,hg1⟩:=lE hd hl hi (d:=loc.length) (by omega) (by omega)
    obtain⟨c2,hc2,hcl2,hg2⟩:=lE hd hl he (d:=(loc.length:Int)+1) (by omega) (by omega)
    have hk:aE p loc s=2:=by rcases(cF.1 hw).2 with h | h<;>exact h
    obtain⟨bb,hb,hcb,harr⟩:=BE hd hk
    refine⟨_,.asg line s arg (i::rest) e [] [] _ n b (.idx 1 line s arg i e rest [] [] c1 c2 bb hb hc1 hc2 hcb),by simp[aG,ae.wts,aa.wts];omega,?_⟩
    rw[c6,c6]
    refine bH (bH (Dc.all hg1 (Nat.le_refl _) (by omega)) (Dc.all hg2 (Nat.le_refl _) (by omega))) (bI ?_)
    exact⟨by show(1:Int)≤9∧(9:Int)≤27;omega,by simp[aO,av.at_];omega,harr,by show(n:Int)≤n∧(n:Int)<_;omega,by simp[av.at_],by simp[av.at_]⟩
  ·have he:gB p loc e=0:=by simpa using h6
   obtain⟨ce,hc,hcl,hg⟩:=lE hd hl he (d:=loc.length) (by omega) (by omega)
   obtain⟨cb,hb1,hb2,hb3⟩:=hB (n+1) (b+ce.length+1)
   match els,hE with
   | [],_=>
    simp only[aa.cnts,aa.wts,Nat.add_zero]at *
    refine⟨_,.if1 line s arg ix e body ce cb n b _ hc hb1,by simp[aG];omega,?_⟩
    rw[c6]
    refine bH (bH (Dc.all hg (Nat.le_refl _) (by omega)) (bI ?_)) fun i hi=>(hb3 i hi).mono (by omega) (by omega) (by omega) (by simp[aG];omega)
    exact⟨by show(1:Int)≤10∧(10:Int)≤27;omega,by simp[aO,av.at_];omega,rfl,by show(n:Int)≤n∧(n:Int)<_;omega,by simp[av.at_],fun _=>by simp[av.at_,aG];omega⟩
   | y::els,hE=>
    obtain⟨cl,hl1,hl2,hl3⟩:=hE (n+1+aa.cnts body) (b+ce.length+1+cb.length+1)
    rw[show n+1+aa.cnts body+aa.cnts (y::els)=n+1+(aa.cnts body+aa.cnts (y::els)) by omega]at hl1 hl3
    refine⟨_,.if2 line s arg ix e body y els ce cb cl n b _ _ hc hb1 hl1,by simp[aG];omega,?_⟩
    rw[c6]
    refine bH (bH (bH (bH (Dc.all hg (Nat.le_refl _) (by omega)) (bI ?_)) fun i hi=>(hb3 i hi).mono (by omega) (by omega) (by omega) (by simp[aG];omega)) (bI ?_)) fun i hi=>(hl3 i hi).mono (by omega) (by omega) (by omega) (by simp[aG];omega)
    ·exact⟨by show(1:Int)≤10∧(10:Int)≤27;omega,by simp[aO,av.at_];omega,rfl,by show(n:Int)≤n∧(n:Int)<_;omega,by simp[av.at_],fun _=>by simp[av.at_,aG];omega⟩
    ·exact⟨by show(1:Int)≤5∧(5:Int)≤27;omega,by simp[aO,av.at_],rfl,by show(n:Int)≤n∧(n:Int)<_;omega,fun _=>by simp[av.at_,aG];omega,by simp[av.at_]⟩
  ·obtain rfl:=hels (by omega)
   have he:gB p loc e=0:=by simpa using h6
   obtain⟨ce,hc,hcl,hg⟩:=lE hd hl he (d:=loc.length) (by omega) (by omega)
   obtain⟨cb,hb1,hb2,hb3⟩:=hB (n+1) (b+ce.length+1)
   simp only[aa.cnts,aa.wts,Nat.add_zero]at *
   refine⟨_,.while line s arg ix e body [] ce cb n b _ hc hb1,by simp[aG];omega,?_⟩
   rw[c6]
   refine bH (bH (bH (Dc.all hg (Nat.le_refl _) (by omega)) (bI ?_)) fun i hi=>(hb3 i hi).mono (by omega) (by omega) (by omega) (by simp[aG];omega)) (bI ?_)
   ·exact⟨by show(1:Int)≤10∧(10:Int)≤27;omega,by simp[aO,av.at_];omega,rfl,by show(n:Int)≤n∧(n:Int)<_;omega,by simp[av.at_],fun _=>by simp[av.at_,aG];omega⟩
   ·exact⟨by show(1:Int)≤5∧(5:Int)≤27;omega,by simp[aO,av.at_],rfl,by show(n:Int)≤n∧(n:Int)<_;omega,fun _=>by simp[av.at_,aG];omega,by simp[av.at_]⟩
  ·obtain rfl:=hels (by omega)
   obtain⟨cb,hb1,hb2,hb3⟩:=hB (n+1) (b+1)
   simp only[aa.cnts,aa.wts,Nat.add_zero]at *
   have hk:aE p loc s=3:=by have h:=h6;simp at h;rcases(cF.1 h).2 with h | h<;>exact h
   have hob:=tQ hd (by omega) hk
   refine⟨_,.arnd 4 line s arg ix e body [] 11 12 (bA (bG p).locks s) cb n b _ rfl hb1,by simp[aG];omega,?_⟩
   refine bH (bH (bI ?_) fun i hi=>(hb3 i hi).mono (by omega) (by omega) (by omega) (by simp[aG];omega)) (bI ?_)
   ·exact⟨by show(1:Int)≤11∧(11:Int)≤27;omega,by simp[aO,av.at_],hob,by show(n:Int)≤n∧(n:Int)<_;omega,by simp[av.at_],by simp[av.at_]⟩
   ·exact⟨by show(1:Int)≤12∧(12:Int)≤27;omega,by simp[aO,av.at_],hob,by show(n:Int)≤n∧(n:Int)<_;omega,by simp[av.at_],by simp[av.at_]⟩
  ·obtain rfl:=hels (by omega)
   obtain⟨cb,hb1,hb2,hb3⟩:=hB (n+1) (b+1)
   simp only[aa.cnts,aa.wts,Nat.add_zero]at *
   have hk:aE p loc s=4:=by have h:=h6;simp at h;rcases(cF.1 h).2 with h | h<;>exact h
   have hob:=tQ hd (by omega) hk
   refine⟨_,.arnd 5 line s arg ix e body [] 13 14 (bA (bG p).locks s) cb n b _ rfl hb1,by simp[aG];omega,?_⟩
   refine bH (bH (bI ?_) fun i hi=>(hb3 i hi).mono (by omega) (by omega) (by omega) (by simp[aG];omega)) (bI ?_)
   ·exact⟨by show(1:Int)≤13∧(13:Int)≤27;omega,by simp[aO,av.at_],hob,by show(n:Int)≤n∧(n:Int)<_;omega,by simp[av.at_],by simp[av.at_]⟩
   ·exact⟨by show(1:Int)≤14∧(14:Int)≤27;omega,by simp[aO,av.at_],hob,by show(n:Int)≤n∧(n:Int)<_;omega,by simp[av.at_],by simp[av.at_]⟩
  ·obtain rfl:=hels (by omega)
   obtain⟨cb,hb1,hb2,hb3⟩:=hB (n+1) (b+1)
   simp only[aa.cnts,aa.wts,Nat.add_zero]at *
   have hk:aE p loc s=4:=by have h:=h6;simp at h;rcases(cF.1 h).2 with h | h<;>exact h
   have hob:=tQ hd (by omega) hk
   refine⟨_,.arnd 6 line s arg ix e body [] 15 16 (bA (bG p).locks s) cb n b _ rfl hb1,by simp[aG];omega,?_⟩
   refine bH (bH (bI ?_) fun i hi=>(hb3 i hi).mono (by omega) (by omega) (by omega) (by simp[aG];omega)) (bI ?_)
   ·exact⟨by show(1:Int)≤15∧(15:Int)≤27;omega,by simp[aO,av.at_],hob,by show(n:Int)≤n∧(n:Int)<_;omega,by simp[av.at_],by simp[av.at_]⟩
   ·exact⟨by show(1:Int)≤16∧(16:Int)≤27;omega,by simp[aO,av.at_],hob,by show(n:Int)≤n∧(n:Int)<_;omega,by simp[av.at_],by simp[av.at_]⟩
  ·obtain rfl:=hels (by omega)
   obtain⟨cb,hb1,hb2,hb3⟩:=hB (n+1) (b+1)
   simp only[aa.cnts,aa.wts,Nat.add_zero]at *
   refine⟨_,.arnd 7 line s arg ix e body [] 17 18 0 cb n b _ rfl hb1,by simp[aG];omega,?_⟩
   refine bH (bH (bI ?_) fun i hi=>(hb3 i hi).mono (by omega) (by omega) (by omega) (by simp[aG];omega)) (bI ?_)
   ·exact⟨by show(1:Int)≤17∧(17:Int)≤27;omega,by simp[aO,av.at_],rfl,by show(n:Int)≤n∧(n:Int)<_;omega,by simp[av.at_],by simp[av.at_]⟩
   ·exact⟨by show(1:Int)≤18∧(18:Int)≤27;omega,by simp[aO,av.at_],rfl,by show(n:Int)≤n∧(n:Int)<_;omega,by simp[av.at_],by simp[av.at_]⟩
  ·obtain rfl:=hels (by omega)
   obtain⟨cb,hb1,hb2,hb3⟩:=hB (n+1) (b+1)
   simp only[aa.cnts,aa.wts,Nat.add_zero]at *
   refine⟨_,.arnd 8 line s arg ix e body [] 19 20 0 cb n b _ rfl hb1,by simp[aG];omega,?_⟩
   refine bH (bH (bI ?_) fun i hi=>(hb3 i hi).mono (by omega) (by omega) (by omega) (by simp[aG];omega)) (bI ?_)
   ·exact⟨by show(1:Int)≤19∧(19:Int)≤27;omega,by simp[aO,av.at_],rfl,by show(n:Int)≤n∧(n:Int)<_;omega,by simp[av.at_],by simp[av.at_]⟩
   ·exact⟨by show(1:Int)≤20∧(20:Int)≤27;omega,by simp[aO,av.at_],rfl,by show(n:Int)≤n∧(n:Int)<_;omega,by simp[av.at_],by simp[av.at_]⟩
  ·obtain rfl:=hbody (by omega)
   obtain rfl:=hels (by omega)
   have hk:aE p loc s=5:=by have h:=h6;simp at h;rcases(cF.1 h).2 with h | h<;>exact h
   have hob:=tR hd hk
   refine⟨_,.one 9 line s arg ix e [] [] _ n b rfl,by simp[aG];omega,bI ?_⟩
   exact⟨by show(1:Int)≤21∧(21:Int)≤27;omega,by simp[aO,av.at_],hob,by show(n:Int)≤n∧(n:Int)<_;omega,by simp[av.at_],by simp[av.at_]⟩
  ·obtain rfl:=hbody (by omega)
   obtain rfl:=hels (by omega)
   have hk:aE p loc s=5:=by have h:=h6;simp at h;rcases(cF.1 h).2 with h | h<;>exact h
   have hob:=tR hd hk
   refine⟨_,.one 10 line s arg ix e [] [] _ n b rfl,by simp[aG];omega,bI ?_⟩
   exact⟨by show(1:Int)≤22∧(22:Int)≤27;omega,by simp[aO,av.at_],hob,by show(n:Int)≤n∧(n:Int)<_;omega,by simp[av.at_],by simp[av.at_]⟩
  ·obtain rfl:=hbody (by omega)
   obtain rfl:=hels (by omega)
   have hk:aE p loc s=5:=by have h:=h6;simp at h;rcases(cF.1 h).2 with h | h<;>exact h
   have hob:=tR hd hk
   refine⟨_,.one 11 line s arg ix e [] [] _ n b rfl,by simp[aG];omega,bI ?_⟩
   exact⟨by show(1:Int)≤23∧(23:Int)≤27;omega,by simp[aO,av.at_],hob,by show(n:Int)≤n∧(n:Int)<_;omega,by simp[av.at_],by simp[av.at_]⟩
  ·obtain rfl:=hbody (by omega)
   obtain rfl:=hels (by omega)
   have hk:aE p loc s=7:=by have h:=h6;simp at h;rcases(cF.1 h).2 with h | h<;>exact h
   have hob:=BH hd hk
   refine⟨_,.one 12 line s arg ix e [] [] _ n b rfl,by simp[aG];omega,bI ?_⟩
   exact⟨by show(1:Int)≤24∧(24:Int)≤27;omega,by simp[aO,av.at_],hob,by show(n:Int)≤n∧(n:Int)<_;omega,by simp[av.at_],by simp[av.at_]⟩
  ·obtain rfl:=hbody (by omega)
   obtain rfl:=hels (by omega)
   have hk:aE p loc s=7:=by have h:=h6;simp at h;rcases(cF.1 h).2 with h | h<;>exact h
   have hob:=BH hd hk
   refine⟨_,.one 13 line s arg ix e [] [] _ n b rfl,by simp[aG];omega,bI ?_⟩
   exact⟨by show(1:Int)≤25∧(25:Int)≤27;omega,by simp[aO,av.at_],hob,by show(n:Int)≤n∧(n:Int)<_;omega,by simp[av.at_],by simp[av.at_]⟩
  ·obtain rfl:=hbody (by omega)
   obtain rfl:=hels (by omega)
   have hh:dB (aE p loc s) 6 6=0∧gB p loc e=0:=by simpa using h6
   have hk:aE p loc s=6:=by rcases(cF.1 hh.1).2 with h | h<;>exact h
   have hob:=BF hd hk
   obtain⟨ce,hc,hcl,hg⟩:=lE hd hl hh.2 (d:=loc.length) (by omega) (by omega)
   refine⟨_,.set line s arg ix e [] [] ce n b hc,by simp[aG];omega,?_⟩
   rw[c6]
   refine bH (Dc.all hg (Nat.le_refl _) (by omega)) (bI ?_)
   exact⟨by show(1:Int)≤26∧(26:Int)≤27;omega,by simp[aO,av.at_];omega,hob,by show(n:Int)≤n∧(n:Int)<_;omega,by simp[av.at_],by simp[av.at_]⟩
  ·obtain rfl:=hbody (by omega)
   obtain rfl:=hels (by omega)
   have hh:dB (aE p loc s) 8 8=0∧dB (aE p loc arg) 6 6=0:=by simpa using h6
   have hk:aE p loc s=8:=by rcases(cF.1 hh.1).2 with h | h<;>exact h
   have hk2:aE p loc arg=6:=by rcases(cF.1 hh.2).2 with h | h<;>exact h
   have hlo:=xN hd hk
   have hob:=BF hd hk2
   refine⟨_,.one 15 line s arg ix e [] [] _ n b rfl,by simp[aG];omega,bI ?_⟩
   exact⟨by show(1:Int)≤27∧(27:Int)≤27;omega,by simp[aO,av.at_];omega,hob,by show(n:Int)≤n∧(n:Int)<_;omega,by simp[av.at_],by simp[av.at_]⟩
theorem sts_ex:∀l:List aa,shSs l=true→StsOk p loc l→Li p loc l
 | [],_,_=>fun n b=>⟨[],.nil n b,by simp,nofun⟩
 | x::l,h1,h2=>by
  rw[shSs,Bool.and_eq_true]at h1
  rw[StsOk]at h2
  have hx:=KI x h1.1 h2.1
  have hr:=sts_ex l h1.2 h2.2
  intro n b
  obtain⟨c1,a1,a2,a3⟩:=hx n b
  obtain⟨c2,b1,b2,b3⟩:=hr (n+1+x.cnt) (b+c1.length)
  simp only[aa.cnts,aa.wts]
  rw[show n+1+x.cnt+aa.cnts l=n+(1+x.cnt+aa.cnts l) by omega]at b1 b3
  refine⟨c1++c2,.cons x l c1 c2 n b _ _ a1 b1,by rw[List.length_append];omega,?_⟩
  rw[List.length_append]
  exact bH (fun i hi=>(a3 i hi).mono (by omega) (by omega) (by omega) (by omega)) fun i hi=>(b3 i hi).mono (by omega) (by omega) (by omega) (by omega)
end
end
end Go.Proofs.YtljkdffikfkcgaaGreat.Am
end
