/- A part of the proof; the statement is proved in the last part. -/
import Derived.Test.YtbofdbhnbodbiaaGreatDoorQvK
set_option linter.all false
set_option maxRecDepth 100000
set_option maxHeartbeats 20000000
namespace Go.Proofs.YtbofdbhnbodbiaaGreatDoor.Am
def ID:aq Tryz.prog 13 [] (.bool true):=.of_ok (fR (n:=2000) (d:=50) Rp (by kernel_rfl) (by kernel_rfl))
def Gi(c:aZ)(hins:∀t∈c.ts,t.ins.length<2^40)(l:List o9)(hl:l.length<=60)(s0:cm)(G0:IS c 0 s0)(Q:R)(hq:∀L,Q (.bool true) L)(O N:Nat):
  W.loop (ta Q) [.lst (l.map o9.enc),.pptr [c.enc] 0 0,.ptr O 0 0,.ptr N 0 0,.Uf (0:Nat)] [(N,⟨7,[s0.enc]⟩),(O,⟨7,[s0.enc]⟩)]:=by
 refine bD l.length (λk (s:cm)=>([.lst (l.map o9.enc),.pptr [c.enc] 0 0,.ptr O 0 0,.ptr N 0 0,.Uf k],[(N,⟨7,[s.enc]⟩),(O,⟨7,[s.enc]⟩)])) (λk s=>IS c k s) s0 G0 (.refl _ _) ?_;intro k s hk G;dsimp only;have haw:=ID;refine vw ?_;rcases Nat.lt_or_ge k l.length with g1|g1
 .have hd:=aW g1;have hx:=ao (f:=o9.enc) g1;generalize hch:l[k]=ch at *;obtain⟨ct,cw⟩:=ch;unfold o9.enc at hx;dsimp only at hx;obtain⟨e1,b1,s2,e2,b2,hp,hp9,Z,Y,hen,M,E,u,S⟩:=EU c hins s k Ua G ct cw;have fin:∀(o:cm) (L:SH),IS c (k+1) o->fV L [(N,(⟨7,[o.enc]⟩:Blk)),(O,⟨7,[o.enc]⟩)]->∃(j:Nat) (o':cm),k<j/\j<=l.length/\IS c j o'/\az [.lst (l.map o9.enc),.pptr [c.enc] 0 0,.ptr O 0 0,.ptr N 0 0,.Uf (IntKind.i64.wrap ((k:Int)+1))] L [.lst (l.map o9.enc),.pptr [c.enc] 0 0,.ptr O 0 0,.ptr N 0 0,.Uf j] [(N,(⟨7,[o'.enc]⟩:Blk)),(O,⟨7,[o'.enc]⟩)]:=λo L h hL=>⟨k+1,o,Ua,Ua,h,by rw[ax g1 Ua];exact az.pickE hL rfl rfl⟩
  have D:c.enc=[.lst (c.w.cells.map aH.enc),.lst (c.w.locks.map bC.enc),.lst (c.w.conds.map bR.enc),.lst (c.w.futures.map au),.lst (c.w.threads.map au),.lst (c.w.sites.map bU.enc),.lst (c.ts.map eb.enc)]:=rfl;have B:∀s:cm,s.enc=[.lst (s.sync.locks.map LockD.enc),.Uf s.sync.tx,.lst (s.sync.done.map aB),.lst (s.sync.threads.map ThrD.enc),.lst (s.cells.map ah),.lst (s.futures.map ah),.lst (s.threads.map aC.enc)]:=λ_=>rfl
  have hee:∀e:da,e.enc=[.Uf e.thread,.Uf e.kind,.Uf e.obj,.Uf e.value,.Uf e.site,.lst (e.deps.map ah),.lst (e.frm.map ah)]:=λ_=>rfl
  simp only[D,B,hee]at hp hp9 Z Y hen M E u fin ⊢;cases b1<;>cases b2
  all_goals
   clear hq
   repeat' (first|refine st ?_|(refine pf 16 ?_;refine pm (hp) ?_)|(refine pf 17 ?_;refine pm (hp9) ?_)|(refine pf 18 ?_;refine pm (Z) ?_)|(refine pf 19 ?_;refine pm (Y) ?_)|(refine pf 21 ?_;refine pm (hen) ?_)|(refine pf 20 ?_;refine pm (M) ?_)|(refine pf 20 ?_;refine pm (E) ?_)|(refine pf 12 ?_;refine pm (u) ?_)|refine sb λnb_ hnb_=>?_|refine s2 (λh=>?_) λh=>?_|fail)
  .exact fin s _ G.up rp
  .exact fin s2 _ (S rfl) rp
  .exact fin s _ G.up rp
  .exact fin s2 _ (S rfl) rp
 .have hd:=aX g1;obtain⟨n,hn,I⟩:=G.inv;have u:=zc c n Ua s I;have D:c.enc=[.lst (c.w.cells.map aH.enc),.lst (c.w.locks.map bC.enc),.lst (c.w.conds.map bR.enc),.lst (c.w.futures.map au),.lst (c.w.threads.map au),.lst (c.w.sites.map bU.enc),.lst (c.ts.map eb.enc)]:=rfl;have B:∀s:cm,s.enc=[.lst (s.sync.locks.map LockD.enc),.Uf s.sync.tx,.lst (s.sync.done.map aB),.lst (s.sync.threads.map ThrD.enc),.lst (s.cells.map ah),.lst (s.futures.map ah),.lst (s.threads.map aC.enc)]:=λ_=>rfl
  simp only[D,B]at u ⊢;clear D B
  repeat' (first|refine st ?_|(refine pf 12 ?_;refine pm (u) ?_)|(refine pf 13 ?_;refine pm (haw) ?_)|refine sb λnb_ hnb_=>?_|refine s2 (λh=>?_) λh=>?_|fail)
  exact hq _
def IE(t:List UInt8)(l:List o9)(hc:t.length<2^40->∃c:aZ,aq Tryz.prog 7 [.lst (t.map oJ)] (.agg c.enc)/\(∀x∈c.ts,x.ins.length<2^40)):aq Tryz.prog 4 [.lst (t.map oJ),.lst (l.map o9.enc)] (.bool true):=by
 refine ac.fz (td _ _ _ _ ?_);refine vw ?_;generalize hQ:(λ(v:AV) (L:SH)=>∃v2 L2,az [v] L [v2] L2/\v2=AV.bool true/\L2=[])=Q;have hq:∀L,Q (.bool true) L:=λL=>by subst hQ;exact⟨_,[],az.all (.refl _),rfl,rfl⟩
 clear hQ;by_cases h1:200<t.length
 .have d1:decide ((t.length:Int) > 200)=true:=decide_eq_true Ua
  repeat' (first|refine st ?_|refine sb λN E=>?_|refine s2 (λh=>?_) λh=>?_|fail)
  exact hq _
 have d1:decide ((t.length:Int) > 200)=false:=decide_eq_false Ua;by_cases h2:60<l.length
 .have d2:decide ((l.length:Int) > 60)=true:=decide_eq_true Ua
  repeat' (first|refine st ?_|refine sb λN E=>?_|refine s2 (λh=>?_) λh=>?_|fail)
  exact hq _
 have d2:decide ((l.length:Int) > 60)=false:=decide_eq_false Ua;obtain⟨c,u,j⟩:=hc Ua;have hv:=Ei c λt ht=>by have:=j t ht;omega
 have D:=BB c λt ht=>by have:=j t ht;omega
 have hst:∃M,aq Tryz.prog 14 [.agg c.enc] (.agg M.enc)/\aq Tryz.prog 15 [.agg c.enc] (.agg M.enc)/\IS c 0 M:=by
  cases hb:gx (lZ c)with
  |false=>rw[hb]at hv D;exact⟨cm.zero,BH c _ false hv nofun λ_=>rfl,Iw c D,.inl ⟨hb,rfl⟩⟩
  |true=>have G:=fH.1 hb;have B:=G.world;have Y:=Es G;rw[hb]at hv D;have h9:=Iv c D (by have:=B.c12;omega) (by have:=B.l4;omega) (by have:=B.f2;omega) (by have:=B.t4;omega) (by have:=G.len;have:=B.t4;omega) Y;exact⟨ca c,BH c _ true hv (λ_=>H9 c (by have:=B.c12;omega) (by have:=B.l4;omega) (by have:=B.f2;omega) (by have:=B.t4;omega) (by have:=G.len;have:=B.t4;omega) Y) nofun,h9,.inr ⟨hb,BF G,Ir G,0,Fd _,Hb G⟩⟩
 obtain⟨M,hs,S,G0⟩:=hst;have lp:=λb6 b7=>Gi c j l Ua M G0 Q hq b6 b7
 clear hq;have Z:c.enc=[.lst (c.w.cells.map aH.enc),.lst (c.w.locks.map bC.enc),.lst (c.w.conds.map bR.enc),.lst (c.w.futures.map au),.lst (c.w.threads.map au),.lst (c.w.sites.map bU.enc),.lst (c.ts.map eb.enc)]:=rfl;have O:∀s:cm,s.enc=[.lst (s.sync.locks.map LockD.enc),.Uf s.sync.tx,.lst (s.sync.done.map aB),.lst (s.sync.threads.map ThrD.enc),.lst (s.cells.map ah),.lst (s.futures.map ah),.lst (s.threads.map aC.enc)]:=λ_=>rfl
 simp only[Z,O]at u hs S lp;clear Z O
 repeat' (first|refine st ?_|(refine pf 7 ?_;refine pm (u) ?_)|(refine pf 14 ?_;refine pm (hs) ?_)|(refine pf 15 ?_;refine pm (S) ?_)|refine sb λN E=>?_|refine s2 (λh=>?_) λh=>?_|fail)
 exact lp _ _
end Go.Proofs.YtbofdbhnbodbiaaGreatDoor.Am
