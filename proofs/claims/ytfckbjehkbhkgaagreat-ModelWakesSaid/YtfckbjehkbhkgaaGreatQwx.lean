/- part -/
import Derived.Test.YtfckbjehkbhkgaaGreatQww
set_option linter.all false
set_option maxRecDepth 100000
set_option maxHeartbeats 0
namespace Go.Proofs.YtfckbjehkbhkgaaGreat.Am
section
open Go.RowKit
def my:Option Nat->Nat->AV
 |none,_=>.nils
 |some b,n=>.sl b 0 n
def KM(o:Option Nat)(n:Nat):AV.one (my o n)=true:=by cases o<;>rfl
def Ip{P:Program}{g:FuncId}{args:List AV}{o:Option Nat}{n:Nat}{rows:List (List AV)}{v:AV}{L D:SH}{KL:AV->SH->Prop}(h:ac P g args (ab o n rows) λu K=>u=v/\K=ab o n rows)(j:eG o n rows L D)(B:KL v L):W.callM P g args L KL:=
 ⟨.perm (h.frame j.perm λu K e=>⟨L,by rw[e.2];exact j.perm.symm,by rw[e.1];exact B⟩)⟩
def R9{o:Option Nat}{m:Nat}{K:AV->Prop}(j:o=none->m=0)(h:K (.acU (m:Int))):W.len (my o m) K:=by
 cases o with
 |none=>rw[j rfl]at h ⊢;exact NH h
 |some b=>exact AU h
def ME{n m:Nat}{o:Option Nat}{rows:List (List AV)}{kd j:IntKind}{L E:SH}{K:AV->Prop}(D:o=none->m=0)(B:eG o n rows L E)(u:K (my o m)):W.slice n (my o m) none (some (.int kd (m:Int))) (some (.int j (m:Int))) L K:=by
 cases o with
 |none=>rw[D rfl]at u ⊢;exact MC u
 |some b=>exact Pt B.some'.mem' rfl u
def Sa{o:Option Nat}{i n by_ N k:Nat}{rows m:List (List AV)}{L O:SH}{KL:AV->SH->Prop}(G:(N,(⟨n,m⟩:Blk))∈L)(E:eG o n rows L O)(u:rows.length=i)(Z:o=none->rows=[])(D:k=m.length)(B:0<m.length)(h2:2*(i+m.length)*by_<=2^48)(M:2*(i+m.length)<=2^62)(h4:(m.all λr=>r.all AV.one)=true)
  (h:∀b,b∉L.names->KL (.sl b 0 (i+m.length)) ((b,⟨n,rows++m⟩)::O)):W.append n by_ (my o i) (.sl N 0 k) L KL:=by
 cases o with
 |none=>subst D;have j:=Z rfl;subst j;simp only[abq]at u;subst u;have S:=E.none';subst S;exact TL (KL:=KL) (L:=L) (by_:=by_) (j7 G rfl rfl) (by simpa using h2) (by simpa using M) h4 (Nat.ne_of_gt B) (λb Y=>by simpa using h b Y)
 |some b=>exact aM (o:=some b) G E u nofun D B h2 M h4 h
def w7(w:aG)(c:aP)(t:Int)(o:Option Nat)(j:o=none->c.order=[]):ax [.agg w.enc,.agg (gr c (my o c.order.length)),.acU t] (ab o 1 (c.order.map aa)) [.agg w.enc,.agg c.enc,.acU t] []:=by
 cases o with
 |some b=>exact UE w c t b
 |none=>exact ax.vals (.cons (.refl _) (.cons (Fz.aggs (m:=c.enc) (.cons (.refl _) (.cons (.refl _) (.cons (.refl _) (.cons (.refl _) (.cons (.refl _) (.cons (.refl _) (.cons (by rw[j rfl];exact .nils) (.cons (.refl _) (.cons (.refl _) .nil)))))))))) (.cons (.refl _) .nil)))
def kv{P:Program}{g:FuncId}{args:List AV}{n m:Nat}{rows:List (List AV)}{E:Prop}{sv:Option Nat->Nat->AV}(h:ac P g args [] λv L=>∃o,v=sv o m/\L=ab o n rows/\(o=none->E))(u:¬E)(j:∀b m,sv (some b) m=.sl b 0 m:=by intros;rfl):ac P g args [] λv L=>∃b:Nat,v=.sl b 0 m/\L=[(b,(⟨n,rows⟩:Blk))]:=
 h.mono λv L ⟨o,G,D,B⟩=>by
  cases o with
  |none=>exact absurd (B rfl) u
  |some b=>exact⟨b,G.trans (j _ _),D⟩
def kd8{P:Prop}(k v:Int)(Z:k=3->P)(h2:k=23->P)(Y:k=4->P)(h4:k=22->P)(S:k=18->0<=v->P)(O:k=18->¬0<=v->P)(N:k=19->P)(M:k≠3->k≠23->k≠4->k≠22->k≠18->k≠19->P):P:=by
 by_cases G:k=3
 .exact Z G
 by_cases u:k=23
 .exact h2 u
 by_cases E:k=4
 .exact Y E
 by_cases B:k=22
 .exact h4 B
 by_cases j:k=18
 .by_cases q:0<=v
  .exact S j q
  .exact O j q
 by_cases D:k=19
 .exact N D
 exact M G u E B j D
def Dk(w:aG)(c:aP)(t wake:Int)(W0:Av w)(WP:oK w.w)(H:jK w c)(o:Option Nat)(ho:o=none->c.order=[]):ac Tryz.prog 21 [.agg w.enc,.agg (gr c (my o c.order.length)),.agg [.acU t,.acU wake]] (ab o 1 (c.order.map aa)) (MD w c t wake (ab o 1 (c.order.map aa))):=by
 obtain⟨s1,s2,s3,s4,s5,s6,s7,s8,s9⟩:=N9 WP W0.lw H;have hov:=KM o c.order.length;have ho1:o=none->c.order.length=0:=λe=>by rw[ho e];rfl
 have ho2:o=none->c.order.map aa=[]:=λe=>by rw[ho e];rfl
 have hft:=Ps w c _ hov H;have hen:=Di (.bool _) (rX w c t) (RD w c t W0 acN (λl h=>by have:=s9 l h;omega)) (w7 w c t o ho);have hnx:=Di (.int _ _) (rX w c t) (wP w c t W0.lw acN W0.thr) (w7 w c t o ho);refine ac.fz (EG _ _ _ _ _ ?_);refine vw ?_;generalize u:(λ(v:AV) (L:SH)=>∃v2 L2,ax [v] L [v2] L2/\MD w c t wake (ab o 1 (c.order.map aa)) v2 L2)=Q;cases he:u9 w c t with
 |false=>
  have G:∀(L K:SH),eG o 1 (c.order.map aa) L K->Q (.tup [.agg [.nils,.acU 0,.nils,.nils,.nils,.nils,.nils,.nils,.nils],.bool false]) L:=λL K hd=>by
   subst u;refine⟨.tup [.agg aP.zero.enc,.bool false],ab o 1 (c.order.map aa),ax.drop (K:=K) (hd.perm.trans aar) rfl (fy.at_ (.cons (Fz.tups (.cons (Fz.aggs (m:=aP.zero.enc) ?_) (.cons (.refl _) .nil))) .nil)).2,?_⟩
   .exact fl
   .unfold MD c8;rw[he];exact⟨rfl,rfl⟩
  rw[he]at hen;clear u;rw[bj,dG]at *
  repeat' (first|refine st ?_|refine lI rfl (oO hov) (λS M=>?_)|((with_reducible refine aN 17 ?_);(refine Ip hen rp ?_))|(refine pf 48 ?_;refine pm (hft) ?_)|refine sb λS M=>?_|refine s2 (λh=>?_) λh=>?_|fail)
  exact G _ _ rp
 |true=>
  rw[he]at hen;obtain⟨k,hk,e1,e2,hth,hc,hb,h8,hfd⟩:=CQ he;have hst:c8 w c t wake=some (uG w c t k w.ev[k] wake):=by unfold c8;rw[he,e1,e2];rfl
  unfold MD at u;rw[hst]at u;dsimp only at u;rw[e1]at hnx;have hfx:=CS w c _ hov t (w.ev[k]).frm W0.lw (by have:=(W0.evs _ (List.getElem_mem hk)).2;omega) (W0.num _ (List.getElem_mem hk)).2 (qR W0.cnt t) W0.ct;have hap:=Rl (wake:=wake) (t:=t) (k:=(w.ev[k]).kind) (o:=(w.ev[k]).obj) (w:=w.w) (s:=c.sync) ⟨by have:=WP.d2;omega,acN,acN,acN,λl h=>by have:=s9 l h;omega⟩;have hx:=qS hk;rw[eH]at hx;have Y:k<c.fixed.length:=by rw[H.fixed];exact hk
  have Z:k<c.woke.length:=by rw[H.woke];exact hk
  have hfr:=aj (f:=au) Y;have hwr:=aj (f:=aa) Z;have hal:allowedS w.w (w.ev[k]).kind (w.ev[k]).obj=true:=by unfold aC at h8;simp only[aas]at h8;exact h8.1.2
  have hdo:uG w c t k w.ev[k] wake=⟨(dx w.w c.sync t (w.ev[k]).kind (w.ev[k]).obj wake).1,if(w.ev[k]).kind=4 then c.cells.set (w.ev[k]).obj.toNat (if eJ w c t (w.ev[k]).frm then⟨(w.ev[k]).value,true⟩else⟨0,false⟩)else c.cells,if(w.ev[k]).kind=22 then c.futures.set (w.ev[k]).obj.toNat (if eJ w c t (w.ev[k]).frm then⟨(w.ev[k]).value,true⟩else⟨0,false⟩)else c.futures,c.order++[(k:Int)],
   if(w.ev[k]).kind=3 then c.fixed.set k (Kk (qO c.cells (w.ev[k]).obj) (w.ev[k]).value)else if(w.ev[k]).kind=23 then c.fixed.set k (Kk (qO c.futures (w.ev[k]).obj) (w.ev[k]).value)else c.fixed,
   if(w.ev[k]).kind=18 then(if 0<=(dx w.w c.sync t (w.ev[k]).kind (w.ev[k]).obj wake).2.1 then c.woke.set k 1 else c.woke)else if(w.ev[k]).kind=19 then c.woke.set k (dx w.w c.sync t (w.ev[k]).kind (w.ev[k]).obj wake).2.1 else c.woke⟩:=rfl
  have hrb:=(uH (wake:=wake) h8).2.2;rw[hdo]at u;clear hdo hst hfd hb hc hth;generalize dx w.w c.sync t (w.ev[k]).kind (w.ev[k]).obj wake=r at *;generalize eJ w c t (w.ev[k]).frm=kn at *;generalize w.ev[k]=e at *;obtain⟨et,ek,O,ev,es,ed,ef⟩:=e;obtain⟨sy,vv,bb⟩:=r;dsimp only at *;subst hrb;have G:∀(n:aP) (b m:Nat) (j:List (List AV)) (L K:SH) (B fv D E:AV),Q=(λ(v:AV) (L:SH)=>∃v2 L2,ax [v] L [v2] L2/\∃b,v2=.tup [.agg (gr n (.sl b 0 n.order.length)),.bool true]/\L2=[(b,(⟨1,n.order.map aa⟩:Blk))])->n.sync=sy->dF b ⟨1,j⟩ L K->j=n.order.map aa->m=n.order.length->Fz K B (.lst (n.cells.map eu.enc))->Fz K fv (.lst (n.futures.map eu.enc))->Fz K D (.lst (n.fixed.map au))->Fz K E (.lst (n.woke.map aa))->
    Q (.tup [.agg [.lst (sy.locks.map LockD.enc),.acU sy.tx,.lst (sy.done.map au),.lst (sy.threads.map ThrD.enc),B,fv,.sl b 0 m,D,E],.bool true]) L:=λn b m j L K B fv D E u hs hd hr hm f1 f2 f4 f5=>by
   subst u hs hr hm;exact⟨.tup [.agg (gr n (.sl b 0 n.order.length)),.bool true],[(b,⟨1,n.order.map aa⟩)],ax.drop (K:=K) (hd.perm.trans (aar (l₁:=[_]))) rfl (fy.at_ (.cons (Fz.tups (.cons (Fz.aggs (m:=gr n (.sl b 0 n.order.length)) (.cons (.refl _) (.cons (.refl _) (.cons (.refl _) (.cons (.refl _) (.cons f1 (.cons f2 (.cons (.refl _) (.cons f4 (.cons f5 .nil)))))))))) (.cons (.refl _) .nil))) .nil)).2,b,rfl,rfl⟩
  rw[show EV (sy,vv,true)=.tup [.agg [.lst (sy.locks.map LockD.enc),.acU sy.tx,.lst (sy.done.map au),.lst (sy.threads.map ThrD.enc)],.acU vv,.bool true]from rfl,Mv,show aF.enc w.w=[.lst (w.w.cells.map aU.enc),.lst (w.w.locks.map bZ.enc),.lst (w.w.conds.map cM.enc),.lst (w.w.futures.map ay),.lst (w.w.threads.map ay),.lst (w.w.sites.map cF.enc)]from rfl]at hap;rw[bj,dG]at *;have hor:c.order.map aa++(List.replicate 1 [AV.int IntKind.i64 0]).set 0 [AV.int IntKind.i64 (k:Int)]=(c.order++[(k:Int)]).map aa:=by simp[aa]
  have k0:(0:Int)<=(k:Int):=by omega
  have hcc:=KK c.cells acN;have hcf:=KK c.futures acN;have hcw:=Dh c.woke acN;have hcx:=KC c.fixed acN;refine kd8 ek vv ?k3 ?k23 ?k4 ?k22 ?k18 ?k18n ?k19 ?kz
  case' k3=>
   rintro rfl;have G:=λb m j L K B fv D E=>G _ b m j L K B fv D E u.symm rfl
   clear u;obtain⟨o0,o1⟩:=ao.1 (rW hal (.inl rfl));have o2:O<c.cells.length:=by rw[H.cells];exact o1
   have hcr:(c.cells.map eu.enc)[O.toNat]? =some [.acU (qO c.cells O).value,.bool (qO c.cells O).known]:=by
    have:O.toNat<c.cells.length:=by omega
    simp[this,qO,eu.enc]
   generalize qO c.cells O=cx at *;obtain⟨B,ck⟩:=cx;dsimp only at hcr;have N:=kv (rQ c.fixed acN) (λe=>by rw[e]at Y;simp at Y)
  case' k23=>
   rintro rfl;have G:=λb m j L K B fv D E=>G _ b m j L K B fv D E u.symm rfl
   clear u;obtain⟨o0,o1⟩:=ao.1 (w6 hal (.inr rfl));have o2:O<c.futures.length:=by rw[H.futures];exact o1
   have hcr:(c.futures.map eu.enc)[O.toNat]? =some [.acU (qO c.futures O).value,.bool (qO c.futures O).known]:=by
    have:O.toNat<c.futures.length:=by omega
    simp[this,qO,eu.enc]
   generalize qO c.futures O=cx at *;obtain⟨B,ck⟩:=cx;dsimp only at hcr;have N:=kv (rQ c.fixed acN) (λe=>by rw[e]at Y;simp at Y)
  case' k4=>
   rintro rfl;have G:=λb m j L K B fv D E=>G _ b m j L K B fv D E u.symm rfl
   clear u;obtain⟨o0,o1⟩:=ao.1 (rW hal (.inr rfl));have o2:O<c.cells.length:=by rw[H.cells];exact o1
   have N:=kv (yH c.cells acN) (λe=>by rw[e]at o2;simp at o2;omega);have y:=cq (f:=eu.enc) (ao.2 ⟨o0,o2⟩)
  case' k22=>
   rintro rfl;have G:=λb m j L K B fv D E=>G _ b m j L K B fv D E u.symm rfl
   clear u;obtain⟨o0,o1⟩:=ao.1 (w6 hal (.inl rfl));have o2:O<c.futures.length:=by rw[H.futures];exact o1
   have N:=kv (yH c.futures acN) (λe=>by rw[e]at o2;simp at o2;omega);have y:=cq (f:=eu.enc) (ao.2 ⟨o0,o2⟩)
  case' k18=>
   rintro rfl q;have dq:decide (0<=vv)=true:=decide_eq_true q;rw[if_pos rfl,if_pos q]at u;have G:=λb m j L K B fv D E=>G _ b m j L K B fv D E u.symm rfl
   clear u;have N:=kv (rP c.woke acN) (λe=>by rw[e]at Z;simp at Z)
  case' k18n=>
   rintro rfl q;have dq:decide (0<=vv)=false:=decide_eq_false q;rw[if_pos rfl,if_neg q]at u;have G:=λb m j L K B fv D E=>G _ b m j L K B fv D E u.symm rfl
   clear u
  case' k19=>
   rintro rfl;have G:=λb m j L K B fv D E=>G _ b m j L K B fv D E u.symm rfl
   clear u;have N:=kv (rP c.woke acN) (λe=>by rw[e]at Z;simp at Z)
  case' kz=>
   rintro k3 k23 k4 k22 k18 k19;rw[if_neg k3,if_neg k23,if_neg k4,if_neg k22,if_neg k18,if_neg k19]at u;have G:=λb m j L K B fv D E=>G _ b m j L K B fv D E u.symm rfl
   clear u;have d3:decide (ek=3)=false:=decide_eq_false k3;have d4:decide (ek=4)=false:=decide_eq_false k4;have d18:decide (ek=18)=false:=decide_eq_false k18;have d19:decide (ek=19)=false:=decide_eq_false k19;have d22:decide (ek=22)=false:=decide_eq_false k22;have d23:decide (ek=23)=false:=decide_eq_false k23
  all_goals
   repeat' (first|refine st ?_|refine lI rfl (oO hov) (λS M=>?_)|((first|refine fm N ?_|refine HO N (by cases o<;>simp[my,ab,dV,rm,rc,rz,W.free,ai]) ?_);(rintro _ _ ⟨bq,rfl,rfl⟩;dsimp only[List.cons_append,List.nil_append]))|((with_reducible refine aN 17 ?_);(refine Ip hen rp ?_))|(refine pf 48 ?_;refine pm (hft) ?_)|((with_reducible refine aN 15 ?_);(refine Ip hnx rp ?_))|(refine pf 19 ?_;refine pm (hfx) ?_)|(refine pf 49 ?_;refine pm (hap) ?_)|(refine pf 50 ?_;refine pm (hcc) ?_)|(refine pf 50 ?_;refine pm (hcf) ?_)|(refine pf 52 ?_;refine pm (hcw) ?_)|(refine pf 51 ?_;refine pm (hcx) ?_)|refine R9 ho1 ?_|refine ME ho1 rp ?_|refine oD (by cases o<;>simp[my,ab,rm,rc,rz,W.free,ai,dV]) ?_|refine Sa rp rp acQ ho2 acP acQ acS acS rfl (λS M=>?_)|refine aO rp acP acP acP acP acQ ?_|refine sb λS M=>?_|refine s2 (λh=>?_) λh=>?_|fail)
   cases kn
   all_goals
    repeat' (first|refine aw o0 acN rp rfl ?_|refine kH (ZP _ _ _ ?_)|refine wZ acN rp rfl ?_|refine st ?_|refine aO rp acP acP acP acP acQ ?_|refine dR rp hcr rfl ?_|refine sb λS M=>?_|refine s2 (λh=>?_) λh=>?_|fail)
    refine G _ _ _ _ _ _ _ _ _ rp hor acQ ?_ ?_ ?_ ?_
   all_goals first|exact .refl _|exact Fz.sls mm R4 (aaq _) acQ|exact Fz.sls mm R3 (aaq _) acQ|exact Fz.sls mm w4 (aaq _) acQ|fail
end
