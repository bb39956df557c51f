/- part -/
import Derived.Test.YtfckbjehkbhkgaaGreatQwm
set_option linter.all false
set_option maxRecDepth 100000
set_option maxHeartbeats 0
namespace Go.Proofs.YtfckbjehkbhkgaaGreat.Am
def wQ{x:Int}(u:0<=x)(j:x<9223372036854775808):IntKind.i64.wrap x=x:=abg _ acN
def qQ(w:aG)(t:Int)(k:Nat)(Z:k<9223372036854775808)(hl:w.ev.length<=400):aq Tryz.prog 27 [.agg w.enc,.acU t,.acU k] (.acU (ep w t k)):=by
 refine NQ (AV.int .i64) λQ B=>HI _ _ _ _ _ ?_
 refine vw ?_;rw[bj]
 repeat' (first|refine sy ?_|refine s2 ?_ ?_|intro)
 refine cT w.ev.length (λi=>(cg w.ev t i).length<=k) (λi=>[.acU t,.acU ((k-(cg w.ev t i).length:Nat):Int),.pptr [w.enc] 0 0,.acU i]) acN (by simp[cg]) (by simp[cg,bj]) (λi G hd hii N S u=>?_) (λi G hd N S=>?_)
 all_goals refine vw ?_
 .have Y:=aj (f:=bA.enc) G;have E:cg w.ev t (i+1)=if(w.ev[i]).thread=t then cg w.ev t i++[(i:Int)]else cg w.ev t i:=by rw[eD];simp[G]
  have j:(w.ev[i]).thread=t->(cg w.ev t i).length=k->ep w t k=i:=λh1 h2=>Uk G h1 h2
  rw[eH]at Y;rw[E]at u;clear E;by_cases D:(w.ev[i]).thread=t
  .have d1:decide ((w.ev[i]).thread=t)=true:=decide_eq_true D;rw[if_pos D,aal,ach]at u;generalize(cg w.ev t i).length=m at *;by_cases O:m=k
   .have M:=λL=>B i L (j D O)
    have d2:decide (((k-m:Nat):Int)=0)=true:=decide_eq_true acN;clear j u B
    repeat' (first|refine sy ?_|refine s2 ?_ ?_|intro)
    exact M _
   .have d2:decide (((k-m:Nat):Int)=0)=false:=decide_eq_false acN;have e1:IntKind.i64.wrap (((k-m:Nat):Int)-1)=((k-(m+1):Nat):Int):=by rw[wQ acN acN];omega
    clear j B;have u:=u acN
    repeat' (first|refine sy ?_|refine s2 ?_ ?_|intro)
    exact u
  .have d1:decide ((w.ev[i]).thread=t)=false:=decide_eq_false D;rw[if_neg D]at u;generalize(cg w.ev t i).length=m at *;have u:=u N;clear j B
   repeat' (first|refine sy ?_|refine s2 ?_ ?_|intro)
   exact u
 .have M:=λL=>B (-1) L (Km (by unfold eC;rw[<-G];omega))
  clear B N
  repeat' (first|refine sy ?_|refine s2 ?_ ?_|intro)
  exact M _
def N6{w:aG}{c:aP}{t n:Int}(h:aT w.init t<=n):pS w c t n=(inB (ep w t (n-aT w.init t)) c.fixed.length&&c.fixed.getD (ep w t (n-aT w.init t)).toNat false):=by unfold pS;rw[decide_eq_false (by omega:¬n<aT w.init t),Bool.false_or]
def RC{l:List Bool}{i:Int}(h:inB i l.length=true):(l.map au)[i.toNat]? =some [.bool (l.getD i.toNat false)]:=by
 obtain⟨a,b⟩:=ao.1 h;have:i.toNat<l.length:=by omega
 simp[this,au]
def CR{s:gO}{t:Int}(h:inB t s.count.length=true):(s.count.map aa)[t.toNat]? =some [.acU (aT s t)]:=by
 obtain⟨a,b⟩:=ao.1 h;have:t.toNat<s.count.length:=by omega
 simp[this,aT,aa]
def oN(w:aG)(c:aP)(t:Int)(l:List Int)(hl:w.ev.length<=400)(hll:l.length<2^62)(hw:∀d∈l,d<9223372036854775808)(hc:0<=aT w.init t):aq Tryz.prog 20 [.agg w.enc,.agg c.enc,.acU t,.lst (l.map aa)] (.bool (eJ w c t l)):=by
 refine NQ AV.bool λQ Y=>vR _ _ _ _ _ _ ?_
 refine vw ?_;rw[bj,cG];have u:∀L,inB t w.init.count.length=false->Q (.bool (decide ((l.length:Int)=0))) L:=λL h=>Y _ L (by unfold eJ;rw[h];cases l<;>simp;omega)
 by_cases p1:t<0
 .have d1:decide (t<0)=true:=decide_eq_true p1
  repeat' (first|refine sy ?_|refine s2 ?_ ?_|intro)
  exact u _ (by simp[inB];omega)
 have d1:decide (t<0)=false:=decide_eq_false p1;by_cases p2:(w.init.count.length:Int)<=t
 .have d2:decide ((w.init.count.length:Int)<=t)=true:=decide_eq_true p2
  repeat' (first|refine sy ?_|refine s2 ?_ ?_|intro)
  exact u _ (by simp[inB];omega)
 have d2:decide ((w.init.count.length:Int)<=t)=false:=decide_eq_false p2;clear u;have M:inB t w.init.count.length=true:=ao.2 ⟨acN,acN⟩;have S:0<=t:=by omega
 have O:t<w.init.count.length:=by omega
 have hcx:=CR M
 repeat' (first|refine sy ?_|refine s2 (λh=>?_) λh=>?_|intro)
 refine eO l (λd=>!pS w c t d) (λi=>[.acU t,.lst (l.map aa),.pptr [w.enc] 0 0,.pptr [c.enc] 0 0,.acU i]) hll rfl (λi hi hd hii B nx D=>?_) (λi hi hd B nx=>?_)
 all_goals refine vw ?_
 .have hx:=aj (f:=aa) hi;have hb:=hw _ (LT hi);have j:pS w c t l[i]=false->∀L,Q (.bool false) L:=λh L=>Y _ L (by
   unfold eJ;rw[if_pos M];exact List.all_eq_false.2 ⟨_,LT hi,by rw[h];decide⟩)
  clear Y B;generalize l[i]=d at *;rw[show aa d=[.acU d]from rfl]at hx;by_cases p3:d<aT w.init t
  .have d3:decide (d<aT w.init t)=true:=decide_eq_true p3;have D:=D (by unfold pS;rw[d3];rfl);rw[bj,cG]
   repeat' (first|refine aw S O rp acO ?_|refine sy ?_|refine s2 ?_ ?_|intro)
   exact D
  .have d3:decide (d<aT w.init t)=false:=decide_eq_false p3;have N:=N6 (w:=w) (c:=c) (t:=t) (n:=d) acN;have E:=qQ w t (d-aT w.init t).toNat acN hl;rw[abD acN]at E;have e1:IntKind.i64.wrap (d-aT w.init t)=d-aT w.init t:=wQ acN acN;rw[bj]at E;rw[bj,cG];generalize ep w t (d-aT w.init t)=m at *;by_cases q1:m<0
   .have d4:decide (m<0)=true:=decide_eq_true q1;have G:=j (by rw[N,show inB m c.fixed.length=false by simp[inB];omega];rfl);clear j D
    repeat' (first|refine aw S O rp acO ?_|refine sy ?_|refine s2 ?_ ?_|intro)
    exact G _
   have d4:decide (m<0)=false:=decide_eq_false q1;by_cases q2:(c.fixed.length:Int)<=m
   .have d5:decide ((c.fixed.length:Int)<=m)=true:=decide_eq_true q2;have G:=j (by rw[N,show inB m c.fixed.length=false by simp[inB];omega];rfl);clear j D
    repeat' (first|refine aw S O rp acO ?_|refine sy ?_|refine s2 ?_ ?_|intro)
    exact G _
   have d5:decide ((c.fixed.length:Int)<=m)=false:=decide_eq_false q2;have hm:=ao.2 ⟨(by omega:0<=m),(by omega:m<c.fixed.length)⟩;have m0:0<=m:=by omega
   have m1:m<c.fixed.length:=by omega
   have Z:=RC hm;rw[hm,acB]at N;cases hv:c.fixed.getD m.toNat false with
   |true=>
    rw[hv]at N Z;have D:=D (by rw[N];rfl);clear j
    repeat' (first|refine aw S O rp acO ?_|refine aw m0 m1 rp acO ?_|refine sy ?_|refine s2 ?_ ?_|intro)
    exact D
   |false=>
    rw[hv]at N Z;have G:=j N;clear j D
    repeat' (first|refine aw S O rp acO ?_|refine aw m0 m1 rp acO ?_|refine sy ?_|refine s2 ?_ ?_|intro)
    exact G _
 .have G:=λL=>Y true L (by
   unfold eJ;rw[if_pos M,abh];exact λd hd=>by simpa using B d hd)
  clear Y B;rw[bj,cG]
  repeat' (first|refine sy ?_|refine s2 ?_ ?_|intro)
  exact G _
def gr(s:aP)(ov:AV):List AV:=[.lst (s.sync.locks.map LockD.enc),.acU s.sync.tx,.lst (s.sync.done.map au),.lst (s.sync.threads.map ThrD.enc),.lst (s.cells.map eu.enc),.lst (s.futures.map eu.enc),ov,.lst (s.fixed.map au),.lst (s.woke.map aa)]
def dG(s:aP)(j:AV):gr s j=[.lst (s.sync.locks.map LockD.enc),.acU s.sync.tx,.lst (s.sync.done.map au),.lst (s.sync.threads.map ThrD.enc),.lst (s.cells.map eu.enc),.lst (s.futures.map eu.enc),j,.lst (s.fixed.map au),.lst (s.woke.map aa)]:=rfl
def oO{N M G E D B u:List (List AV)}{k:IntKind}{n:Int}{j:AV}(h:AV.one j=true):[AV.lst N,.int k n,.lst M,.lst G,.lst E,.lst D,j,.lst B,.lst u].all AV.one=true:=by show(true&&(true&&(true&&(true&&(true&&(true&&(AV.one j&&(true&&(true&&true)))))))))=true;rw[h];rfl
def Pj(w:aG)(c:aP)(u:AV)(t x:Int)(l:List Int)(hl:w.ev.length<=400)(Q:R)(hq:∀(o:Option Nat),(o=none->eC w t=[])->W.loop (qy Q) [.pptr [gr c u] 0 0,.acU x,af o (eC w t).length,.lst (l.map aa),.acU l.length,.acU (0:Nat)] (ab o 1 ((eC w t).map aa))):
  W.loop (Ce Q) [.acU t,.lst (l.map aa),.pptr [gr c u] 0 0,.acU x,.nils,.lst (w.ev.map bA.enc),.acU w.ev.length,.acU (0:Nat)] []:=by
 refine aL w.ev.length (λk (o:Option Nat)=>([.acU t,.lst (l.map aa),.pptr [gr c u] 0 0,.acU x,af o (cg w.ev t k).length,.lst (w.ev.map bA.enc),.acU w.ev.length,.acU k],ab o 1 ((cg w.ev t k).map aa))) (λk o=>o=none->cg w.ev t k=[]) none (λ_=>rfl) (ax.drop (K:=[]) (.refl _) rfl (fy.at_ (.cons (.refl _) (.cons (.refl _) (.cons (.refl _) (.cons (.refl _) (.cons .nile (.cons (.refl _) (.cons (.refl _) (.cons (.refl _) .nil))))))))).2) ?_;intro k o hk Z;dsimp only;refine vw ?_;have hle:=ka w.ev t k;rcases Nat.lt_or_ge k w.ev.length with E|E
 .have hd:=aS E;have hx:=aj (f:=bA.enc) E;have D:cg w.ev t (k+1)=if(w.ev[k]).thread=t then cg w.ev t k++[(k:Int)]else cg w.ev t k:=by rw[eD];simp[E]
  have Y:o=none->(cg w.ev t k).map aa=[]:=λe=>by rw[Z e];rfl
  rw[eH]at hx;clear hq;by_cases O:(w.ev[k]).thread=t
  .have d1:decide ((w.ev[k]).thread=t)=true:=decide_eq_true O;rw[if_pos O]at D;have fin:∀(S n:Nat) (L:SH),n=(cg w.ev t k).length+1->cO L (ab (some S) 1 ((cg w.ev t k).map aa++[[.acU (k:Int)]]))->∃(j:Nat) (B:Option Nat),k<j/\j<=w.ev.length/\(B=none->cg w.ev t j=[])/\ax [.acU t,.lst (l.map aa),.pptr [gr c u] 0 0,.acU x,.sl S 0 n,.lst (w.ev.map bA.enc),.acU w.ev.length,.acU (IntKind.i64.wrap ((k:Int)+1))] L
     [.acU t,.lst (l.map aa),.pptr [gr c u] 0 0,.acU x,af B (cg w.ev t j).length,.lst (w.ev.map bA.enc),.acU w.ev.length,.acU j] (ab B 1 ((cg w.ev t j).map aa)):=λS n L hn hL=>by
    refine⟨k+1,some S,acN,acN,nofun,?_⟩;rw[av E acN,hn];exact ax.pickE hL (by rw[D];simp[af]) (by rw[D];simp[aa])
   generalize hX:(cg w.ev t k).map aa=X at *;have hXl:X.length=(cg w.ev t k).length:=by rw[<-hX];simp
   rw[dG]at *
   repeat' (first|refine sx ?_|refine aM rp rp acN Y acP acQ acS acS acP (λM N=>?_)|refine sb λM N=>?_|refine s2 ?_ ?_|intro)
   exact fin M _ _ rfl rp
  .have d1:decide ((w.ev[k]).thread=t)=false:=decide_eq_false O;rw[if_neg O]at D;have G:∀V,V=[.acU t,.lst (l.map aa),.pptr [gr c u] 0 0,.acU x,af o (cg w.ev t k).length,.lst (w.ev.map bA.enc),.acU w.ev.length,.acU (IntKind.i64.wrap ((k:Int)+1))]->∃(j:Nat) (B:Option Nat),k<j/\j<=w.ev.length/\(B=none->cg w.ev t j=[])/\ax V (ab o 1 ((cg w.ev t k).map aa))
     [.acU t,.lst (l.map aa),.pptr [gr c u] 0 0,.acU x,af B (cg w.ev t j).length,.lst (w.ev.map bA.enc),.acU w.ev.length,.acU j] (ab B 1 ((cg w.ev t j).map aa)):=λV hV=>by
    subst hV;exact⟨k+1,o,acN,acN,by rw[D];exact Z,fR (by rw[av E acN,D]) (by rw[D])⟩
   rw[dG]at *
   repeat' (first|refine sy ?_|refine s2 ?_ ?_|intro)
   exact G _ rfl
 .have hd:=aW E;obtain rfl:k=w.ev.length:=by omega
  have hz:=hq o Z;rw[dG]at *
  repeat' (first|refine sy ?_|refine s2 ?_ ?_|intro)
  exact hz
def CS(w:aG)(c:aP)(ov:AV)(G:AV.one ov=true)(t:Int)(l:List Int)(hl:w.ev.length<=400)(hll:l.length<2^62)(hw:∀d∈l,d<9223372036854775808)(hc:0<=aT w.init t)(hct:w.init.count.length=w.w.threads.length):aq Tryz.prog 19 [.agg w.enc,.agg (gr c ov),.acU t,.lst (l.map aa)] (.bool (eJ w c t l)):=by
 refine NQ AV.bool λQ O=>Cf _ _ _ _ _ _ ?_
 refine vw ?_;rw[bj,dG];by_cases h0:l.length=0
 .have d0:decide ((l.length:Int)=0)=true:=decide_eq_true acN;have E:=λL=>O true L (by rw[ace h0];unfold eJ;split<;>rfl)
  clear O
  repeat' (first|refine sy ?_|refine lI rfl (oO G) (λY D=>?_)|refine s2 ?_ ?_|intro)
  exact E _
 have d0:decide ((l.length:Int)=0)=false:=decide_eq_false acN;have B:∀L,inB t w.init.count.length=false->Q (.bool false) L:=λL h=>O _ L (by unfold eJ;rw[h];cases l with
  |nil=>exact absurd rfl h0
  |cons=>rfl)
 by_cases p1:t<0
 .have d1:decide (t<0)=true:=decide_eq_true p1
  repeat' (first|refine sy ?_|refine lI rfl (oO G) (λY D=>?_)|refine s2 ?_ ?_|intro)
  exact B _ (by simp[inB];omega)
 have d1:decide (t<0)=false:=decide_eq_false p1;by_cases p2:(w.w.threads.length:Int)<=t
 .have d2:decide ((w.w.threads.length:Int)<=t)=true:=decide_eq_true p2
  repeat' (first|refine sy ?_|refine lI rfl (oO G) (λY D=>?_)|refine s2 ?_ ?_|intro)
  exact B _ (by simp[inB];omega)
 have d2:decide ((w.w.threads.length:Int)<=t)=false:=decide_eq_false p2;have d3:decide ((w.init.count.length:Int)<=t)=false:=decide_eq_false acN;clear B;have hin:inB t w.init.count.length=true:=ao.2 ⟨acN,acN⟩;have t0:0<=t:=by omega
 have t1:t<w.init.count.length:=by omega
 have hcx:=CR hin;have key:∀o:Option Nat,(o=none->eC w t=[])->W.loop (qy Q) [.pptr [gr c ov] 0 0,.acU (aT w.init t),af o (eC w t).length,.lst (l.map aa),.acU l.length,.acU (0:Nat)] (ab o 1 ((eC w t).map aa)):=by
  intro o ho;have hol:=ka w.ev t w.ev.length;change (eC w t).length<=_ at hol;refine eO l (λd=>!pS w c t d) (λi=>[.pptr [gr c ov] 0 0,.acU (aT w.init t),af o (eC w t).length,.lst (l.map aa),.acU l.length,.acU i]) hll rfl (λi hi hd hii M nx N=>?_) (λi hi hd M nx=>?_)
  all_goals refine vw ?_
  .have hx:=aj (f:=aa) hi;have hb:=hw _ (LT hi);have j:pS w c t l[i]=false->∀L,Q (.bool false) L:=λh L=>O _ L (by
    unfold eJ;rw[if_pos hin];exact List.all_eq_false.2 ⟨_,LT hi,by rw[h];decide⟩)
   clear O M;generalize l[i]=d at *;rw[show aa d=[.acU d]from rfl]at hx;by_cases p3:d<aT w.init t
   .have d4:decide (d<aT w.init t)=true:=decide_eq_true p3;have N:=N (by unfold pS;rw[d4];rfl);rw[dG]
    repeat' (first|refine sy ?_|refine s2 ?_ ?_|intro)
    exact N
   .have d4:decide (d<aT w.init t)=false:=decide_eq_false p3;have S:=N6 (w:=w) (c:=c) (t:=t) (n:=d) acN;have e1:IntKind.i64.wrap (d-aT w.init t)=d-aT w.init t:=wQ acN acN;have d5:decide (d-aT w.init t<0)=false:=decide_eq_false acN;by_cases q1:((eC w t).length:Int)<=d-aT w.init t
    .have d6:decide (((eC w t).length:Int)<=d-aT w.init t)=true:=decide_eq_true q1;have E:=j (by rw[S,Km q1];rfl);clear j N;rw[dG];cases o with
     |none=>
      have d7:decide (((0:Nat):Int)<=d-aT w.init t)=true:=decide_eq_true acN;rw[ho rfl];dsimp only[af,ab,List.map_nil,List.length_nil]
      repeat' (first|refine sy ?_|refine s2 ?_ ?_|intro)
      exact E _
     |some bo=>
      dsimp only[af,ab]
      repeat' (first|refine sy ?_|refine s2 ?_ ?_|intro)
      exact E _
    have d6:decide (((eC w t).length:Int)<=d-aT w.init t)=false:=decide_eq_false q1;cases o with
    |none=>rw[ho rfl]at q1;simp at q1;omega
    |some bo=>
     have m1:d-aT w.init t<((eC w t).length:Int):=by omega
     have m0:0<=d-aT w.init t:=by omega
     have hnm:ep w t (d-aT w.init t)=(eC w t).getD (d-aT w.init t).toNat 0:=by unfold ep;rw[if_pos (ao.2 ⟨m0,m1⟩)]
     have Z:(d-aT w.init t).toNat<(eC w t).length:=by omega
     have u:((eC w t).map aa)[(d-aT w.init t).toNat]? =some [.acU ((eC w t).getD (d-aT w.init t).toNat 0)]:=by simp[Z,aa]
     have hge:0<=(eC w t).getD (d-aT w.init t).toNat 0:=by simp only[List.getD,mt Z,abS];exact(yx (LT Z)).1
     rw[hnm]at S;clear hnm;dsimp only[af,ab]at *;generalize(eC w t).getD (d-aT w.init t).toNat 0=m at *;rw[dG];by_cases q2:(c.fixed.length:Int)<=m
     .have d7:decide ((c.fixed.length:Int)<=m)=true:=decide_eq_true q2;have E:=j (by rw[S,show inB m c.fixed.length=false by simp[inB];omega];rfl);clear j N
      repeat' (first|refine aw m0 acN rp rfl ?_|refine sy ?_|refine dR rp u rfl ?_|refine s2 ?_ ?_|intro)
      exact E _
     have d7:decide ((c.fixed.length:Int)<=m)=false:=decide_eq_false q2;have hm:=ao.2 ⟨hge,(by omega:m<c.fixed.length)⟩;have m3:m<c.fixed.length:=by omega
     have hmx:=RC hm;rw[hm,acB]at S;cases hv:c.fixed.getD m.toNat false with
     |true=>
      rw[hv]at S hmx;have N:=N (by rw[S];rfl);clear j
      repeat' (first|refine aw m0 acN rp rfl ?_|refine aw hge m3 rp acO ?_|refine sy ?_|refine dR rp u rfl ?_|refine s2 ?_ ?_|intro)
      exact N
     |false=>
      rw[hv]at S hmx;have E:=j S;clear j N
      repeat' (first|refine aw m0 acN rp rfl ?_|refine aw hge m3 rp acO ?_|refine sy ?_|refine dR rp u rfl ?_|refine s2 ?_ ?_|intro)
      exact E _
  .have E:=λL=>O true L (by
    unfold eJ;rw[if_pos hin,abh];exact λd hd=>by simpa using M d hd)
   clear O M;rw[dG]
   repeat' (first|refine sy ?_|refine s2 ?_ ?_|intro)
   exact E _
 have lp:=Pj w c ov t (aT w.init t) l hl Q key;clear key O;rw[dG]at lp
 repeat' (first|refine aw t0 t1 rp acO ?_|refine sy ?_|refine lI rfl (oO G) (λY D=>?_)|refine s2 ?_ ?_|intro)
 exact lp
def Ul(w:aG)(c:aP)(t:Int)(l:List Int)(D:w.ev.length<=400)(j:l.length<2^62)(B:∀d∈l,d<9223372036854775808)(E:0<=aT w.init t)(u:w.init.count.length=w.w.threads.length):aq Tryz.prog 19 [.agg w.enc,.agg c.enc,.acU t,.lst (l.map aa)] (.bool (eJ w c t l)):=CS w c (.lst (c.order.map aa)) rfl t l D j B E u
structure Av(w:aG):Prop where
 lw:w.ev.length<=400
 con:w.w.conds.length<2^40
 thr:∀e∈w.ev,inB e.thread w.w.threads.length=true
 evs:∀e∈w.ev,wO e
 num:∀e∈w.ev,(∀d∈e.deps,d<9223372036854775808)/\∀d∈e.frm,d<9223372036854775808
 cnt:∀n∈w.init.count,0<=n
 ct:w.init.count.length=w.w.threads.length
def qR{w:aG}(h:∀n∈w.init.count,0<=n)(t:Int):0<=aT w.init t:=by
 unfold aT;rcases LE t.toNat w.init.count.length with g|g
 .simp only[List.getD,mt g,abS];exact h _ (LT g)
 .simp[List.getD,aah g]
def qS{w:aG}{k:Nat}(j:k<w.ev.length):(w.ev.map bA.enc)[k]? =some (w.ev[k]).enc:=aj j
def Ib(w:aG)(c:aP)(t:Int)(j:Av w)(S:c.order.length<2^62)(O:∀l∈c.sync.locks,l.readers.length<2^40):aq Tryz.prog 18 [.agg w.enc,.agg c.enc,.acU t] (.bool (u9 w c t)):=by
 have B:=ku w c t j.lw S;refine NQ AV.bool λQ u=>xW _ _ _ _ _ ?_
 refine vw ?_;rcases kq w c t with⟨e,_⟩|⟨k,E,e,_⟩
 .have G:=λL=>u false L (by unfold u9;rw[e];rfl)
  rw[e]at B;rw[bj,cG]at *;clear u
  repeat' (first|refine sy ?_|refine s2 ?_ ?_|intro)
  exact G _
 .have M:=qI w.w c.sync t (w.ev[k]).kind (w.ev[k]).obj (by have:=j.con;omega) O;have Y:=oN w c t (w.ev[k]).deps j.lw (by have:=(j.evs _ (LT E)).1;omega) (j.num _ (LT E)).1 (qR j.cnt t);have D:u9 w c t=(aC w.w c.sync t (w.ev[k]).kind (w.ev[k]).obj&&eJ w c t (w.ev[k]).deps):=by unfold u9;rw[e,gq E,decide_eq_true (by omega:(0:Int)<=k),acB]
  have N:=qS E;rw[eH]at N;rw[e]at B;rw[D]at u;clear D;generalize eJ w c t (w.ev[k]).deps=f at *;generalize aC w.w c.sync t (w.ev[k]).kind (w.ev[k]).obj=b at *;have G:=λL=>u _ L rfl
  clear u;have Z:decide ((k:Int)<0)=false:=decide_eq_false acN;rw[show SyncD.enc c.sync=[.lst (c.sync.locks.map LockD.enc),.acU c.sync.tx,.lst (c.sync.done.map au),.lst (c.sync.threads.map ThrD.enc)]from rfl,show aF.enc w.w=[.lst (w.w.cells.map aU.enc),.lst (w.w.locks.map bZ.enc),.lst (w.w.conds.map cM.enc),.lst (w.w.futures.map ay),.lst (w.w.threads.map ay),.lst (w.w.sites.map cF.enc)]from rfl]at M;rw[bj,cG]at *;cases b
  all_goals
   repeat' (first|refine sy ?_|refine s2 ?_ ?_|intro)
   exact G _
def RD(w:aG)(c:aP)(t:Int)(j:Av w)(S:c.order.length<2^62)(O:∀l∈c.sync.locks,l.readers.length<2^40):aq Tryz.prog 17 [.agg w.enc,.agg c.enc,.acU t] (.bool (u9 w c t)):=by
 have B:=wP w c t j.lw S j.thr;refine NQ AV.bool λQ u=>xY _ _ _ _ _ ?_
 refine vw ?_;rcases kq w c t with⟨e,_⟩|⟨k,E,e,_⟩
 .have G:=λL=>u false L (by unfold u9;rw[e];rfl)
  rw[e]at B;rw[bj,cG]at *;clear u
  repeat' (first|refine sy ?_|refine s2 ?_ ?_|intro)
  exact G _
 .have M:=CI w.w c.sync t (w.ev[k]).kind (w.ev[k]).obj (by have:=j.con;omega) O;have Y:=Ul w c t (w.ev[k]).deps j.lw (by have:=(j.evs _ (LT E)).1;omega) (j.num _ (LT E)).1 (qR j.cnt t) j.ct;have D:u9 w c t=(aC w.w c.sync t (w.ev[k]).kind (w.ev[k]).obj&&eJ w c t (w.ev[k]).deps):=by unfold u9;rw[e,gq E,decide_eq_true (by omega:(0:Int)<=k),acB]
  have N:=qS E;rw[eH]at N;rw[e]at B;rw[D]at u;clear D;generalize eJ w c t (w.ev[k]).deps=f at *;generalize aC w.w c.sync t (w.ev[k]).kind (w.ev[k]).obj=b at *;have G:=λL=>u _ L rfl
  clear u;have Z:decide ((k:Int)<0)=false:=decide_eq_false acN;rw[show SyncD.enc c.sync=[.lst (c.sync.locks.map LockD.enc),.acU c.sync.tx,.lst (c.sync.done.map au),.lst (c.sync.threads.map ThrD.enc)]from rfl,show aF.enc w.w=[.lst (w.w.cells.map aU.enc),.lst (w.w.locks.map bZ.enc),.lst (w.w.conds.map cM.enc),.lst (w.w.futures.map ay),.lst (w.w.threads.map ay),.lst (w.w.sites.map cF.enc)]from rfl]at M;rw[bj,cG]at *;cases b
  all_goals
   repeat' (first|refine sy ?_|refine s2 ?_ ?_|intro)
   exact G _
def gZ:RF:=nv (bQ Tryz.prog Tryz.f116 [(39,⟨[1,4,5,6,7],[9],true,[]⟩),(72,⟨[1,4,10],[],true,[]⟩),(60,⟨[1,4,9],[],true,[]⟩),(9,⟨[1,4,5],[],true,[]⟩)] [(0,[1]),(4,[6]),(15,[8])])
abbrev C1(Q:R)(a:Kn):Vs->SH->Kn->Prop:=Lp gZ 18 Q 39 [a]
abbrev C2(Q:R):Vs->SH->Kn->Prop:=Lp gZ 17 Q 72 []
abbrev C3(Q:R):Vs->SH->Kn->Prop:=Lp gZ 18 Q 60 []
abbrev tK(a:AV)(L:SH)(Q:R):Prop:=Pc gZ 20 Q 0 [] [a] L
def qV(j:AV)(L:SH)(Q:R)(h:tK j L Q):ac Tryz.prog 116 [j] L Q:=
 fv gZ Tryz.func116 h
def ii:RF:=nv (bQ Tryz.prog Tryz.f95 [(54,⟨[1,8],[],true,[]⟩),(36,⟨[1,6],[],true,[]⟩),(21,⟨[1,3,5],[],true,[]⟩)] [(0,[1]),(20,[9])])
abbrev sL(Q:R):Vs->SH->Kn->Prop:=Lp ii 17 Q 54 []
abbrev uI(a:AV)(L:SH)(Q:R):Prop:=Pc ii 20 Q 0 [] [a] L
def sM(j:AV)(L:SH)(Q:R)(h:uI j L Q):ac Tryz.prog 95 [j] L Q:=
 fv ii Tryz.func95 h
def C4:RF:=nv (bQ Tryz.prog Tryz.f149 [] [])
abbrev Mq(a b:AV)(L:SH)(Q:R):Prop:=Pc C4 20 Q 0 [] [a,b] L
def Kr(u j:AV)(L:SH)(Q:R)(h:Mq u j L Q):ac Tryz.prog 149 [u,j] L Q:=
 fv C4 Tryz.func149 h
def tL:RF:=nv (bQ Tryz.prog Tryz.f170 [] [(0,[3])])
abbrev E7(a b c:AV)(L:SH)(Q:R):Prop:=Pc tL 20 Q 0 [] [a,b,c] L
def C5(B u j:AV)(L:SH)(Q:R)(h:E7 B u j L Q):ac Tryz.prog 170 [B,u,j] L Q:=
 fv tL Tryz.func170 h
def pB:RF:=nv (bQ Tryz.prog Tryz.f147 [(75070,⟨[2,3,6,108],[],true,[]⟩),(66061,⟨[2,3,6,98],[],true,[]⟩),(54049,⟨[2,3,6,78],[],true,[]⟩),(39034,⟨[2,3,6,59],[],true,[]⟩)] [(0,[2,3])])
abbrev Ay(a b:AV)(L:SH)(Q:R):Prop:=Pc pB 20 Q 0 [] [a,b] L
def yA(u j:AV)(L:SH)(Q:R)(h:Ay u j L Q):ac Tryz.prog 147 [u,j] L Q:=
 fv pB Tryz.func147 h
def tM:RF:=nv (bQ Tryz.prog Tryz.f148 [(6,⟨[0,1,5],[],true,[]⟩)] [])
abbrev E8(a b:AV)(L:SH)(Q:R):Prop:=Pc tM 20 Q 0 [] [a,b] L
def C6(u j:AV)(L:SH)(Q:R)(h:E8 u j L Q):ac Tryz.prog 148 [u,j] L Q:=
 fv tM Tryz.func148 h
def gP:RF:=nv (bQ Tryz.prog Tryz.f121 [(48,⟨[1,3,5,7,8,10,11],[15],true,[]⟩),(15,⟨[1,3,5,7,8],[],true,[]⟩)] [(0,[3,5]),(7,[9])])
abbrev jx(Q:R)(a:Kn):Vs->SH->Kn->Prop:=Lp gP 18 Q 48 [a]
abbrev sN(a b c:AV)(L:SH)(Q:R):Prop:=Pc gP 20 Q 0 [] [a,b,c] L
def qW(B u j:AV)(L:SH)(Q:R)(h:sN B u j L Q):ac Tryz.prog 121 [B,u,j] L Q:=
 fv gP Tryz.func121 h
def tN:RF:=nv (bQ Tryz.prog Tryz.f101 [(12,⟨[1,3],[],true,[]⟩)] [(0,[1])])
abbrev E9(a:AV)(L:SH)(Q:R):Prop:=Pc tN 20 Q 0 [] [a] L
def C7(j:AV)(L:SH)(Q:R)(h:E9 j L Q):ac Tryz.prog 101 [j] L Q:=
 fv tN Tryz.func101 h
section
section
variable {w:aF} {Q:R} {c:aU} {i nb bs:Nat} {n5:W.Kn} (hl:w.cells.length<=12) (h1:1<=c.size) (h4:c.size<=4) (hf:c.size<=(w.cells.length-i:Nat))
 (hno:¬CL c (w.cells.drop i)->∀L,Q (.tup [.nils,.bool false]) L) (x:AV) (L:SH)
 (hgo:CL c (w.cells.drop i)->n5 [.pptr [w.enc] 0 0,x,.acU ((i+c.size.toNat:Nat):Int)] L)
include hl h1 h4 hf hno hgo
theorem Zu:W.loop (C1 Q n5) [.pptr [w.enc] 0 0,x,.acU (i:Int),.pptr [c.enc] 0 0,.acU 0] L:=by
 obtain⟨E,S,sz,vo,u⟩:=c;dsimp only at *;obtain⟨m,rfl⟩:=Int.eq_ofNat_of_zero_le (show 0<=sz by omega);have he:aU.enc ⟨E,S,m,vo,u⟩=[.str E,.acU S,.acU (m:Int),.bool vo,.acU u]:=rfl;rw[he];refine cT m (λk=>∀j,j<k->w.cells[i+j]? =some ⟨E,j,m,false,u⟩) (λk=>[.pptr [w.enc] 0 0,x,.acU (i:Int),.pptr [[.str E,.acU S,.acU (m:Int),.bool vo,.acU u]] 0 0,.acU (k:Int)]) acN (λj h=>absurd h (Nat.not_lt_zero _)) rfl (λk h d1 hw1 O nx M=>?_) (λk h d1 O nx=>?_)
 all_goals refine vw ?_
 .have Y:IntKind.i64.wrap ((i:Int)+(k:Int))=((i+k:Nat):Int):=by rw[abg _ acN];omega
  have N:i+k<w.cells.length:=by omega
  have hx:=aj (f:=aU.enc) N;have G:w.cells[i+k]? =some w.cells[i+k]:=mt N;generalize w.cells[i+k]=c at hx G;have D:c≠⟨E,k,m,false,u⟩->∀L,Q (.tup [.nils,.bool false]) L:=λZ=>hno λhb=>by have h2:=hb.eq k (by show(k:Int)<(m:Int);omega);rw[abY,G]at h2;exact Z (Option.some.inj h2)
  have B:c=⟨E,k,m,false,u⟩->∀j,j<k+1->w.cells[i+j]? =some ⟨E,j,m,false,u⟩:=λZ j hj=>by
   rcases LE j k with g|g
   .exact O j g
   .have e:j=k:=by omega
    subst e;rw[G,Z]
  obtain⟨cn,cx,cs,cv,ci⟩:=c;unfold aU.enc at hx;dsimp only at *;rw[aU.mk.injEq]at B;rw[Ne,aU.mk.injEq]at D;clear O
  repeat' (first|refine sy ?_|refine s2 ?_ ?_|intro)
  all_goals first
   |(refine D (λh2=>?_) _;clear M hgo hno B D;simp_all;done)
   |(refine M (B ?_);clear M hgo hno B D;simp_all;done)
 .have Y:IntKind.i64.wrap ((i:Int)+(m:Int))=((i+m:Nat):Int):=by rw[abg _ acN];omega
  obtain rfl:k=m:=by omega
  repeat' (first|refine sy ?_|refine s2 ?_ ?_|intro)
  exact hgo ⟨h1,h4,by rw[acH];exact hf,λj hj=>by rw[abY];exact O j (by simpa using hj)⟩
end
section
variable {w:aF} {Q:R} (hc12:w.cells.length<=12) (h4:w.locks.length<=4) (h2:w.conds.length<=2) (hf2:w.futures.length<=2) (ht4:w.threads.length<=4)
include h4 h2 hf2 ht4
theorem Zv{u:List bU}(hns:u.length<=12)(hq:∀L v,Fz L v (.lst ((iP w u).map ay))->Q (.tup [v,.bool true]) L){vs:List AV}{L:SH}(o:Option Nat)(G:o=none->u++w.locks.map bZ.name=[])(Y:ax vs L [.pptr [w.enc] 0 0,af o (u++w.locks.map bZ.name).length,.acU 0] (ab o 1 ((u++w.locks.map bZ.name).map ay))):W.loop (C2 Q) vs L:=by
 obtain⟨S,O⟩:∃S:Nat->List bU,S=λi=>u++w.locks.map bZ.name++(w.conds.take i).map cM.name:=⟨_,rfl⟩
 have N:S 0=u++w.locks.map bZ.name:=by subst O;simp
 have D:S w.conds.length++w.futures++w.threads=iP w u:=by subst O;simp[iP]
 have B:∀i (h:i<w.conds.length),S (i+1)=S i++[w.conds[i].name]:=λi h=>by subst O;simp only[Fn h,ST,abr,aai,abF]
 have M:∀i,(S i).length<=18:=λi=>by subst O;rw[aal,aal,acl,acl,abm];omega
 rw[<-N]at Y G;clear N O;refine HZ (α:=Nat×Option Nat) (λa=>([.pptr [w.enc] 0 0,af a.2 (S a.1).length,.acU (a.1:Int)],ab a.2 1 ((S a.1).map ay))) (λa=>w.conds.length-a.1) (λa=>a.1<=w.conds.length/\(a.2=none->S a.1=[])) (0,o) ⟨Nat.zero_le _,G⟩ Y ?_;rintro⟨i,o⟩ ⟨hi,G⟩ nx hnx;refine vw ?_;dsimp only at *;have hA:=M i;rcases Nat.lt_or_ge i w.conds.length with h|h
 .have d1:decide ((i:Int)<(w.conds.length:Int))=true:=aS h;have hw1:IntKind.i64.wrap ((i:Int)+1)=((i+1:Nat):Int):=av h acN;have hx:=aj (f:=cM.enc) h;have hgo:∀j L',cO L' [(j,⟨1,(S i).map ay++[[.str w.conds[i].name]]⟩)]->nx [.pptr [w.enc] 0 0,.sl j 0 ((S i).length+1),.acU ((i+1:Nat):Int)] L':=λj L' h3=>
   hnx (i+1,some j) ⟨h,nofun⟩ (by dsimp only;omega) _ _ (ax.pickE h3 (by simp[af,B i h]) (by simp[ab,ay,B i h]))
  clear hnx B D M Y;generalize w.conds[i]=c at *;generalize S i=C at *;obtain⟨nm,mx⟩:=c;unfold cM.enc at hx;dsimp only at *
  repeat' (first|refine sy ?_|refine aM mm rp acQ (λe=>by simp[G e]) acP acQ acS acS acP (λj hnb_=>?_)|refine s2 ?_ ?_|intro)
  exact hgo _ _ rp
 .have d1:decide ((i:Int)<(w.conds.length:Int))=false:=aW h;obtain rfl:i=w.conds.length:=by omega
  repeat' (first|refine sy ?_|refine s2 ?_ ?_|intro)
  refine CC rp (λ_=>rfl) acQ (λe=>by simp[G e]) acN acN (λ_=>rfl) (λo1 Z=>?_)
  repeat' (first|refine sy ?_|refine s2 ?_ ?_|intro)
  refine CC rp (λ_=>rfl) acQ (λe=>Z e) acN acN (λ_=>rfl) (λo2 E=>?_);have e1:(S w.conds.length).map ay++w.futures.map ay++w.threads.map ay=(iP w u).map ay:=by rw[<-D];simp
  have e2:(S w.conds.length).length+w.futures.length+w.threads.length=(iP w u).length:=by rw[<-D];simp;omega
  rw[e1]at E ⊢;rw[e2,aby];exact hq _ _ (Fz.slot rfl E acR (λ_ _=>rfl) λ_ _ q a a2 h1 h2=>by rw[h1]at h2;cases h2;exact .refl _)
theorem Zw{u:List bU}(Z:u.length<=12)(hq:∀L v,Fz L v (.lst ((iP w u).map ay))->Q (.tup [v,.bool true]) L){vs:List AV}{L:SH}(o:Option Nat)(B:o=none->u=[])(G:ax vs L [.pptr [w.enc] 0 0,af o u.length,.acU 0] (ab o 1 (u.map ay))):W.loop (C3 Q) vs L:=by
 have D:=λvs L o B G=>Zv h4 h2 hf2 ht4 Z hq (vs:=vs) (L:=L) o B G
 obtain⟨S,Y⟩:∃S:Nat->List bU,S=λi=>u++(w.locks.take i).map bZ.name:=⟨_,rfl⟩
 have O:S 0=u:=by subst Y;simp
 have N:S w.locks.length=u++w.locks.map bZ.name:=by subst Y;simp
 have E:∀i (h:i<w.locks.length),S (i+1)=S i++[w.locks[i].name]:=λi h=>by subst Y;simp only[Fn h,ST,abr,aai,abF]
 have M:∀i,(S i).length<=18:=λi=>by subst Y;rw[aal,acl,abm];omega
 rw[<-N]at D;rw[<-O]at G B;clear O Y hq;refine HZ (α:=Nat×Option Nat) (λa=>([.pptr [w.enc] 0 0,af a.2 (S a.1).length,.acU (a.1:Int)],ab a.2 1 ((S a.1).map ay))) (λa=>w.locks.length-a.1) (λa=>a.1<=w.locks.length/\(a.2=none->S a.1=[])) (0,o) ⟨Nat.zero_le _,B⟩ G ?_;rintro⟨i,o⟩ ⟨hi,B⟩ nx hnx;refine vw ?_;dsimp only at *;have hA:=M i;rcases Nat.lt_or_ge i w.locks.length with h|h
 .have d1:decide ((i:Int)<(w.locks.length:Int))=true:=aS h;have hw1:IntKind.i64.wrap ((i:Int)+1)=((i+1:Nat):Int):=av h acN;have hx:=aj (f:=bZ.enc) h;have hgo:∀j L',cO L' [(j,⟨1,(S i).map ay++[[.str w.locks[i].name]]⟩)]->nx [.pptr [w.enc] 0 0,.sl j 0 ((S i).length+1),.acU ((i+1:Nat):Int)] L':=λj L' h3=>
   hnx (i+1,some j) ⟨h,nofun⟩ (by dsimp only;omega) _ _ (ax.pickE h3 (by simp[af,E i h]) (by simp[ab,ay,E i h]))
  clear hnx E N M G D;generalize w.locks[i]=c at *;generalize S i=C at *;obtain⟨nm,mx⟩:=c;unfold bZ.enc at hx;dsimp only at *
  repeat' (first|refine sy ?_|refine aM mm rp acQ (λe=>by simp[B e]) acP acQ acS acS acP (λj hnb_=>?_)|refine s2 ?_ ?_|intro)
  exact hgo _ _ rp
 .have d1:decide ((i:Int)<(w.locks.length:Int))=false:=aW h;obtain rfl:i=w.locks.length:=by omega
  repeat' (first|refine sy ?_|refine s2 ?_ ?_|intro)
  exact D _ _ o B (.refl _ _)
include hc12
theorem Zx(hy:∀G L v,fo w.cells G->Fz L v (.lst ((iP w G).map ay))->Q (.tup [v,.bool true]) L)(hn:(∀G,¬fo w.cells G)->∀L,Q (.tup [.nils,.bool false]) L):tK (.agg w.enc) [] Q:=by
  refine vw ?_
  repeat' (first|refine sx ?_|refine sb λu M=>?_|refine s2 (λh=>?_) λh=>?_|fail)
  refine HZ (α:=Nat×List bU×Option Nat) (λa=>([.pptr [w.enc] 0 0,af a.2.2 a.2.1.length,.acU (a.1:Int)],ab a.2.2 1 (a.2.1.map ay))) (λa=>w.cells.length-a.1) (λa=>iO w.cells a.1 a.2.1/\(a.2.2=none->a.2.1=[])) (0,[],none) ⟨.zero _,λ_=>rfl⟩ (ax.drop (K:=[]) (.refl _) rfl ((fy.cons (.refl _) (.cons .nile (.cons (.refl _) .nil))).at_.2)) ?_;rintro⟨i,B,o⟩ ⟨O,ho⟩ nx hnx;refine vw ?_;dsimp only at *;have hva:=O.2.1;have hva2:=O.1;rcases Nat.lt_or_ge i w.cells.length with h|h
  · have hx:=aj (f:=aU.enc) h
    have d1:decide ((i:Int)<(w.cells.length:Int))=true:=aS h;have hw1:IntKind.i64.wrap ((i:Int)+1)=((i+1:Nat):Int):=av h acN;have hw2:IntKind.i64.wrap ((w.cells.length:Int)-(i:Int))=((w.cells.length-i:Nat):Int):=by rw[abg _ acN];omega
    have Z:w.cells[i].size=0->w.cells[i].index≠0->∀G,¬fo w.cells G:=O.no1 h;have Y:w.cells[i].size=0->w.cells[i].index=0->iO w.cells (i+1) (B++[w.cells[i].name]):=O.step h;have D:w.cells[i].size≠0->¬CL w.cells[i] (w.cells.drop i)->∀G,¬fo w.cells G:=O.no2 h;have S:w.cells[i].size≠0->CL w.cells[i] (w.cells.drop i)->iO w.cells (i+w.cells[i].size.toNat) (B++[w.cells[i].name]):=O.jump h;have hgo:∀j u L',iO w.cells j (B++[w.cells[i].name])->i<j->cO L' [(u,⟨1,B.map ay++[[.str w.cells[i].name]]⟩)]->nx [.pptr [w.enc] 0 0,.sl u 0 (B.length+1),.acU (j:Int)] L':=λj u L' h1 h2 h3=>
      hnx (j,B++[w.cells[i].name],some u) ⟨h1,nofun⟩ (by have:=h1.1;dsimp only;omega) _ _ (ax.pickE h3 (by simp[af]) (by simp[ab,ay]))
    clear hnx O;have E:=λh1 h4' hf hno x L hgo=>Zu (Q:=Q) (n5:=nx) (c:=w.cells[i]'h) (i:=i) hc12 h1 h4' hf hno x L hgo
    generalize w.cells[i]=c at *;obtain⟨nm,ix,sz,vo,ini⟩:=c;have he:aU.enc ⟨nm,ix,sz,vo,ini⟩=[.str nm,.acU ix,.acU sz,.bool vo,.acU ini]:=rfl;rw[he]at hx E;clear he;dsimp only at *
    repeat' (first|refine sx ?_|refine aM mm rp acQ (λe=>by simp[ho e]) acP acQ acS acS acP (λu M=>?_)|refine sb λu M=>?_|refine s2 (λh=>?_) λh=>?_|fail)
    all_goals first
      |exact hn (Z (of_decide_eq_true acO) (of_decide_eq_true acO)) _
      |(refine hgo (i+1) _ _ (Y (of_decide_eq_true acO) ?_) (Nat.lt_succ_self _) rp;clear E hgo hn hy Z Y D S;simp only[ne_eq,decide_eq_false_iff_not,Decidable.not_not]at *;assumption)
      | (refine hn (D (of_decide_eq_false acO) fun N => ?_) _
         have hb1:=N.lo;have hb2:=N.hi;have hb3:=N.fits
         rw[List.length_drop]at hb3;clear E hgo hn hy Z Y D S N;dsimp only at hb1 hb2 hb3
         (simp only[decide_eq_true_eq,decide_eq_false_iff_not]at *;omega))
      |skip
    rename_i g1 g2 g3;simp only[decide_eq_false_iff_not]at g1 g2 g3 h;exact E acN acN acN (λN=>hn (D acN N)) _ _ (λN=>hgo _ _ _ (S acN N) acN rp)
  · have d1:decide ((i:Int)<(w.cells.length:Int))=false:=aW h
    have hv:=O.done h
    repeat' (first|refine sy ?_|refine s2 ?_ ?_|intro)
    exact Zw h4 h2 hf2 ht4 acN (λL v hf=>hy B L v hv hf) o ho (.refl _ _)
end
theorem Pk{w:aF}(hc12:w.cells.length<=12)(h4:w.locks.length<=4)(h2:w.conds.length<=2)(hf2:w.futures.length<=2)(ht4:w.threads.length<=4){j:List bU}(h:fo w.cells j):aq Tryz.prog 116 [.agg w.enc] (.tup [.lst ((iP w j).map ay),.bool true]):=
 ac.fz (qV _ _ _ (Zx hc12 h4 h2 hf2 ht4 (λu L v h1 h2=>⟨_,[],ax.all (.tups (.cons h2 (.cons (.refl _) .nil))),by rw[h.uniq h1],rfl⟩) λh2=>absurd h (h2 j)))
theorem RE{w:aF}(hc12:w.cells.length<=12)(h4:w.locks.length<=4)(h2:w.conds.length<=2)(hf2:w.futures.length<=2)(ht4:w.threads.length<=4)(h:∀u,¬fo w.cells u):aq Tryz.prog 116 [.agg w.enc] (.tup [.nils,.bool false]):=
 ac.fz (qV _ _ _ (Zx hc12 h4 h2 hf2 ht4 (λj L v h1 h2=>absurd h1 (h j)) λ_ L=>⟨_,[],ax.all (.refl _),rfl,rfl⟩))
end
def jV:RF:=nv (bQ Tryz.prog Tryz.f11 [] [(0,[2]),(3,[5])])
abbrev sX(a b:AV)(L:SH)(Q:R):Prop:=Pc jV 20 Q 0 [] [a,b] L
def gx(u j:AV)(L:SH)(Q:R)(h:sX u j L Q):ac Tryz.prog 11 [u,j] L Q:=
 fv jV Tryz.func11 h
section
open Go.ChangeShapes Go.WideShapes Go.ChangeAt Go.RowKit
def Lu:bO:=⟨λ_=>none,λ_=>False⟩
def Nf:Nat->Prop:=λ_=>False
def Wi{α:Type}(e:α->List AV)(G:α->Prop):Rel α:=λw _ x cs=>G x/\fX w Lu Nf (e x) cs
theorem fw{w:World}{σ:bO}{T:Nat->Prop}{a:AV}{v:Value}(h:bC w σ T a v):fX w σ T [a] [v]:=⟨rfl,λi x u j B=>by
 match i with
 |0=>cases j;cases B;exact h
 |i+1=>simp at j⟩
theorem bL{w:World}{σ:bO}{T:Nat->Prop}{a:AV}{v:Value}{l:List AV}{m:List Value}(h:fX w σ T [a] [v])(j:fX w σ T l m):fX w σ T (a::l) (v::m):=⟨by simp[j.1],λi x u D B=>by
 match i with
 |0=>exact h.2 0 x u D B
 |i+1=>exact j.2 i x u (by simpa using D) (by simpa using B)⟩
theorem hD{w:World}{σ:bO}{T:Nat->Prop}:fX w σ T [] []:=⟨rfl,λi x u j B=>by simp at j⟩
section
variable {H:Type} {enc:TypeId×Value->H} {P:Program} {w:World} {base:Nat} {spare:Nat->Bool} {held:Bool}
theorem zj{t:TypeId}{k:IntKind}(ht:P.underlying t=some (.int k)):Opens H enc P w base spare held t (Wi (λn:Int=>[.int k n]) λn=>(Lit.int k n).wf=true):=λj B x h=>by obtain⟨n,rfl,u⟩:=opens_int ht j B x h;exact⟨n,u,fw (.int k n)⟩
theorem Ed{α:Type}{t e:TypeId}{size:Nat}{f:α->List AV}{G:α->Prop}(ht:P.underlying t=some (.slice e))(hc:P.cellsOf e=size)(hs:0<size)(he:Opens H enc P w base spare held e (Wi f G)):
  Opens H enc P w base spare held t (Wi (λl:List α=>[.lst (l.map f)]) λl=>l.length<=maxLen/\∀x∈l,G x):=λS cs x h=>by
 obtain⟨l,A,c,rfl,h1,h2,h3⟩:=opens_slice ht hc hs he S cs x h;refine⟨l,⟨acN,λx M=>?_⟩,fw ?_⟩
 .obtain⟨i,hi,rfl⟩:=abC M;obtain⟨b,o,_,_,B⟩:=h3 acN;obtain⟨E,_,hR,_⟩:=B i l[i] (mt hi);exact hR.1
 .rcases abZ l.length with Y|Y
  .have:l=[]:=abU.1 Y;subst this;exact .lst0 A c h2
  .obtain⟨b,o,rfl,hb,B⟩:=h3 Y;have:=bC.lst (w:=w) (σ:=Lu) (T:=Nf) (l.map f) b o size c ⟨λh=>h,λi r D=>?_,λi j hi hj=>?_,hs,by simpa using Y⟩ (by simpa using h1) h2 (λi r j a u D ha hu=>?_)
   .simpa using this
   .rw[abn]at D;cases M:l[i]? with
    |none=>rw[M]at D;cases D
    |some y=>rw[M]at D;cases D;obtain⟨E,k1,N,_⟩:=B i y M;rw[N.2.1,k1]
   .have hi':i<l.length:=by simpa using hi
    obtain⟨E,k1,N,Z⟩:=B i l[i] (mt hi');exact⟨E[j],Z j _ (mt acN)⟩
   .rw[abn]at D;cases M:l[i]? with
    |none=>rw[M]at D;cases D
    |some y=>
     rw[M]at D;cases D;obtain⟨E,k1,N,Z⟩:=B i y M;have hj:j<E.length:=by rw[<-N.2.1];exact aH ha
     have O:=Z j _ (mt hj);rw[hu]at O;cases O;exact N.2.2 j a _ ha (mt hj)
theorem Lv{t:TypeId}{N:Array Field}(j:List TypeId){D:Nat}{cs:List Value}{x:DataW H×List MemPlace}(ht:P.underlying t=some (.struct N))(h:DataW.trod enc P w base spare held D t cs=some x)
  (Z:N.toList.map (λf=>(f.type,f.offset))=j.zipIdx) (M:j.all (λty=>P.cellsOf ty==1)=true) (S:P.cellsOf t=j.length) :
  cs.length=j.length/\∀(i:Nat) (ty:TypeId),j[i]? =some ty->∃c m y,cs[i]? =some c/\DataW.trod enc P w base spare held m ty [c]=some y:=by
 obtain⟨G,B⟩:=opens_fields ht h;rw[S]at G;refine⟨G,λi ty E=>?_⟩;have Y:=aH E;have u:i<cs.length:=by omega
 obtain⟨m,y,O⟩:=B i ty i 1 [cs[i]] (by
  have:=congrArg (λl=>l[i]?) Z;simp only[abn,List.getElem?_zipIdx,E,abv]at this;simpa using this) (by rw[abh]at M;simpa using M ty (abN E)) (by rw[ack u];rfl)
 exact⟨cs[i],m,y,mt u,O⟩
end
theorem iv{P:Program}{f:FuncId}{args:List AV}{vs:List Value}(h:aq P f args (.bool true))(w:World)(O:fX w Lu Nf args vs)(hG:kC w Nf:=by exact λg r h=>by cases h):Calls P f vs.toArray w λe w'=>e=.returned (.bool true)/\Below w.heap.size w w':=by
 obtain⟨v,H',L',h1,h2,rfl,rfl⟩:=h.2 ah.empty (λb _=>cS b) ⟨List.nodup_nil,λp hp=>by simp at hp⟩;have j:aX Lu ah.empty=Nf:=by
  funext c;apply propext;constructor
  .rintro(h|⟨b,x,D,E,_,_⟩)
   .exact h
   .rw[cS]at E;cases E
  .exact λh=>h.elim
 have Z:bJ w Lu ah.empty:=⟨λb D u=>(by cases u),λb D u=>(by cases u),λb x u=>(by rw[cS]at u;cases u),λc Y=>Y.elim,λb b' x x' D M u=>(by rw[cS]at u;cases u),by rw[j];exact hG⟩;refine(h1 w Lu vs Z (by rw[j];exact O)).mono ?_;rintro e w' ⟨v',G,rfl,N,k2,B,_⟩;cases N;rw[j]at B;exact⟨rfl,B.os,B.tape,B.output,B.size,λk S=>B.keep k S λh=>h⟩
end
section
def Qk(n:Int):List AV:=[.int .u8 n]
section
variable {Q:R} {n:Nat} {ins:List cb} {regs taint:List Int} {b2 bp bR bT:Nat} {pc:Int}
end
end
