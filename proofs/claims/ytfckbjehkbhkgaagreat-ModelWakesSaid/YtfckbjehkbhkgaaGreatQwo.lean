/- part -/
import Derived.Test.YtfckbjehkbhkgaaGreatQwk
import Derived.Test.YtfckbjehkbhkgaaGreatQwn
import Derived.WalkSpells
import Derived.Deep.DeepMust
set_option linter.all false
set_option maxRecDepth 100000
set_option maxHeartbeats 0
namespace Go.Proofs.YtfckbjehkbhkgaaGreat.Am
def nA{c:bP}(h:lx c)(B:∀t∈c.ts,t.ins.length<2^40):N1 c where
 ins:=λx u i G=>by obtain⟨k,D,rfl⟩:=List.mem_iff_getElem.1 u;obtain⟨j,E,rfl⟩:=List.mem_iff_getElem.1 G;have:=(h.thr k D).ins j E;exact⟨this.lo,this.hi,this.regs⟩
 len:=B
 con:=by have:=h.world.d2;omega
def Kj{c:bP}(h:lx c):∀t∈c.ts,0<=t.regs/\t.regs<=1000:=λt j=>by obtain⟨k,u,rfl⟩:=List.mem_iff_getElem.1 j;have:=h.thr k u;have D:=this.r0;have B:=this.r32;exact⟨D,acN⟩
def A4{c:bP}(h:lx c):pR c 0 (du c):=by
 have j:=h.world;refine⟨λx B=>?_,?_,?_,λl u=>?_,?_,?_,?_,?_⟩
 .obtain⟨t,D,rfl⟩:=abP.1 B;have:=Kj h t D;exact⟨⟨acQ,acS,λl u=>by rw[(List.mem_replicate.1 u).2];simp,λl u x B=>by rw[(List.mem_replicate.1 u).2]at B;simp at B⟩,Int.le_refl _,Int.le_refl _,acS⟩
 .have:=h.len;have:=j.t4;simp[du];omega
 .have:=j.l4;simp[du,bM];omega
 .have:=(List.mem_replicate.1 u).2;rw[this];simp
 .have:=j.f2;simp[du,bM];omega
 .have:=j.t4;simp[du,bM];omega
 .have:=j.c12;simp[du];omega
 .have:=j.f2;simp[du];omega
structure el where
 w:aF
 ev:List bA
def el.enc(t:el):List AV:=[.lst (t.w.cells.map aU.enc),.lst (t.w.locks.map bZ.enc),.lst (t.w.conds.map cM.enc),.lst (t.w.futures.map ay),.lst (t.w.threads.map ay),.lst (t.w.sites.map cF.enc),.lst (t.ev.map bA.enc)]
noncomputable def wM (c:bP) (l:List aD):el×eE:=if lu (lx c)then(⟨c.w,(lS c l).1⟩,(lS c l).2)else(⟨⟨[],[],[],[],[],[]⟩,[]⟩,eE.zero)
def wO(e:bA):Prop:=e.deps.length<=2^30/\e.frm.length<=2^30
def Mo{i:cb}{s:bI}{t:Int}(h:∀r,(s.tnt r).length<=2^30):wO (fN i s t):=by
 unfold fN wO;dsimp only
 repeat' split
 all_goals first
  |exact⟨abt _,abt _⟩
  |exact⟨h _,abt _⟩
  |exact⟨abt _,h _⟩
  |exact⟨h _,h _⟩
def Pf{U:List Int}{s:bI}(h:j8 U s)(r:Int):(s.tnt r).length<=2^30:=by
 unfold bI.tnt;rcases LE r.toNat s.taint.length with j|j
 .simpa[j]using h.short _ (LT j)
 .simp[List.getD,aah j]
def Mp{c:bP}{s:eE}{t:Int}{e:bA}{n:Nat}(H:pR c n s)(h:eI c s t=some e):wO e:=by
 unfold eI at h;split at h
 .rename_i u;have B:aI s t∈s.threads:=j9 (d:=bI.zero) (gk u).2.1;have j:=λr=>Pf (H.thr _ B).1 r
  dsimp only at h;split at h
  .cases h;exact⟨abt _,abt _⟩
  .split at h
   .cases h;exact⟨abt _,abt _⟩
   .split at h
    .split at h
     .cases h;exact Mo j
     .cases h
    .cases h
 .cases h
def RA{c:bP}{p:List bA×eE}{ch:aD}(H:pR c p.1.length p.2)(h:∀e∈p.1,wO e):∀e∈(IU c p ch).1,wO e:=by
 unfold IU;split
 .exact h
 .split
  .exact h
  .rename_i n e u;intro x j;rcases aak.1 j with j|j
   .exact h x j
   .rw[aag.1 j];obtain⟨D,B,hp,_,_,_,_,_,rfl⟩:=CP u;have u:=Mp H hp;exact u
def Pg{c:bP}(B:N1 c)(l:List aD){p:List bA×eE}(H:pR c p.1.length p.2)(u:p.1.length<=400)(h:∀e∈p.1,wO e):∀e∈(gV c l p).1,wO e:=by
 induction l generalizing p with
 |nil=>exact h
 |cons ch l j=>obtain⟨a,b⟩:=H4 (ch:=ch) B H u;exact j a b (RA H h)
def H5{c:bP}(h:lx c)(j:∀t∈c.ts,t.ins.length<2^40)(l:List aD):(∀e∈(lS c l).1,wO e)/\(lS c l).1.length<=400:=
 ⟨Pg (nA h j) l (A4 h) (abt _) nofun,(N2 (nA h j) l (p:=([],du c)) (A4 h) (abt _)).2⟩
def Ph(c:bP)(j:∀t∈c.ts,t.ins.length<2^40)(l:List aD):(∀e∈(wM c l).1.ev,wO e)/\(wM c l).1.ev.length<=400:=by
 unfold wM;cases u:lu (lx c)with
 |true=>exact H5 (iH.1 u) j l
 |false=>exact⟨nofun,abt _⟩
structure gO where
 sync:SyncD
 cells:List Int
 futures:List Int
 count:List Int
def gO.enc(s:gO):List AV:=[.lst (s.sync.locks.map LockD.enc),.acU s.sync.tx,.lst (s.sync.done.map au),.lst (s.sync.threads.map ThrD.enc),.lst (s.cells.map aa),.lst (s.futures.map aa),.lst (s.count.map aa)]
def gO.zero:gO:=⟨Gl,[],[],[]⟩
structure aG where
 w:aF
 start:Int
 init:gO
 ev:List bA
def aG.enc(w:aG):List AV:=[.lst (w.w.cells.map aU.enc),.lst (w.w.locks.map bZ.enc),.lst (w.w.conds.map cM.enc),.lst (w.w.futures.map ay),.lst (w.w.threads.map ay),.lst (w.w.sites.map cF.enc),.acU w.start,.lst (w.init.sync.locks.map LockD.enc),.acU w.init.sync.tx,.lst (w.init.sync.done.map au),.lst (w.init.sync.threads.map ThrD.enc),.lst (w.init.cells.map aa),.lst (w.init.futures.map aa),.lst (w.init.count.map aa),.lst (w.ev.map bA.enc)]
structure eu where
 value:Int
 known:Bool
 deriving Inhabited
def eu.enc(c:eu):List AV:=[.acU c.value,.bool c.known]
structure aP where
 sync:SyncD
 cells:List eu
 futures:List eu
 order:List Int
 fixed:List Bool
 woke:List Int
def aP.enc(s:aP):List AV:=[.lst (s.sync.locks.map LockD.enc),.acU s.sync.tx,.lst (s.sync.done.map au),.lst (s.sync.threads.map ThrD.enc),.lst (s.cells.map eu.enc),.lst (s.futures.map eu.enc),.lst (s.order.map aa),.lst (s.fixed.map au),.lst (s.woke.map aa)]
def aP.zero:aP:=⟨Gl,[],[],[],[],[]⟩
def qN(l:List Int)(n:Int):Prop:=∀i (h:i<l.length),1<=l[i]/\l[i]<n/\(0<i->l.getD (i-1) 0<l[i])
def jw(s:SyncD)(c:Int):List Int:=(aJ s.threads c s.threads.length).map λi:Nat=>(i:Int)
def H6(s:gO)(e:bA):Bool:=
 if e.kind=3 then decide (e.value=oL s.cells e.obj)
 else if e.kind=23 then decide (e.value=oL s.futures e.obj)
 else if e.kind=5 then decide (e.value=0)||decide (e.value=1)
 else if e.kind=4\/e.kind=22 then true
 else if e.kind=18 then(if jw s.sync e.obj=[]then decide (e.value=-1)else inB e.value s.sync.threads.length&&(jw s.sync e.obj).contains e.value)
 else if e.kind=19 then decide (e.value=(jw s.sync e.obj).length)
 else decide (e.value=0)
def nB(w:aF)(s:gO):Bool:=fitsS w s.sync&&decide (s.cells.length=w.cells.length)&&decide (s.futures.length=w.futures.length)&&decide (s.count.length=w.threads.length)
def aT(s:gO)(t:Int):Int:=s.count.getD t.toNat 0
def Uh(w:aF)(e:bA):Bool:=if e.kind=1\/e.kind=2 then decide (e.site=-1)else inB e.site w.sites.length&&decide ((w.sites.getD e.site.toNat default).thread=e.thread)
def Ui(w:aF)(e:bA):Bool:=decide (e.deps=[])||decide (e.kind=5)||(decide (e.kind=3\/e.kind=4)&&decide ((w.cells.getD e.obj.toNat default).size≠0))
def Uj(e:bA):Bool:=decide (e.frm=[])||decide (e.kind=4)||decide (e.kind=22)
noncomputable def H7 (w:aF) (s:gO) (e:bA):Bool:=
 nB w s&&inB e.thread w.threads.length&&decide (1<=e.kind)&&decide (e.kind<=23)&&aC w s.sync e.thread e.kind e.obj&&Uh w e&&Ui w e&&Uj e&&lu (qN e.deps (aT s e.thread))&&lu (qN e.frm (aT s e.thread))&&H6 s e
def gW(w:aF)(s:gO)(e:bA):gO:=
 ⟨(dx w s.sync e.thread e.kind e.obj (if e.kind=18 then e.value else -1)).1,if e.kind=4 then s.cells.set e.obj.toNat e.value else s.cells,if e.kind=22 then s.futures.set e.obj.toNat e.value else s.futures,s.count.set e.thread.toNat (IntKind.i64.wrap (aT s e.thread+1))⟩
noncomputable def px (w:aF) (s:gO) (e:bA):Option gO:=if H7 w s e then some (gW w s e)else none
def bG(w:aF):gO:=⟨bM w,w.cells.map aU.init,List.replicate w.futures.length 0,List.replicate w.threads.length 0⟩
def jQ(w:aF):gO->List bA->Prop
 |_,[]=>True
 |s,e::l=>H7 w s e=true/\jQ w (gW w s e) l
def cf(w:aF):gO->List bA->gO
 |s,[]=>s
 |s,e::l=>cf w (gW w s e) l
def cg(ev:List bA)(t:Int):Nat->List Int
 |0=>[]
 |k+1=>if(ev.getD k ⟨0,0,0,0,0,[],[]⟩).thread=t then cg ev t k++[(k:Int)]else cg ev t k
def eC(w:aG)(t:Int):List Int:=cg w.ev t w.ev.length
def ep(w:aG)(t k:Int):Int:=if inB k (eC w t).length then(eC w t).getD k.toNat 0 else -1
def jA(w:aG)(k:Int):bA:=w.ev.getD k.toNat ⟨0,0,0,0,0,[],[]⟩
def H8(ord:List Int)(t:Int):List bA->Nat->Int
 |[],_=>-1
 |e::l,i=>if e.thread=t/\ord.contains (i:Int)=false then(i:Int)else H8 ord t l (i+1)
def dK(w:aG)(c:aP)(t:Int):Int:=H8 c.order t w.ev 0
def pS(w:aG)(c:aP)(t n:Int):Bool:=decide (n<aT w.init t)||(inB (ep w t (n-aT w.init t)) c.fixed.length&&c.fixed.getD (ep w t (n-aT w.init t)).toNat false)
def eJ(w:aG)(c:aP)(t:Int)(l:List Int):Bool:=if inB t w.init.count.length then l.all (pS w c t)else l.isEmpty
def u9(w:aG)(c:aP)(t:Int):Bool:=decide (0<=dK w c t)&&(aC w.w c.sync t (jA w (dK w c t)).kind (jA w (dK w c t)).obj&&eJ w c t (jA w (dK w c t)).deps)
def qO(l:List eu)(o:Int):eu:=l.getD o.toNat default
def Kk(c:eu)(v:Int):Bool:=c.known&&decide (c.value=v)
def uG(w:aG)(c:aP)(t k:Int)(e:bA)(wake:Int):aP:=
 let r:=dx w.w c.sync t e.kind e.obj wake
 let x:eu:=if eJ w c t e.frm then⟨e.value,true⟩else⟨0,false⟩
 ⟨r.1,if e.kind=4 then c.cells.set e.obj.toNat x else c.cells,if e.kind=22 then c.futures.set e.obj.toNat x else c.futures,c.order++[k],
  if e.kind=3 then c.fixed.set k.toNat (Kk (qO c.cells e.obj) e.value)else if e.kind=23 then c.fixed.set k.toNat (Kk (qO c.futures e.obj) e.value)else c.fixed,
  if e.kind=18 then(if 0<=r.2.1 then c.woke.set k.toNat 1 else c.woke)else if e.kind=19 then c.woke.set k.toNat r.2.1 else c.woke⟩
def c8(w:aG)(c:aP)(t wake:Int):Option aP:=if u9 w c t then some (uG w c t (dK w c t) (jA w (dK w c t)) wake)else none
def bN(w:aG):aP:=⟨w.init.sync,w.init.cells.map λv=>⟨v,true⟩,w.init.futures.map λv=>⟨v,true⟩,[],List.replicate w.ev.length false,List.replicate w.ev.length 0⟩
def RdC(w:aG):Prop:=∀(k:Nat) (hk:k<w.ev.length) (d:Int),d∈w.ev[k].deps\/d∈w.ev[k].frm->aT w.init w.ev[k].thread<=d->
 (jA w (ep w w.ev[k].thread (d-aT w.init w.ev[k].thread))).kind=3\/(jA w (ep w w.ev[k].thread (d-aT w.init w.ev[k].thread))).kind=23
structure eT(w:aG):Prop where
 world:oK w.w
 fit:nB w.w w.init=true
 len:w.ev.length<=400
 cnt:∀n∈w.init.count,0<=n/\n<=400
 rd:∀l∈w.init.sync.locks,l.readers.length<=400
 play:jQ w.w w.init w.ev
 evs:∀e∈w.ev,wO e
 rds:RdC w
structure jK(w:aG)(c:aP):Prop where
 fit:fitsS w.w c.sync=true
 cells:c.cells.length=w.w.cells.length
 futures:c.futures.length=w.w.futures.length
 fixed:c.fixed.length=w.ev.length
 woke:c.woke.length=w.ev.length
 ord:∀k∈c.order,0<=k/\k<w.ev.length
 nodup:c.order.Nodup
 rd:∀l∈c.sync.locks,l.readers.length<=400+c.order.length
def H9{n:Int}(u:0<=n)(j:n<2^62):IntKind.i64.wrap n=n:=abg _ acN
def fJ{l:List Int}{x:Int}:l.contains x=true↔x∈l:=by simp
def gp{l:List Int}{x:Int}:l.contains x=false↔x∉l:=by rw[<-Bool.not_eq_true,fJ]
def rU{ev:List bA}{t x:Int}:∀{k:Nat},x∈cg ev t k↔∃i:Nat,i<k/\x=(i:Int)/\(ev.getD i ⟨0,0,0,0,0,[],[]⟩).thread=t
 |0=>by simp[cg]
 | k+1=>by
  unfold cg;split
  .rename_i h;rw[aak,rU,aag];constructor
   .rintro(⟨i,u,h2⟩|rfl)
    .exact⟨i,acN,h2⟩
    .exact⟨k,acN,rfl,h⟩
   .rintro⟨i,u,rfl,j⟩;rcases LE i k with g|g
    .exact .inl ⟨i,g,rfl,j⟩
    .obtain rfl:i=k:=by omega
     exact .inr rfl
  .rename_i h;rw[rU];constructor
   .rintro⟨i,u,h2⟩;exact⟨i,acN,h2⟩
   .rintro⟨i,u,h2,j⟩;rcases LE i k with g|g
    .exact⟨i,g,h2,j⟩
    .obtain rfl:i=k:=by omega
     exact absurd j h
def ka(ev:List bA)(t:Int):∀k,(cg ev t k).length<=k
 |0=>Fd _
 | k+1=>by
  have:=ka ev t k;unfold cg;split
  .simp;omega
  .omega
def gq{w:aG}{k:Nat}(h:k<w.ev.length):jA w k=w.ev[k]:=by simp[jA,h]
def yx{w:aG}{t x:Int}(h:x∈eC w t):0<=x/\x<w.ev.length/\(jA w x).thread=t:=by obtain⟨i,u,rfl,j⟩:=rU.1 h;exact⟨acN,acN,j⟩
def Kl{w:aG}{t k:Int}:(0<=ep w t k/\ep w t k∈eC w t)\/ep w t k=-1:=by
 unfold ep;split
 .rename_i h;obtain⟨B,u⟩:=ao.1 h;have j:k.toNat<(eC w t).length:=by omega
  have:(eC w t).getD k.toNat 0∈eC w t:=by simp only[List.getD,mt j,abS];exact LT j
  exact .inl ⟨(yx this).1,this⟩
 .exact .inr rfl
def eD(ev:List bA)(t:Int)(k:Nat):cg ev t (k+1)=if(ev.getD k ⟨0,0,0,0,0,[],[]⟩).thread=t then cg ev t k++[(k:Int)]else cg ev t k:=rfl
def A5(ev:List bA)(t:Int):∀n k,k≤n→∃r,cg ev t n=cg ev t k++r
  | 0, k, h => ⟨[], by obtain rfl : k = 0 := by omega
                       rfl⟩
  | n+1,k,h=>by
    rcases LE k (n+1)with g|g
    · obtain⟨r,hr⟩:=A5 ev t n k acN
      rw[eD];split
      · exact⟨r++[(n:Int)],by rw[hr,abr]⟩
      · exact⟨r,hr⟩
    · obtain rfl:k=n+1:=by omega
      exact⟨[],acQ⟩
def N4{ev:List bA}{t:Int}{m n:Nat}(u:m<n)(h:(ev.getD m ⟨0,0,0,0,0,[],[]⟩).thread=t):(cg ev t n)[(cg ev t m).length]? =some (m:Int):=by obtain⟨r,j⟩:=A5 ev t n (m+1) acN;rw[j,eD,if_pos h,abr];simp
def Uk{w:aG}{t:Int}{k i:Nat}(j:i<w.ev.length)(ht:(w.ev[i]).thread=t)(h:(cg w.ev t i).length=k):ep w t k=i:=by have:=N4 (n:=w.ev.length) j (show(w.ev.getD i ⟨0,0,0,0,0,[],[]⟩).thread=t by simpa[j]using ht);rw[h]at this;have u:=(abL.1 this).1;unfold ep eC;rw[if_pos (ao.2 ⟨acN,acN⟩),abw];simp only[List.getD];rw[this];rfl
def Km{w:aG}{t k:Int}(h:((eC w t).length:Int)<=k):ep w t k=-1:=by unfold ep;rw[if_neg λg=>by have:=(ao.1 g).2;omega]
def N5(u:List Int)(t:Int):∀(l:List bA) (i j:Nat) (h:j<l.length),(l[j]).thread=t->u.contains ((i+j:Nat):Int)=false->(∀m (D:m<l.length),m<j->(l[m]).thread=t->u.contains ((i+m:Nat):Int)=true)->H8 u t l i=((i+j:Nat):Int)
 | e::l,i,j,h,ht,hc,hb=>by
  unfold H8;cases j with
  |zero=>rw[if_pos ⟨ht,hc⟩];rfl
  |succ j=>
   have E:¬(e.thread=t/\u.contains (i:Int)=false):=λ⟨a,b⟩=>by have:=hb 0 acQ acN a;rw[acz,b]at this;cases this
   rw[if_neg E,N5 u t l (i+1) j (by simpa using h) ht (by rw[<-hc];congr 2;omega) λm D G B=>by
    have:=hb (m+1) (by simpa using D) acN B;rw[<-this];congr 2;omega]
   omega
def Ko(j:List Int)(t:Int):∀(l:List bA) (i:Nat),(∀m (B:m<l.length),(l[m]).thread=t->j.contains ((i+m:Nat):Int)=true)->H8 j t l i=-1
 |[],i,_=>rfl
 | e::l,i,hb=>by
  unfold H8;have D:¬(e.thread=t/\j.contains (i:Int)=false):=λ⟨a,b⟩=>by have:=hb 0 acQ a;rw[acz,b]at this;cases this
  rw[if_neg D];exact Ko j t l (i+1) λm B u=>by have:=hb (m+1) (by simpa using B) u;rw[<-this];congr 2;omega
def qP{w:aG}{c:aP}{t:Int}{k:Nat}(h:k<w.ev.length)(ht:(w.ev[k]).thread=t)(D:c.order.contains (k:Int)=false)(E:∀m (u:m<w.ev.length),m<k->(w.ev[m]).thread=t->c.order.contains (m:Int)=true):dK w c t=k:=by
 have:=N5 c.order t w.ev 0 k h ht (by rw[abI];exact D) λm u B j=>by rw[abI];exact E m u B j
 rw[abI]at this;exact this
def nC{w:aG}{c:aP}{t:Int}(B:∀m (u:m<w.ev.length),(w.ev[m]).thread=t->c.order.contains (m:Int)=true):dK w c t=-1:=
 Ko c.order t w.ev 0 λm u j=>by rw[abI];exact B m u j
def kq(w:aG)(c:aP)(t:Int):(dK w c t=-1/\∀m (j:m<w.ev.length),(w.ev[m]).thread=t->c.order.contains (m:Int)=true)\/∃(k:Nat) (h:k<w.ev.length),dK w c t=k/\(w.ev[k]).thread=t/\c.order.contains (k:Int)=false/\∀m (j:m<w.ev.length),m<k->(w.ev[m]).thread=t->c.order.contains (m:Int)=true:=by
 by_cases h:∀m (j:m<w.ev.length),(w.ev[m]).thread=t->c.order.contains (m:Int)=true
 .exact .inl ⟨nC h,h⟩
 .have:∀n,(∀m (j:m<w.ev.length),m<n->(w.ev[m]).thread=t->c.order.contains (m:Int)=true)\/∃(k:Nat) (h:k<w.ev.length),(w.ev[k]).thread=t/\c.order.contains (k:Int)=false/\∀m (j:m<w.ev.length),m<k->(w.ev[m]).thread=t->c.order.contains (m:Int)=true:=by
   intro n
   induction n with
   |zero=>exact .inl λm _ h=>absurd h acN
   |succ n B=>
    rcases B with B|B
    .rcases LE n w.ev.length with g|g
     .by_cases G:(w.ev[n]).thread=t
      .cases O:c.order.contains (n:Int)with
       |false=>exact .inr ⟨n,g,G,O,B⟩
       |true=>
        refine .inl λm j M u=>?_
        rcases LE m n with D|D
        .exact B m j D u
        .obtain rfl:m=n:=by omega
         exact O
      .refine .inl λm j M u=>?_
       rcases LE m n with D|D
       .exact B m j D u
       .obtain rfl:m=n:=by omega
        exact absurd u G
     .exact .inl λm j M=>B m j acN
    .exact .inr B
  rcases this w.ev.length with E|⟨k,N,Y,E,S⟩
  .exact absurd (λm j=>E m j j) h
  .exact .inr ⟨k,N,qP N Y E S,Y,E,S⟩
def uH{w:aF}{s:SyncD}{t k o wake:Int}(j:aC w s t k o=true):(dx w s t k o wake).1=(bF w s t k o wake).1/\(dx w s t k o wake).2.1=(bF w s t k o wake).2/\(dx w s t k o wake).2.2=true:=by unfold dx;rw[if_pos j];exact⟨rfl,rfl,rfl⟩
def Pi{w:aF}{s u:SyncD}{n:Nat}(h:Uf s u n)(j:fitsS w s=true):fitsS w u=true:=by have j:=cH.1 j;exact cH.2 ⟨by rw[h.lk];exact j.locks,by rw[h.dn];exact j.done,by rw[h.th];exact j.threads,j.conds⟩
def CQ{w:aG}{c:aP}{t:Int}(h:u9 w c t=true):∃(k:Nat) (j:k<w.ev.length),dK w c t=k/\jA w k=w.ev[k]/\(w.ev[k]).thread=t/\c.order.contains (k:Int)=false/\(∀m (E:m<w.ev.length),m<k->(w.ev[m]).thread=t->c.order.contains (m:Int)=true)/\aC w.w c.sync t (w.ev[k]).kind (w.ev[k]).obj=true/\eJ w c t (w.ev[k]).deps=true:=by
 unfold u9 at h;simp only[aas,decide_eq_true_eq]at h;obtain⟨D,B,u⟩:=h;rcases kq w c t with⟨e,_⟩|⟨k,j,e,a,b,d⟩
 .rw[e]at D;omega
 .rw[e,gq j]at B u;exact⟨k,j,e,gq j,a,b,d,B,u⟩
def gB{w:aG}{c n:aP}{t wake:Int}(h:c8 w c t wake=some n):∃(k:Nat) (j:k<w.ev.length),dK w c t=k/\(w.ev[k]).thread=t/\c.order.contains (k:Int)=false/\(∀m (D:m<w.ev.length),m<k->(w.ev[m]).thread=t->c.order.contains (m:Int)=true)/\aC w.w c.sync t (w.ev[k]).kind (w.ev[k]).obj=true/\eJ w c t (w.ev[k]).deps=true/\n=uG w c t k w.ev[k] wake:=by
 unfold c8 at h;split at h
 .rename_i u;obtain⟨k,j,e,B,a,b,d,f,g⟩:=CQ u;rw[e,B]at h;cases h;exact⟨k,j,e,a,b,d,f,g,rfl⟩
 .cases h
def rV{w:aG}{c n:aP}{t wake:Int}(H:jK w c)(h:c8 w c t wake=some n):jK w n:=by
 obtain⟨k,S,_,O,G,_,E,_,rfl⟩:=gB h;have D:=(uH (wake:=wake) E).1;have B:=rT (w:=w.w) (t:=t) (k:=(w.ev[k]).kind) (o:=(w.ev[k]).obj) (wake:=wake) H.rd;unfold uG;dsimp only;rw[D];refine⟨Pi B H.fit,?_,?_,?_,?_,?_,?_,?_⟩
 .dsimp only;split<;>simp[H.cells]
 .dsimp only;split<;>simp[H.futures]
 .dsimp only;repeat' split
  all_goals simp[H.fixed]
 .dsimp only;repeat' split
  all_goals simp[H.woke]
 .intro x j;rcases aak.1 j with j|j
  .exact H.ord x j
  .rw[aag.1 j];omega
 .exact acy.2 ⟨H.nodup,acQ,λa N b M e=>gp.1 G (by rw[aag.1 M]at e;exact e▸N)⟩
 .intro l u;have:=B.rd l u;simp only[aal,ach];omega
def kR{w:aG}(H:eT w):jK w (bN w):=by have j:=H.fit;unfold nB at j;simp only[aas,decide_eq_true_eq]at j;exact⟨j.1.1.1,by simp[bN,j.1.1.2],by simp[bN,j.1.2],by simp[bN],by simp[bN],nofun,.nil,λl u=>by have:=H.rd l u;simp[bN];omega⟩
def bj(w:aG):w.enc=[.lst (w.w.cells.map aU.enc),.lst (w.w.locks.map bZ.enc),.lst (w.w.conds.map cM.enc),.lst (w.w.futures.map ay),.lst (w.w.threads.map ay),.lst (w.w.sites.map cF.enc),.acU w.start,.lst (w.init.sync.locks.map LockD.enc),.acU w.init.sync.tx,.lst (w.init.sync.done.map au),.lst (w.init.sync.threads.map ThrD.enc),.lst (w.init.cells.map aa),.lst (w.init.futures.map aa),.lst (w.init.count.map aa),.lst (w.ev.map bA.enc)]:=rfl
def cG(s:aP):s.enc=[.lst (s.sync.locks.map LockD.enc),.acU s.sync.tx,.lst (s.sync.done.map au),.lst (s.sync.threads.map ThrD.enc),.lst (s.cells.map eu.enc),.lst (s.futures.map eu.enc),.lst (s.order.map aa),.lst (s.fixed.map au),.lst (s.woke.map aa)]:=rfl
def eH(e:bA):e.enc=[.acU e.thread,.acU e.kind,.acU e.obj,.acU e.value,.acU e.site,.lst (e.deps.map aa),.lst (e.frm.map aa)]:=rfl
def ku(w:aG)(c:aP)(t:Int)(hl:w.ev.length<=400)(ho:c.order.length<2^62):aq Tryz.prog 16 [.agg w.enc,.agg c.enc,.acU t] (.acU (dK w c t)):=by
 refine NQ (AV.int .i64) λQ E=>Ey _ _ _ _ _ ?_
 refine vw ?_;rw[bj,cG]
 repeat' (first|refine sy ?_|refine s2 (λh=>?_) λh=>?_|intro)
 refine cT w.ev.length (λk=>∀m (G:m<w.ev.length),m<k->(w.ev[m]).thread=t->c.order.contains (m:Int)=true) (λk=>[.acU t,.pptr [w.enc] 0 0,.pptr [c.enc] 0 0,.acU k]) acN (λm G h=>absurd h acN) rfl (λk Z hd hi M nx D=>?_) (λk Z hd M nx=>?_)
 all_goals refine vw ?_
 .have hx:=aj (f:=bA.enc) Z;have B:=wG c.order (k:Int) ho;have u:((w.ev[k]).thread=t->c.order.contains (k:Int)=true)->∀m (G:m<w.ev.length),m<k+1->(w.ev[m]).thread=t->c.order.contains (m:Int)=true:=λh m G hmk O=>by
   rcases LE m k with g|g
   .exact M m G g O
   .obtain rfl:m=k:=by omega
    exact h O
  have j:(w.ev[k]).thread=t->c.order.contains (k:Int)=false->dK w c t=k:=λh1 h2=>qP Z h1 h2 M
  rw[eH]at hx;clear M;by_cases N:(w.ev[k]).thread=t
  .have d1:decide ((w.ev[k]).thread=t)=true:=decide_eq_true N;cases S:c.order.contains (k:Int)with
   |true=>
    rw[S]at B;have D:=D (u λ_=>S);clear u j E
    repeat' (first|refine sy ?_|refine s2 ?_ ?_|intro)
    exact D
   |false=>
    rw[S]at B;have Y:=λL=>E k L (j N S)
    clear u j E D
    repeat' (first|refine sy ?_|refine s2 ?_ ?_|intro)
    exact Y _
  .have d1:decide ((w.ev[k]).thread=t)=false:=decide_eq_false N;have D:=D (u λh=>absurd h N);clear u j E
   repeat' (first|refine sy ?_|refine s2 ?_ ?_|intro)
   exact D
 .have Y:=λL=>E (-1) L (nC λm G O=>M m G acN O)
  clear E M
  repeat' (first|refine sy ?_|refine s2 ?_ ?_|intro)
  exact Y _
def wP(w:aG)(c:aP)(t:Int)(hl:w.ev.length<=400)(ho:c.order.length<2^62)(hT:∀e∈w.ev,inB e.thread w.w.threads.length=true):aq Tryz.prog 15 [.agg w.enc,.agg c.enc,.acU t] (.acU (dK w c t)):=by
 refine NQ (AV.int .i64) λQ M=>EE _ _ _ _ _ ?_
 refine vw ?_;rw[bj,cG];have u:∀L,inB t w.w.threads.length=false->Q (.acU (-1)) L:=λL h=>M _ L (nC λm D O=>by
  have:=hT _ (LT D);rw[O,h]at this;cases this)
 by_cases G:t<0
 .have d1:decide (t<0)=true:=decide_eq_true G
  repeat' (first|refine sy ?_|refine s2 ?_ ?_|intro)
  exact u _ (by simp[inB];omega)
 have d1:decide (t<0)=false:=decide_eq_false G;by_cases p2:(w.w.threads.length:Int)<=t
 .have d2:decide ((w.w.threads.length:Int)<=t)=true:=decide_eq_true p2
  repeat' (first|refine sy ?_|refine s2 ?_ ?_|intro)
  exact u _ (by simp[inB];omega)
 have d2:decide ((w.w.threads.length:Int)<=t)=false:=decide_eq_false p2;clear u
 repeat' (first|refine sy ?_|refine s2 (λh=>?_) λh=>?_|intro)
 refine cT w.ev.length (λk=>∀m (D:m<w.ev.length),m<k->(w.ev[m]).thread=t->c.order.contains (m:Int)=true) (λk=>[.acU t,.pptr [c.enc] 0 0,.lst (w.ev.map bA.enc),.acU w.ev.length,.acU k]) acN (λm D h=>absurd h acN) rfl (λk hk hd hi S nx N=>?_) (λk hk hd S nx=>?_)
 all_goals refine vw ?_
 .have hx:=aj (f:=bA.enc) hk;have E:=zz c.order (k:Int) ho;have B:((w.ev[k]).thread=t->c.order.contains (k:Int)=true)->∀m (D:m<w.ev.length),m<k+1->(w.ev[m]).thread=t->c.order.contains (m:Int)=true:=λh m D hmk O=>by
   rcases LE m k with g|g
   .exact S m D g O
   .obtain rfl:m=k:=by omega
    exact h O
  have j:(w.ev[k]).thread=t->c.order.contains (k:Int)=false->dK w c t=k:=λh1 h2=>qP hk h1 h2 S
  rw[eH]at hx;clear S;by_cases G:(w.ev[k]).thread=t
  .have d1:decide ((w.ev[k]).thread=t)=true:=decide_eq_true G;cases Y:c.order.contains (k:Int)with
   |true=>
    rw[Y]at E;have N:=N (B λ_=>Y);clear B j M
    repeat' (first|refine sy ?_|refine s2 ?_ ?_|intro)
    exact N
   |false=>
    rw[Y]at E;have Z:=λL=>M k L (j G Y)
    clear B j M N
    repeat' (first|refine sy ?_|refine s2 ?_ ?_|intro)
    exact Z _
  .have d1:decide ((w.ev[k]).thread=t)=false:=decide_eq_false G;have N:=N (B λh=>absurd h G);clear B j M
   repeat' (first|refine sy ?_|refine s2 ?_ ?_|intro)
   exact N
 .have Z:=λL=>M (-1) L (nC λm D O=>S m D acN O)
  clear M S
  repeat' (first|refine sy ?_|refine s2 ?_ ?_|intro)
  exact Z _
def wQ{x:Int}(u:0<=x)(j:x<9223372036854775808):IntKind.i64.wrap x=x:=abg _ acN
def qQ(w:aG)(t:Int)(k:Nat)(Z:k<9223372036854775808)(hl:w.ev.length<=400):aq Tryz.prog 27 [.agg w.enc,.acU t,.acU k] (.acU (ep w t k)):=by
 refine NQ (AV.int .i64) λQ B=>HI _ _ _ _ _ ?_
 refine vw ?_;rw[bj]
 repeat' (first|refine sy ?_|refine s2 ?_ ?_|intro)
 refine cT w.ev.length (λi=>(cg w.ev t i).length<=k) (λi=>[.acU t,.acU ((k-(cg w.ev t i).length:Nat):Int),.pptr [w.enc] 0 0,.acU i]) acN (by simp[cg]) (by simp[cg,bj]) (λi G hd hii N S u=>?_) (λi G hd N S=>?_)
 all_goals refine vw ?_
 .have Y:=aj (f:=bA.enc) G;have E:cg w.ev t (i+1)=if(w.ev[i]).thread=t then cg w.ev t i++[(i:Int)]else cg w.ev t i:=by rw[eD];simp[G]
  have j:(w.ev[i]).thread=t->(cg w.ev t i).length=k->ep w t k=i:=λh1 h2=>Uk G h1 h2
  rw[eH]at Y;rw[E]at u;clear E;by_cases D:(w.ev[i]).thread=t
  .have d1:decide ((w.ev[i]).thread=t)=true:=decide_eq_true D;rw[if_pos D,aal,ach]at u;generalize(cg w.ev t i).length=m at *;by_cases O:m=k
   .have M:=λL=>B i L (j D O)
    have d2:decide (((k-m:Nat):Int)=0)=true:=decide_eq_true acN;clear j u B
    repeat' (first|refine sy ?_|refine s2 ?_ ?_|intro)
    exact M _
   .have d2:decide (((k-m:Nat):Int)=0)=false:=decide_eq_false acN;have e1:IntKind.i64.wrap (((k-m:Nat):Int)-1)=((k-(m+1):Nat):Int):=by rw[wQ acN acN];omega
    clear j B;have u:=u acN
    repeat' (first|refine sy ?_|refine s2 ?_ ?_|intro)
    exact u
  .have d1:decide ((w.ev[i]).thread=t)=false:=decide_eq_false D;rw[if_neg D]at u;generalize(cg w.ev t i).length=m at *;have u:=u N;clear j B
   repeat' (first|refine sy ?_|refine s2 ?_ ?_|intro)
   exact u
 .have M:=λL=>B (-1) L (Km (by unfold eC;rw[<-G];omega))
  clear B N
  repeat' (first|refine sy ?_|refine s2 ?_ ?_|intro)
  exact M _
def N6{w:aG}{c:aP}{t n:Int}(h:aT w.init t<=n):pS w c t n=(inB (ep w t (n-aT w.init t)) c.fixed.length&&c.fixed.getD (ep w t (n-aT w.init t)).toNat false):=by unfold pS;rw[decide_eq_false (by omega:¬n<aT w.init t),Bool.false_or]
def RC{l:List Bool}{i:Int}(h:inB i l.length=true):(l.map au)[i.toNat]? =some [.bool (l.getD i.toNat false)]:=by
 obtain⟨a,b⟩:=ao.1 h;have:i.toNat<l.length:=by omega
 simp[this,au]
def CR{s:gO}{t:Int}(h:inB t s.count.length=true):(s.count.map aa)[t.toNat]? =some [.acU (aT s t)]:=by
 obtain⟨a,b⟩:=ao.1 h;have:t.toNat<s.count.length:=by omega
 simp[this,aT,aa]
def oN(w:aG)(c:aP)(t:Int)(l:List Int)(hl:w.ev.length<=400)(hll:l.length<2^62)(hw:∀d∈l,d<9223372036854775808)(hc:0<=aT w.init t):aq Tryz.prog 20 [.agg w.enc,.agg c.enc,.acU t,.lst (l.map aa)] (.bool (eJ w c t l)):=by
 refine NQ AV.bool λQ Y=>vR _ _ _ _ _ _ ?_
 refine vw ?_;rw[bj,cG];have u:∀L,inB t w.init.count.length=false->Q (.bool (decide ((l.length:Int)=0))) L:=λL h=>Y _ L (by unfold eJ;rw[h];cases l<;>simp;omega)
 by_cases p1:t<0
 .have d1:decide (t<0)=true:=decide_eq_true p1
  repeat' (first|refine sy ?_|refine s2 ?_ ?_|intro)
  exact u _ (by simp[inB];omega)
 have d1:decide (t<0)=false:=decide_eq_false p1;by_cases p2:(w.init.count.length:Int)<=t
 .have d2:decide ((w.init.count.length:Int)<=t)=true:=decide_eq_true p2
  repeat' (first|refine sy ?_|refine s2 ?_ ?_|intro)
  exact u _ (by simp[inB];omega)
 have d2:decide ((w.init.count.length:Int)<=t)=false:=decide_eq_false p2;clear u;have M:inB t w.init.count.length=true:=ao.2 ⟨acN,acN⟩;have S:0<=t:=by omega
 have O:t<w.init.count.length:=by omega
 have hcx:=CR M
 repeat' (first|refine sy ?_|refine s2 (λh=>?_) λh=>?_|intro)
 refine eO l (λd=>!pS w c t d) (λi=>[.acU t,.lst (l.map aa),.pptr [w.enc] 0 0,.pptr [c.enc] 0 0,.acU i]) hll rfl (λi hi hd hii B nx D=>?_) (λi hi hd B nx=>?_)
 all_goals refine vw ?_
 .have hx:=aj (f:=aa) hi;have hb:=hw _ (LT hi);have j:pS w c t l[i]=false->∀L,Q (.bool false) L:=λh L=>Y _ L (by
   unfold eJ;rw[if_pos M];exact List.all_eq_false.2 ⟨_,LT hi,by rw[h];decide⟩)
  clear Y B;generalize l[i]=d at *;rw[show aa d=[.acU d]from rfl]at hx;by_cases p3:d<aT w.init t
  .have d3:decide (d<aT w.init t)=true:=decide_eq_true p3;have D:=D (by unfold pS;rw[d3];rfl);rw[bj,cG]
   repeat' (first|refine aw S O rp acO ?_|refine sy ?_|refine s2 ?_ ?_|intro)
   exact D
  .have d3:decide (d<aT w.init t)=false:=decide_eq_false p3;have N:=N6 (w:=w) (c:=c) (t:=t) (n:=d) acN;have E:=qQ w t (d-aT w.init t).toNat acN hl;rw[abD acN]at E;have e1:IntKind.i64.wrap (d-aT w.init t)=d-aT w.init t:=wQ acN acN;rw[bj]at E;rw[bj,cG];generalize ep w t (d-aT w.init t)=m at *;by_cases q1:m<0
   .have d4:decide (m<0)=true:=decide_eq_true q1;have G:=j (by rw[N,show inB m c.fixed.length=false by simp[inB];omega];rfl);clear j D
    repeat' (first|refine aw S O rp acO ?_|refine sy ?_|refine s2 ?_ ?_|intro)
    exact G _
   have d4:decide (m<0)=false:=decide_eq_false q1;by_cases q2:(c.fixed.length:Int)<=m
   .have d5:decide ((c.fixed.length:Int)<=m)=true:=decide_eq_true q2;have G:=j (by rw[N,show inB m c.fixed.length=false by simp[inB];omega];rfl);clear j D
    repeat' (first|refine aw S O rp acO ?_|refine sy ?_|refine s2 ?_ ?_|intro)
    exact G _
   have d5:decide ((c.fixed.length:Int)<=m)=false:=decide_eq_false q2;have hm:=ao.2 ⟨(by omega:0<=m),(by omega:m<c.fixed.length)⟩;have m0:0<=m:=by omega
   have m1:m<c.fixed.length:=by omega
   have Z:=RC hm;rw[hm,acB]at N;cases hv:c.fixed.getD m.toNat false with
   |true=>
    rw[hv]at N Z;have D:=D (by rw[N];rfl);clear j
    repeat' (first|refine aw S O rp acO ?_|refine aw m0 m1 rp acO ?_|refine sy ?_|refine s2 ?_ ?_|intro)
    exact D
   |false=>
    rw[hv]at N Z;have G:=j N;clear j D
    repeat' (first|refine aw S O rp acO ?_|refine aw m0 m1 rp acO ?_|refine sy ?_|refine s2 ?_ ?_|intro)
    exact G _
 .have G:=λL=>Y true L (by
   unfold eJ;rw[if_pos M,abh];exact λd hd=>by simpa using B d hd)
  clear Y B;rw[bj,cG]
  repeat' (first|refine sy ?_|refine s2 ?_ ?_|intro)
  exact G _
def gr(s:aP)(ov:AV):List AV:=[.lst (s.sync.locks.map LockD.enc),.acU s.sync.tx,.lst (s.sync.done.map au),.lst (s.sync.threads.map ThrD.enc),.lst (s.cells.map eu.enc),.lst (s.futures.map eu.enc),ov,.lst (s.fixed.map au),.lst (s.woke.map aa)]
def dG(s:aP)(j:AV):gr s j=[.lst (s.sync.locks.map LockD.enc),.acU s.sync.tx,.lst (s.sync.done.map au),.lst (s.sync.threads.map ThrD.enc),.lst (s.cells.map eu.enc),.lst (s.futures.map eu.enc),j,.lst (s.fixed.map au),.lst (s.woke.map aa)]:=rfl
def oO{N M G E D B u:List (List AV)}{k:IntKind}{n:Int}{j:AV}(h:AV.one j=true):[AV.lst N,.int k n,.lst M,.lst G,.lst E,.lst D,j,.lst B,.lst u].all AV.one=true:=by show(true&&(true&&(true&&(true&&(true&&(true&&(AV.one j&&(true&&(true&&true)))))))))=true;rw[h];rfl
def Pj(w:aG)(c:aP)(u:AV)(t x:Int)(l:List Int)(hl:w.ev.length<=400)(Q:R)(hq:∀(o:Option Nat),(o=none->eC w t=[])->W.loop (qy Q) [.pptr [gr c u] 0 0,.acU x,af o (eC w t).length,.lst (l.map aa),.acU l.length,.acU (0:Nat)] (ab o 1 ((eC w t).map aa))):
  W.loop (Ce Q) [.acU t,.lst (l.map aa),.pptr [gr c u] 0 0,.acU x,.nils,.lst (w.ev.map bA.enc),.acU w.ev.length,.acU (0:Nat)] []:=by
 refine aL w.ev.length (λk (o:Option Nat)=>([.acU t,.lst (l.map aa),.pptr [gr c u] 0 0,.acU x,af o (cg w.ev t k).length,.lst (w.ev.map bA.enc),.acU w.ev.length,.acU k],ab o 1 ((cg w.ev t k).map aa))) (λk o=>o=none->cg w.ev t k=[]) none (λ_=>rfl) (ax.drop (K:=[]) (.refl _) rfl (fy.at_ (.cons (.refl _) (.cons (.refl _) (.cons (.refl _) (.cons (.refl _) (.cons .nile (.cons (.refl _) (.cons (.refl _) (.cons (.refl _) .nil))))))))).2) ?_;intro k o hk Z;dsimp only;refine vw ?_;have hle:=ka w.ev t k;rcases Nat.lt_or_ge k w.ev.length with E|E
 .have hd:=aS E;have hx:=aj (f:=bA.enc) E;have D:cg w.ev t (k+1)=if(w.ev[k]).thread=t then cg w.ev t k++[(k:Int)]else cg w.ev t k:=by rw[eD];simp[E]
  have Y:o=none->(cg w.ev t k).map aa=[]:=λe=>by rw[Z e];rfl
  rw[eH]at hx;clear hq;by_cases O:(w.ev[k]).thread=t
  .have d1:decide ((w.ev[k]).thread=t)=true:=decide_eq_true O;rw[if_pos O]at D;have fin:∀(S n:Nat) (L:SH),n=(cg w.ev t k).length+1->cO L (ab (some S) 1 ((cg w.ev t k).map aa++[[.acU (k:Int)]]))->∃(j:Nat) (B:Option Nat),k<j/\j<=w.ev.length/\(B=none->cg w.ev t j=[])/\ax [.acU t,.lst (l.map aa),.pptr [gr c u] 0 0,.acU x,.sl S 0 n,.lst (w.ev.map bA.enc),.acU w.ev.length,.acU (IntKind.i64.wrap ((k:Int)+1))] L
     [.acU t,.lst (l.map aa),.pptr [gr c u] 0 0,.acU x,af B (cg w.ev t j).length,.lst (w.ev.map bA.enc),.acU w.ev.length,.acU j] (ab B 1 ((cg w.ev t j).map aa)):=λS n L hn hL=>by
    refine⟨k+1,some S,acN,acN,nofun,?_⟩;rw[av E acN,hn];exact ax.pickE hL (by rw[D];simp[af]) (by rw[D];simp[aa])
   generalize hX:(cg w.ev t k).map aa=X at *;have hXl:X.length=(cg w.ev t k).length:=by rw[<-hX];simp
   rw[dG]at *
   repeat' (first|refine sx ?_|refine aM rp rp acN Y acP acQ acS acS acP (λM N=>?_)|refine sb λM N=>?_|refine s2 ?_ ?_|intro)
   exact fin M _ _ rfl rp
  .have d1:decide ((w.ev[k]).thread=t)=false:=decide_eq_false O;rw[if_neg O]at D;have G:∀V,V=[.acU t,.lst (l.map aa),.pptr [gr c u] 0 0,.acU x,af o (cg w.ev t k).length,.lst (w.ev.map bA.enc),.acU w.ev.length,.acU (IntKind.i64.wrap ((k:Int)+1))]->∃(j:Nat) (B:Option Nat),k<j/\j<=w.ev.length/\(B=none->cg w.ev t j=[])/\ax V (ab o 1 ((cg w.ev t k).map aa))
     [.acU t,.lst (l.map aa),.pptr [gr c u] 0 0,.acU x,af B (cg w.ev t j).length,.lst (w.ev.map bA.enc),.acU w.ev.length,.acU j] (ab B 1 ((cg w.ev t j).map aa)):=λV hV=>by
    subst hV;exact⟨k+1,o,acN,acN,by rw[D];exact Z,fR (by rw[av E acN,D]) (by rw[D])⟩
   rw[dG]at *
   repeat' (first|refine sy ?_|refine s2 ?_ ?_|intro)
   exact G _ rfl
 .have hd:=aW E;obtain rfl:k=w.ev.length:=by omega
  have hz:=hq o Z;rw[dG]at *
  repeat' (first|refine sy ?_|refine s2 ?_ ?_|intro)
  exact hz
def CS(w:aG)(c:aP)(ov:AV)(G:AV.one ov=true)(t:Int)(l:List Int)(hl:w.ev.length<=400)(hll:l.length<2^62)(hw:∀d∈l,d<9223372036854775808)(hc:0<=aT w.init t)(hct:w.init.count.length=w.w.threads.length):aq Tryz.prog 19 [.agg w.enc,.agg (gr c ov),.acU t,.lst (l.map aa)] (.bool (eJ w c t l)):=by
 refine NQ AV.bool λQ O=>Cf _ _ _ _ _ _ ?_
 refine vw ?_;rw[bj,dG];by_cases h0:l.length=0
 .have d0:decide ((l.length:Int)=0)=true:=decide_eq_true acN;have E:=λL=>O true L (by rw[ace h0];unfold eJ;split<;>rfl)
  clear O
  repeat' (first|refine sy ?_|refine lI rfl (oO G) (λY D=>?_)|refine s2 ?_ ?_|intro)
  exact E _
 have d0:decide ((l.length:Int)=0)=false:=decide_eq_false acN;have B:∀L,inB t w.init.count.length=false->Q (.bool false) L:=λL h=>O _ L (by unfold eJ;rw[h];cases l with
  |nil=>exact absurd rfl h0
  |cons=>rfl)
 by_cases p1:t<0
 .have d1:decide (t<0)=true:=decide_eq_true p1
  repeat' (first|refine sy ?_|refine lI rfl (oO G) (λY D=>?_)|refine s2 ?_ ?_|intro)
  exact B _ (by simp[inB];omega)
 have d1:decide (t<0)=false:=decide_eq_false p1;by_cases p2:(w.w.threads.length:Int)<=t
 .have d2:decide ((w.w.threads.length:Int)<=t)=true:=decide_eq_true p2
  repeat' (first|refine sy ?_|refine lI rfl (oO G) (λY D=>?_)|refine s2 ?_ ?_|intro)
  exact B _ (by simp[inB];omega)
 have d2:decide ((w.w.threads.length:Int)<=t)=false:=decide_eq_false p2;have d3:decide ((w.init.count.length:Int)<=t)=false:=decide_eq_false acN;clear B;have hin:inB t w.init.count.length=true:=ao.2 ⟨acN,acN⟩;have t0:0<=t:=by omega
 have t1:t<w.init.count.length:=by omega
 have hcx:=CR hin;have key:∀o:Option Nat,(o=none->eC w t=[])->W.loop (qy Q) [.pptr [gr c ov] 0 0,.acU (aT w.init t),af o (eC w t).length,.lst (l.map aa),.acU l.length,.acU (0:Nat)] (ab o 1 ((eC w t).map aa)):=by
  intro o ho;have hol:=ka w.ev t w.ev.length;change (eC w t).length<=_ at hol;refine eO l (λd=>!pS w c t d) (λi=>[.pptr [gr c ov] 0 0,.acU (aT w.init t),af o (eC w t).length,.lst (l.map aa),.acU l.length,.acU i]) hll rfl (λi hi hd hii M nx N=>?_) (λi hi hd M nx=>?_)
  all_goals refine vw ?_
  .have hx:=aj (f:=aa) hi;have hb:=hw _ (LT hi);have j:pS w c t l[i]=false->∀L,Q (.bool false) L:=λh L=>O _ L (by
    unfold eJ;rw[if_pos hin];exact List.all_eq_false.2 ⟨_,LT hi,by rw[h];decide⟩)
   clear O M;generalize l[i]=d at *;rw[show aa d=[.acU d]from rfl]at hx;by_cases p3:d<aT w.init t
   .have d4:decide (d<aT w.init t)=true:=decide_eq_true p3;have N:=N (by unfold pS;rw[d4];rfl);rw[dG]
    repeat' (first|refine sy ?_|refine s2 ?_ ?_|intro)
    exact N
   .have d4:decide (d<aT w.init t)=false:=decide_eq_false p3;have S:=N6 (w:=w) (c:=c) (t:=t) (n:=d) acN;have e1:IntKind.i64.wrap (d-aT w.init t)=d-aT w.init t:=wQ acN acN;have d5:decide (d-aT w.init t<0)=false:=decide_eq_false acN;by_cases q1:((eC w t).length:Int)<=d-aT w.init t
    .have d6:decide (((eC w t).length:Int)<=d-aT w.init t)=true:=decide_eq_true q1;have E:=j (by rw[S,Km q1];rfl);clear j N;rw[dG];cases o with
     |none=>
      have d7:decide (((0:Nat):Int)<=d-aT w.init t)=true:=decide_eq_true acN;rw[ho rfl];dsimp only[af,ab,List.map_nil,List.length_nil]
      repeat' (first|refine sy ?_|refine s2 ?_ ?_|intro)
      exact E _
     |some bo=>
      dsimp only[af,ab]
      repeat' (first|refine sy ?_|refine s2 ?_ ?_|intro)
      exact E _
    have d6:decide (((eC w t).length:Int)<=d-aT w.init t)=false:=decide_eq_false q1;cases o with
    |none=>rw[ho rfl]at q1;simp at q1;omega
    |some bo=>
     have m1:d-aT w.init t<((eC w t).length:Int):=by omega
     have m0:0<=d-aT w.init t:=by omega
     have hnm:ep w t (d-aT w.init t)=(eC w t).getD (d-aT w.init t).toNat 0:=by unfold ep;rw[if_pos (ao.2 ⟨m0,m1⟩)]
     have Z:(d-aT w.init t).toNat<(eC w t).length:=by omega
     have u:((eC w t).map aa)[(d-aT w.init t).toNat]? =some [.acU ((eC w t).getD (d-aT w.init t).toNat 0)]:=by simp[Z,aa]
     have hge:0<=(eC w t).getD (d-aT w.init t).toNat 0:=by simp only[List.getD,mt Z,abS];exact(yx (LT Z)).1
     rw[hnm]at S;clear hnm;dsimp only[af,ab]at *;generalize(eC w t).getD (d-aT w.init t).toNat 0=m at *;rw[dG];by_cases q2:(c.fixed.length:Int)<=m
     .have d7:decide ((c.fixed.length:Int)<=m)=true:=decide_eq_true q2;have E:=j (by rw[S,show inB m c.fixed.length=false by simp[inB];omega];rfl);clear j N
      repeat' (first|refine aw m0 acN rp rfl ?_|refine sy ?_|refine dR rp u rfl ?_|refine s2 ?_ ?_|intro)
      exact E _
     have d7:decide ((c.fixed.length:Int)<=m)=false:=decide_eq_false q2;have hm:=ao.2 ⟨hge,(by omega:m<c.fixed.length)⟩;have m3:m<c.fixed.length:=by omega
     have hmx:=RC hm;rw[hm,acB]at S;cases hv:c.fixed.getD m.toNat false with
     |true=>
      rw[hv]at S hmx;have N:=N (by rw[S];rfl);clear j
      repeat' (first|refine aw m0 acN rp rfl ?_|refine aw hge m3 rp acO ?_|refine sy ?_|refine dR rp u rfl ?_|refine s2 ?_ ?_|intro)
      exact N
     |false=>
      rw[hv]at S hmx;have E:=j S;clear j N
      repeat' (first|refine aw m0 acN rp rfl ?_|refine aw hge m3 rp acO ?_|refine sy ?_|refine dR rp u rfl ?_|refine s2 ?_ ?_|intro)
      exact E _
  .have E:=λL=>O true L (by
    unfold eJ;rw[if_pos hin,abh];exact λd hd=>by simpa using M d hd)
   clear O M;rw[dG]
   repeat' (first|refine sy ?_|refine s2 ?_ ?_|intro)
   exact E _
 have lp:=Pj w c ov t (aT w.init t) l hl Q key;clear key O;rw[dG]at lp
 repeat' (first|refine aw t0 t1 rp acO ?_|refine sy ?_|refine lI rfl (oO G) (λY D=>?_)|refine s2 ?_ ?_|intro)
 exact lp
def Ul(w:aG)(c:aP)(t:Int)(l:List Int)(D:w.ev.length<=400)(j:l.length<2^62)(B:∀d∈l,d<9223372036854775808)(E:0<=aT w.init t)(u:w.init.count.length=w.w.threads.length):aq Tryz.prog 19 [.agg w.enc,.agg c.enc,.acU t,.lst (l.map aa)] (.bool (eJ w c t l)):=CS w c (.lst (c.order.map aa)) rfl t l D j B E u
structure Av(w:aG):Prop where
 lw:w.ev.length<=400
 con:w.w.conds.length<2^40
 thr:∀e∈w.ev,inB e.thread w.w.threads.length=true
 evs:∀e∈w.ev,wO e
 num:∀e∈w.ev,(∀d∈e.deps,d<9223372036854775808)/\∀d∈e.frm,d<9223372036854775808
 cnt:∀n∈w.init.count,0<=n
 ct:w.init.count.length=w.w.threads.length
def qR{w:aG}(h:∀n∈w.init.count,0<=n)(t:Int):0<=aT w.init t:=by
 unfold aT;rcases LE t.toNat w.init.count.length with g|g
 .simp only[List.getD,mt g,abS];exact h _ (LT g)
 .simp[List.getD,aah g]
def qS{w:aG}{k:Nat}(j:k<w.ev.length):(w.ev.map bA.enc)[k]? =some (w.ev[k]).enc:=aj j
def Ib(w:aG)(c:aP)(t:Int)(j:Av w)(S:c.order.length<2^62)(O:∀l∈c.sync.locks,l.readers.length<2^40):aq Tryz.prog 18 [.agg w.enc,.agg c.enc,.acU t] (.bool (u9 w c t)):=by
 have B:=ku w c t j.lw S;refine NQ AV.bool λQ u=>xW _ _ _ _ _ ?_
 refine vw ?_;rcases kq w c t with⟨e,_⟩|⟨k,E,e,_⟩
 .have G:=λL=>u false L (by unfold u9;rw[e];rfl)
  rw[e]at B;rw[bj,cG]at *;clear u
  repeat' (first|refine sy ?_|refine s2 ?_ ?_|intro)
  exact G _
 .have M:=qI w.w c.sync t (w.ev[k]).kind (w.ev[k]).obj (by have:=j.con;omega) O;have Y:=oN w c t (w.ev[k]).deps j.lw (by have:=(j.evs _ (LT E)).1;omega) (j.num _ (LT E)).1 (qR j.cnt t);have D:u9 w c t=(aC w.w c.sync t (w.ev[k]).kind (w.ev[k]).obj&&eJ w c t (w.ev[k]).deps):=by unfold u9;rw[e,gq E,decide_eq_true (by omega:(0:Int)<=k),acB]
  have N:=qS E;rw[eH]at N;rw[e]at B;rw[D]at u;clear D;generalize eJ w c t (w.ev[k]).deps=f at *;generalize aC w.w c.sync t (w.ev[k]).kind (w.ev[k]).obj=b at *;have G:=λL=>u _ L rfl
  clear u;have Z:decide ((k:Int)<0)=false:=decide_eq_false acN;rw[show SyncD.enc c.sync=[.lst (c.sync.locks.map LockD.enc),.acU c.sync.tx,.lst (c.sync.done.map au),.lst (c.sync.threads.map ThrD.enc)]from rfl,show aF.enc w.w=[.lst (w.w.cells.map aU.enc),.lst (w.w.locks.map bZ.enc),.lst (w.w.conds.map cM.enc),.lst (w.w.futures.map ay),.lst (w.w.threads.map ay),.lst (w.w.sites.map cF.enc)]from rfl]at M;rw[bj,cG]at *;cases b
  all_goals
   repeat' (first|refine sy ?_|refine s2 ?_ ?_|intro)
   exact G _
def RD(w:aG)(c:aP)(t:Int)(j:Av w)(S:c.order.length<2^62)(O:∀l∈c.sync.locks,l.readers.length<2^40):aq Tryz.prog 17 [.agg w.enc,.agg c.enc,.acU t] (.bool (u9 w c t)):=by
 have B:=wP w c t j.lw S j.thr;refine NQ AV.bool λQ u=>xY _ _ _ _ _ ?_
 refine vw ?_;rcases kq w c t with⟨e,_⟩|⟨k,E,e,_⟩
 .have G:=λL=>u false L (by unfold u9;rw[e];rfl)
  rw[e]at B;rw[bj,cG]at *;clear u
  repeat' (first|refine sy ?_|refine s2 ?_ ?_|intro)
  exact G _
 .have M:=CI w.w c.sync t (w.ev[k]).kind (w.ev[k]).obj (by have:=j.con;omega) O;have Y:=Ul w c t (w.ev[k]).deps j.lw (by have:=(j.evs _ (LT E)).1;omega) (j.num _ (LT E)).1 (qR j.cnt t) j.ct;have D:u9 w c t=(aC w.w c.sync t (w.ev[k]).kind (w.ev[k]).obj&&eJ w c t (w.ev[k]).deps):=by unfold u9;rw[e,gq E,decide_eq_true (by omega:(0:Int)<=k),acB]
  have N:=qS E;rw[eH]at N;rw[e]at B;rw[D]at u;clear D;generalize eJ w c t (w.ev[k]).deps=f at *;generalize aC w.w c.sync t (w.ev[k]).kind (w.ev[k]).obj=b at *;have G:=λL=>u _ L rfl
  clear u;have Z:decide ((k:Int)<0)=false:=decide_eq_false acN;rw[show SyncD.enc c.sync=[.lst (c.sync.locks.map LockD.enc),.acU c.sync.tx,.lst (c.sync.done.map au),.lst (c.sync.threads.map ThrD.enc)]from rfl,show aF.enc w.w=[.lst (w.w.cells.map aU.enc),.lst (w.w.locks.map bZ.enc),.lst (w.w.conds.map cM.enc),.lst (w.w.futures.map ay),.lst (w.w.threads.map ay),.lst (w.w.sites.map cF.enc)]from rfl]at M;rw[bj,cG]at *;cases b
  all_goals
   repeat' (first|refine sy ?_|refine s2 ?_ ?_|intro)
   exact G _
def tP:RF:=nv (bQ Tryz.prog Tryz.f204 [] [])
abbrev Fb(a:AV)(L:SH)(Q:R):Prop:=Pc tP 20 Q 0 [] [a] L
def Dc(j:AV)(L:SH)(Q:R)(h:Fb j L Q):ac Tryz.prog 204 [j] L Q:=
 fv tP Tryz.func204 h
def tQ:RF:=nv (bQ Tryz.prog Tryz.f194 [] [])
abbrev Fc(a b:AV)(L:SH)(Q:R):Prop:=Pc tQ 20 Q 0 [] [a,b] L
def Dd(u j:AV)(L:SH)(Q:R)(h:Fc u j L Q):ac Tryz.prog 194 [u,j] L Q:=
 fv tQ Tryz.func194 h
def re:RF:=nv (bQ Tryz.prog Tryz.f196 [] [])
abbrev De(a b c:AV)(L:SH)(Q:R):Prop:=Pc re 20 Q 0 [] [a,b,c] L
def AA(B u j:AV)(L:SH)(Q:R)(h:De B u j L Q):ac Tryz.prog 196 [B,u,j] L Q:=
 fv re Tryz.func196 h
def wW:RF:=nv (bQ Tryz.prog Tryz.f175 [(9,⟨[1,2,3,4],[],true,[]⟩)] [(0,[1])])
abbrev Im(a:AV)(L:SH)(Q:R):Prop:=Pc wW 20 Q 0 [] [a] L
def Fe(j:AV)(L:SH)(Q:R)(h:Im j L Q):ac Tryz.prog 175 [j] L Q:=
 fv wW Tryz.func175 h
def nG:RF:=nv (bQ Tryz.prog Tryz.f195 [] [])
abbrev yE(a:AV)(L:SH)(Q:R):Prop:=Pc nG 20 Q 0 [] [a] L
def wX(j:AV)(L:SH)(Q:R)(h:yE j L Q):ac Tryz.prog 195 [j] L Q:=
 fv nG Tryz.func195 h
def iI:RF:=nv (bQ Tryz.prog Tryz.f176 [(69034,⟨[2,3,4,8,9,10],[],true,[]⟩),(2102,⟨[2,3,4],[],true,[]⟩),(9,⟨[2,3,4,6,7],[],true,[]⟩)] [(0,[2])])
abbrev mv(Q:R):Vs->SH->Prop:=Jp iI 17 Q 69034 []
abbrev Ff(Q:R)(a:SH)(b c d:AV):Prop:=Pc iI 18 Q 2102 [] [b,c,d] a
abbrev Fg(Q:R):Vs->SH->Kn->Prop:=Lp iI 19 Q 9 []
abbrev In(a b:AV)(L:SH)(Q:R):Prop:=Pc iI 20 Q 0 [] [a,b] L
def g9(u j:AV)(L:SH)(Q:R)(h:In u j L Q):ac Tryz.prog 176 [u,j] L Q:=
 fv iI Tryz.func176 h
def kS:RF:=nv (bQ Tryz.prog Tryz.f152 [(15,⟨[2,3,4,6],[],true,[]⟩)] [(0,[2]),(9,[7]),(14,[8])])
abbrev AB(Q:R):Vs->SH->Kn->Prop:=Lp kS 19 Q 15 []
abbrev Df(a b:AV)(L:SH)(Q:R):Prop:=Pc kS 20 Q 0 [] [a,b] L
def AC(u j:AV)(L:SH)(Q:R)(h:Df u j L Q):ac Tryz.prog 152 [u,j] L Q:=
 fv kS Tryz.func152 h
def ax.pickV{vs j:List AV}{L R:SH}(h:cO L R)(u:∀K,fy K vs j):ax vs L j R:=by obtain⟨K,B⟩:=h.perm;exact ax.drop B (u K).at_.1 (u K).at_.2
def Kz(s:bI)(h1:s.regs.length<2^40)(h2:s.taint.length<2^40)(h3:∀l∈s.taint,l.length<=2^30):ac Tryz.prog 175 [.agg s.enc] [] (NY s):=by
 refine ac.fz (Fe _ _ _ ?_);refine vw ?_;generalize hQ:(λ(v:AV) (L:SH)=>∃v2 L2,ax [v] L [v2] L2/\NY s v2 L2)=Q
 repeat' (first|refine sx ?_|refine dJ rp (λ_=>rfl) acP acS acS (λ_=>rfl) (λu B=>?_)|refine sb λu B=>?_|refine s2 (λh=>?_) λh=>?_|fail)
 rename_i _ _ b2 _ _ _ E _;rw[Nat.zero_add];revert u;intro Z _;refine aL s.taint.length (λi (o:Option Nat)=>([.pptr [s.enc] 0 0,.ptr b2 0 0,.ptr Z 0 0,.acU i],(Z,⟨4,[[.acU s.pc,.sl E 0 s.regs.length,af o i,.acU s.ev]]⟩)::(E,⟨1,s.regs.map aa⟩)::(b2,⟨4,[[.acU 0,.nils,.nils,.acU 0]]⟩)::ab o 1 ((s.taint.take i).map eX))) (λi o=>o=none->i=0) none (λ_=>rfl) (ax.box (K:=[]) (.refl _) (.cons (.refl _) (.cons (.refl _) (.cons .nile (.cons (.refl _) .nil))))) ?_;intro i o hi ho;dsimp only;refine vw ?_;have D:((s.taint.take i).map eX).length=i:=by simp;omega
 have h0:o=none->(s.taint.take i).map eX=[]:=λe=>by rw[ho e];rfl
 rcases LE i s.taint.length with M|M
 .have hd:=aS M;have hx:=aj (f:=eX) M;have hr:=h3 _ (LT M)
  repeat' (first|refine sx ?_|refine dJ rp (λ_=>rfl) acP acS acS (λ_=>rfl) (λu B=>?_)|refine aM rp rp D h0 acP acQ acS acS acP (λu B=>?_)|refine sb λu B=>?_|refine s2 (λh=>?_) λh=>?_|fail)
  rename_i br _ _ _;refine⟨i+1,some u,acN,acN,nofun,?_⟩;refine ax.rowA (A:=[(Z,_),(E,_),(b2,_)]) (b:=u) (R:=[]) (rows':=(s.taint.take (i+1)).map eX) rp ?_ ?_ (by rw[av M acN]<;>rfl)
  .simp;omega
  .intro j r r' N G;rw[Fn M,ST]at G;rcases LE j i with S|S
   .rw[aaW (by rw[D];exact S)]at N G;rw[N]at G;cases G;exact fy.refl _ _
   .rw[aaL (by rw[D];exact S),D]at N G;generalize j-i=k at N G
    match k with
    |0=>cases N;cases G;exact .cons (Fz.sls (l:=s.taint[i]) rp rfl acR acQ) .nil
    |k+1=>simp at N
 .have hd:=aW M;have Y:i=s.taint.length:=by omega
  subst Y;rw[aaT (Fd _)];have O:o=none->s.taint=[]:=λe=>abU.1 (ho e)
  cases o with
  |none=>
   dsimp only[af,ab]
   repeat' (first|refine sy ?_|refine s2 ?_ ?_|intro)
   subst hQ;exact⟨.agg [.acU s.pc,.sl E 0 s.regs.length,.lst [],.acU s.ev],_,ax.pickV (R:=[(E,_)]) rp (λK=>.cons (Fz.aggs (.cons (.refl _) (.cons (.refl _) (.cons .emp (.cons (.refl _) .nil))))) .nil),some E,none,rfl,rfl,nofun,O⟩
  |some bl=>
   dsimp only[af,ab]
   repeat' (first|refine sy ?_|refine s2 ?_ ?_|intro)
   subst hQ;exact⟨_,_,ax.pick (R:=[(E,_),(bl,_)]) rp rfl,some E,some bl,rfl,rfl,nofun,O⟩
def ew(w:aG)(k:Nat):gO:=cf w.w w.init (w.ev.take k)
def i9(w:aF):∀(l:List bA) (s:gO) (e:bA),cf w s (l++[e])=gW w (cf w s l) e
 |[],s,e=>rfl
 |x::l,s,e=>i9 w l (gW w s x) e
def nJ{w:aG}{k:Nat}(h:k<w.ev.length):ew w (k+1)=gW w.w (ew w k) w.ev[k]:=by unfold ew;rw[Fn h,i9]
def oZ(w:aF):∀(l:List bA) (s:gO),jQ w s l->∀k (h:k<l.length),H7 w (cf w s (l.take k)) l[k]=true
 |x::l,s,H,0,h=>H.1
 |x::l,s,H,k+1,h=>oZ w l (gW w s x) H.2 k (by simpa using h)
def o4{w:aG}(H:eT w){k:Nat}(h:k<w.ev.length):H7 w.w (ew w k) w.ev[k]=true:=oZ w.w w.ev w.init H.play k h
def Od{l:List Int}{t u x:Int}(ht:inB t l.length=true)(j:inB u l.length=true):(l.set t.toNat x).getD u.toNat 0=if t=u then x else l.getD u.toNat 0:=by
 obtain⟨a,b⟩:=ao.1 ht;obtain⟨d,e⟩:=ao.1 j;by_cases g:t=u
 .subst g;rw[if_pos rfl];have:t.toNat<l.length:=by omega
  simp[List.getD,this]
 .rw[if_neg g];have:t.toNat≠u.toNat:=by omega
  simp[List.getD,this]
structure OkP(w:aF)(s:gO)(e:bA):Prop where
 fit:nB w s=true
 thr:inB e.thread w.threads.length=true
 k1:1<=e.kind
 k2:e.kind<=23
 en:aC w s.sync e.thread e.kind e.obj=true
 sit:Uh w e=true
 dep:Ui w e=true
 frm:Uj e=true
 nd:qN e.deps (aT s e.thread)
 nf:qN e.frm (aT s e.thread)
 val:H6 s e=true
def hM{w:aF}{s:gO}{e:bA}:H7 w s e=true↔OkP w s e:=by unfold H7;simp only[aas,decide_eq_true_eq];exact⟨λ⟨⟨⟨⟨⟨⟨⟨⟨⟨⟨a,b⟩,c⟩,d⟩,f⟩,g⟩,h⟩,i⟩,j⟩,k⟩,l⟩=>⟨a,b,c,d,f,g,h,i,iH.1 j,iH.1 k,l⟩,λ⟨a,b,c,d,f,g,h,i,j,k,l⟩=>⟨⟨⟨⟨⟨⟨⟨⟨⟨⟨a,b⟩,c⟩,d⟩,f⟩,g⟩,h⟩,i⟩,iH.2 j⟩,iH.2 k⟩,l⟩⟩
def dT{w:aF}{s:gO}:nB w s=true↔fitsS w s.sync=true/\s.cells.length=w.cells.length/\s.futures.length=w.futures.length/\s.count.length=w.threads.length:=by unfold nB;simp only[aas,decide_eq_true_eq];exact⟨λ⟨⟨⟨a,b⟩,c⟩,d⟩=>⟨a,b,c,d⟩,λ⟨a,b,c,d⟩=>⟨⟨⟨a,b⟩,c⟩,d⟩⟩
def w8{w:aG}(H:eT w){t:Int}(ht:inB t w.init.count.length=true):∀k,k<=w.ev.length->(ew w k).count.length=w.init.count.length/\aT (ew w k) t=aT w.init t+(cg w.ev t k).length
 |0,_=>⟨rfl,by simp[ew,cf,cg]⟩
 | k+1,u=>by
  have u:k<w.ev.length:=by omega
  obtain⟨B,M⟩:=w8 H ht k acN;have N:=hM.1 (o4 H u);have j:=N.thr;rw[<-(dT.1 H.fit).2.2.2]at j;obtain⟨_,Y⟩:=w8 H j k acN;have S:aT w.init w.ev[k].thread<=400/\0<=aT w.init w.ev[k].thread:=by
   obtain⟨a,b⟩:=ao.1 j;have E:w.ev[k].thread.toNat<w.init.count.length:=by omega
   have:=H.cnt _ (LT E);unfold aT;simp only[List.getD,mt E,abS];exact⟨this.2,this.1⟩
  have D:=H.len;have O:=ka w.ev w.ev[k].thread k;rw[nJ u];unfold gW aT;dsimp only;refine⟨by simp[B],?_⟩;rw[Od (by rw[B];exact j) (by rw[B];exact ht)];change (if _ then IntKind.i64.wrap (aT (ew w k) w.ev[k].thread+1)else aT (ew w k) t)=_;have G:w.ev.getD k ⟨0,0,0,0,0,[],[]⟩=w.ev[k]:=by simp[u]
  by_cases g:w.ev[k].thread=t
  .subst g;rw[if_pos rfl,M,H9 acN acN,eD,G,if_pos rfl];simp only[aal,ach,aT];omega
  .rw[if_neg g,M,eD,G,if_neg g];rfl
termination_by k=>k
def Dp{w:aF}{s:SyncD}{t k o:Int}(h:aC w s t k o=true):allowedS w k o=true:=by unfold aC at h;simp only[aas]at h;exact h.1.2
def iK{w:aF}{k o:Int}(h:allowedS w k o=true)(j:k=3\/k=4):inB o w.cells.length=true:=by unfold allowedS at h;rw[if_neg acN,if_pos j]at h;exact h
def o5{w:aF}{k o:Int}(h:allowedS w k o=true)(j:k=22\/k=23):inB o w.futures.length=true:=by
 unfold allowedS at h
 iterate 6 rw[if_neg acN]at h
 rw[if_pos j]at h;exact h
def RdT(ev:List bA):Prop:=∀(k:Nat) (hk:k<ev.length) (d:Int),d∈ev[k].deps\/d∈ev[k].frm->
 ∃(m:Nat) (hm:m<ev.length),m<k/\(ev[m]).thread=ev[k].thread/\((cg ev ev[k].thread m).length:Int)=d/\((ev[m]).kind=3\/(ev[m]).kind=23)
structure K4(w:aF)(ev:List bA):Prop where
 world:oK w
 play:jQ w (bG w) ev
 len:ev.length<=400
 rds:RdT ev
def Ot{l:List Int}{n:Int}(h:qN l n):∀i (j:i<l.length),(i:Int)+1<=l[i]
 |0,j=>by have:=(h 0 j).1;simpa using this
 | i+1,j=>by have B:=Ot h i acN;have u:=(h (i+1) j).2.2 acN;simp only[Nat.add_sub_cancel,List.getD,mt (show i<l.length by omega),abS]at u;omega
def PK{l:List Int}{n:Int}(h:qN l n):(l.length:Int)<=n\/l=[]:=by
 cases j:l.length with
 |zero=>exact .inr (ace j)
 |succ k=>have B:=Ot h k acN;have u:=(h k acN).2.1;exact .inl acN
def PL(w:aF):∀(a b:List bA) (s:gO),cf w s (a++b)=cf w (cf w s a) b
 |[],b,s=>rfl
 |x::a,b,s=>PL w a b (gW w s x)
def jd(w:aF):∀(a b:List bA) (s:gO),jQ w s (a++b)↔jQ w s a/\jQ w (cf w s a) b
 |[],b,s=>by simp[jQ,cf]
 | x::a,b,s=>by show H7 w s x=true/\jQ w (gW w s x) (a++b)↔(H7 w s x=true/\jQ w (gW w s x) a)/\jQ w (cf w (gW w s x) a) b;rw[jd w a b,and_assoc]
def Ou(a b:List bA)(t:Int):∀j,j<=b.length->cg (a++b) t (a.length+j)=cg a t a.length++(cg b t j).map λx=>x+(a.length:Int)
 | 0,_=>by
  have:∀k,k<=a.length->cg (a++b) t k=cg a t k:=by
   intro k
   induction k with
   |zero=>intro _;rfl
   |succ k u=>
    intro h;rw[eD,eD,u acN];have:(a++b).getD k ⟨0,0,0,0,0,[],[]⟩=a.getD k ⟨0,0,0,0,0,[],[]⟩:=by simp[aaW (show k<a.length by omega)]
    rw[this]
  simpa[cg]using this a.length (Fd _)
 | j+1,h=>by
  have u:=Ou a b t j acN;rw[show a.length+(j+1)=(a.length+j)+1 by omega,eD,eD,u];have:(a++b).getD (a.length+j) ⟨0,0,0,0,0,[],[]⟩=b.getD j ⟨0,0,0,0,0,[],[]⟩:=by simp[aaL (show a.length<=a.length+j by omega)]
  rw[this];split
  .rw[ST,abr];congr 2;simp;omega
  .rfl
def DI(ev:List bA)(t:Int)(n:Nat):∀k,k<=n->cg (ev.take n) t k=cg ev t k
 |0,_=>rfl
 | k+1,h=>by
  rw[eD,eD,DI ev t n k acN];have:(ev.take n).getD k ⟨0,0,0,0,0,[],[]⟩=ev.getD k ⟨0,0,0,0,0,[],[]⟩:=by simp[show k<n by omega]
  rw[this]
def yS(w:aF):(bG w).count.length=w.threads.length/\(∀l∈(bG w).sync.locks,l.readers.length<=0):=by refine⟨by simp[bG],λl j=>?_⟩;have:l=⟨-1,[]⟩:=List.eq_of_mem_replicate j;rw[this];exact Fd _
structure aaX(w:aF)(ev:List bA)(k:Nat)(s:gO):Prop where
 cl:s.count.length=w.threads.length
 cnt:∀t,inB t w.threads.length=true->aT s t=(cg ev t k).length
 rd:∀l∈s.sync.locks,l.readers.length<=k
def aft{w:aF}{ev:List bA}(H:K4 w ev):∀k,k<=ev.length->aaX w ev k (cf w (bG w) (ev.take k))
 | 0,_=>⟨(yS w).1,λt ht=>by
   obtain⟨a,b⟩:=ao.1 ht;show aT (bG w) t=_;have:t.toNat<w.threads.length:=by omega
   simp[aT,bG,cg,List.getD,this],(yS w).2⟩
 | k+1,h=>by
  have A:=aft H k acN;have u:k<ev.length:=by omega
  have B:=hM.1 (oZ w ev (bG w) H.play k u);have j:=B.thr;have D:=H.len;rw[Fn u,i9];refine⟨by unfold gW;simp[A.cl],λt ht=>?_,?_⟩
  .unfold gW aT;dsimp only;rw[Od (by rw[A.cl];exact j) (by rw[A.cl];exact ht)];have G:ev.getD k ⟨0,0,0,0,0,[],[]⟩=ev[k]:=by simp[u]
   have E:=ka ev ev[k].thread k;rw[eD,G];by_cases g:ev[k].thread=t
   .subst g;rw[if_pos rfl,if_pos rfl];change IntKind.i64.wrap (aT _ _+1)=_;rw[A.cnt _ j,H9 acN acN];simp
   .rw[if_neg g,if_neg g];exact A.cnt t ht
  .unfold gW;dsimp only;rw[(uH B.en).1];exact(rT A.rd).rd
def DJ(w:aF)(ev:List bA)(a n:Nat):aG:=⟨w,a,cf w (bG w) (ev.take a),(ev.drop a).take n⟩
def XC{w:aF}{ev:List bA}(H:K4 w ev){a n:Nat}(ha:a<ev.length)(hn:0<n):eT (DJ w ev a n):=by
 have hlen:=H.len;have A:=aft H a acN;have u:ev=ev.take a++ev.drop a:=(acr a ev).symm;have hp:=H.play;rw[u,jd]at hp;have S:=hp.2;rw[(acr n (ev.drop a)).symm,jd]at S;have hwl:((ev.drop a).take n).length<=400:=by simp;omega
 have ho0:=hM.1 (oZ w ev (bG w) H.play a ha);have hcnt:∀x∈(cf w (bG w) (ev.take a)).count,0<=x/\x<=400:=λx hx=>by obtain⟨i,hi,rfl⟩:=abC hx;have:=A.cnt (i:Int) (ao.2 ⟨acN,by rw[<-A.cl];omega⟩);unfold aT at this;simp only[abw,List.getD,mt hi,abS]at this;have D:=ka ev i a;omega
 have hrd:∀l∈(cf w (bG w) (ev.take a)).sync.locks,l.readers.length<=400:=λl hl=>by have:=A.rd l hl;omega
 have N:∀(k:Nat) (M:k<((ev.drop a).take n).length),∃E:a+k<ev.length,((ev.drop a).take n)[k]=ev[a+k]:=λk M=>by
  have:k<n/\a+k<ev.length:=by simp at M;omega
  exact⟨this.2,acQ⟩
 refine⟨H.world,ho0.fit,hwl,hcnt,hrd,S.1,λe he=>?_,?_⟩
 .obtain⟨k,M,rfl⟩:=abC he;obtain⟨E,e2⟩:=N k M;show wO (((ev.drop a).take n)[k]);rw[e2];have Y:=hM.1 (oZ w ev (bG w) H.play (a+k) E);have hc:=(aft H (a+k) acN).cnt _ Y.thr;have D:=ka ev (ev[a+k]).thread (a+k);have nd:=Y.nd;have nf:=Y.nf;rw[hc]at nd nf;have sh:∀l,qN l ((cg ev (ev[a+k]).thread (a+k)).length:Int)->l.length<=2^30:=λl h=>by
   rcases PK h with g|g
   .omega
   .rw[g];exact abt _
  exact⟨sh _ nd,sh _ nf⟩
 .intro k M d hd D;change k<((ev.drop a).take n).length at M;obtain⟨E,e2⟩:=N k M;change d∈(((ev.drop a).take n)[k]).deps\/d∈(((ev.drop a).take n)[k]).frm at hd;change aT (cf w (bG w) (ev.take a)) (((ev.drop a).take n)[k]).thread<=d at D;show(jA (DJ w ev a n) (ep (DJ w ev a n) (((ev.drop a).take n)[k]).thread (d-aT (cf w (bG w) (ev.take a)) (((ev.drop a).take n)[k]).thread))).kind=3\/_;change _\/(jA (DJ w ev a n) (ep (DJ w ev a n) (((ev.drop a).take n)[k]).thread (d-aT (cf w (bG w) (ev.take a)) (((ev.drop a).take n)[k]).thread))).kind=23;rw[e2]at hd D ⊢;obtain⟨m,hm,hmk,O,hmd,hrk⟩:=H.rds (a+k) E d hd;have Y:=hM.1 (oZ w ev (bG w) H.play (a+k) E);have hca:=A.cnt _ Y.thr;rw[hca]at D ⊢;generalize(ev[a+k]).thread=t at *;have ham:a<=m:=by
   rcases LE m a with g|g
   .exfalso;have:(cg ev t m).length<(cg ev t a).length:=by obtain⟨r,hr⟩:=A5 ev t a (m+1) acN;rw[hr,eD,if_pos (by simpa[hm]using O)];simp
    omega
   .exact g
  obtain⟨j,rfl⟩:∃j,m=a+j:=⟨m-a,acN⟩;have hjk:j<k:=by omega
  have B:j<((ev.drop a).take n).length:=by omega
  obtain⟨_,e3⟩:=N j B;have hal:(ev.take a).length=a:=by simp;omega
  have hoj:cg ev t (a+j)=cg ev t a++(cg (ev.drop a) t j).map λx=>x+(a:Int):=by have:=Ou (ev.take a) (ev.drop a) t j (by simp at B ⊢;omega);rw[<-u,hal]at this;rw[this,DI ev t a a (Fd _)]
  have Z:d-((cg ev t a).length:Int)=((cg ((ev.drop a).take n) t j).length:Nat):=by rw[DI (ev.drop a) t n j (by simp at B;omega),<-hmd,hoj];simp;omega
  have G:=N4 (ev:=(ev.drop a).take n) (t:=t) (m:=j) (n:=((ev.drop a).take n).length) B (by simp only[List.getD,mt B,abS];rw[e3];exact O);have hN:ep (DJ w ev a n) t (d-((cg ev t a).length:Int))=(j:Int):=by unfold ep eC;show(if inB _ (cg ((ev.drop a).take n) t ((ev.drop a).take n).length).length then(cg ((ev.drop a).take n) t ((ev.drop a).take n).length).getD _ 0 else -1)=(j:Int);rw[Z,if_pos (ao.2 ⟨acN,by have:=(abL.1 G).1;omega⟩),abw];simp only[List.getD];rw[G];rfl
  rw[hN];have:jA (DJ w ev a n) (j:Int)=ev[a+j]:=by rw[gq (w:=DJ w ev a n) (k:=j) B];exact e3
  rw[this];exact hrk
def MR:List cF:=[⟨0,0,1⟩,⟨0,1,2⟩,⟨0,2,3⟩,⟨0,3,4⟩,⟨0,4,5⟩,⟨0,5,6⟩,⟨1,0,11⟩,⟨1,1,12⟩,⟨1,2,13⟩,⟨1,3,14⟩,⟨1,4,15⟩,⟨1,5,16⟩,⟨2,0,21⟩,⟨2,1,22⟩,⟨2,2,23⟩,⟨2,3,24⟩,⟨2,4,25⟩,⟨2,5,26⟩,⟨3,0,31⟩,⟨3,1,32⟩,⟨3,2,33⟩,⟨3,3,34⟩,⟨3,4,35⟩,⟨3,5,36⟩]
def bK:aF:=⟨[⟨[120],0,0,false,0⟩,⟨[121],0,0,false,1⟩,⟨[118],0,0,true,0⟩,⟨[113],0,2,false,0⟩,⟨[113],1,2,false,0⟩],[⟨[109],false⟩,⟨[110],false⟩,⟨[114],true⟩],[⟨[99],0⟩],[[102]],[[109,97,105,110],[116,49],[116,50],[116,51]],MR⟩
def aaZ:CL (⟨[113],0,2,false,0⟩:aU) [⟨[113],0,2,false,0⟩,⟨[113],1,2,false,0⟩]:=by
 constructor
 all_goals first
  |decide
  |rfl
  |skip
 intro k j;have j:(k:Int)<2:=j;have j:k<2:=by omega
 match k,j with
 |0,_|1,_=>rfl
def yT:oK bK:=by
 refine⟨acR,acR,acR,acR,acR,acR,acR,⟨[[120],[121],[118],[113]],?_,?_,?_⟩,?_,?_⟩
 .exact .one _ _ _ rfl rfl (.one _ _ _ rfl rfl (.one _ _ _ rfl rfl (.arr _ _ _ acR aaZ .nil)))
 .decide
 .decide
 .intro c j;rw[aag.1 j];rfl
 .show Kd 4 0 0 MR;unfold MR
  repeat' (first|exact trivial|refine⟨acR,acR,acR,?_⟩)
abbrev zM:=List (Option Nat×List Int)
def dU(rs:zM):SH:=rs.flatMap λp=>ab p.1 1 (p.2.map aa)
def fO(rs:zM):List (List AV):=rs.map λp=>[af p.1 p.2.length]
def je(p:Option Nat×List Int)(rs:zM):dU (p::rs)=ab p.1 1 (p.2.map aa)++dU rs:=by simp[dU]
def uV:∀(rs:zM) (u:Nat) (h:u<rs.length),(dU rs).Perm (ab rs[u].1 1 (rs[u].2.map aa)++dU (rs.eraseIdx u))
 |[],u,h=>absurd h acQ
 |p::rs,0,h=>by rw[je];exact .refl _
 | p::rs,u+1,h=>by have j:=uV rs u (by simpa using h);rw[je,List.eraseIdx_cons_succ,je];simp only[List.getElem_cons_succ];refine(j.append_left _).trans ?_;rw[<-List.append_assoc,<-List.append_assoc];exact aar.append_right _
def GK(rs:zM)(u:Nat)(h:u<rs.length)(x:Option Nat×List Int):(dU (rs.set u x)).Perm (ab x.1 1 (x.2.map aa)++dU (rs.eraseIdx u)):=by
 have:=uV (rs.set u x) u (by simpa using h)
 rwa [List.eraseIdx_set_eq,List.getElem_set_self]at this
def DQ{rs:zM}{u:Nat}(h:u<rs.length):(fO rs)[u]? =some [af rs[u].1 rs[u].2.length]:=by simp[fO,h]
def GL(rs:zM)(u:Nat)(x:Option Nat×List Int):(fO rs).set u [af x.1 x.2.length]=fO (rs.set u x):=by simp[fO,abT]
def Sv(n:Nat)(rs:zM):Prop:=rs.length=4/\∀p∈rs,(p.1=none->p.2=[])/\p.2.length<=n
def IE{n:Nat}{rs:zM}(H:Sv n rs)(u:Nat){x:Option Nat×List Int}(j:x.1=none->x.2=[])(h2:x.2.length<=n):Sv n (rs.set u x):=by
 refine⟨by simpa using H.1,λp hp=>?_⟩;rcases aca hp with h|rfl
 .exact H.2 p h
 .exact⟨j,h2⟩
def PU{j:List cb}:∀(k:Nat) {s y:bI},gA j k s=(y,true)->inB y.pc j.length=true/\((j.getD y.pc.toNat default).op<1\/5<(j.getD y.pc.toNat default).op):=by
 intro k
 induction k with
 |zero=>
  intro s y h;unfold gA at h
  repeat' split at h
  all_goals first
   |(cases h;exact⟨acO,acO⟩)
   |cases h
 |succ k u=>
  intro s y h;unfold gA at h;split at h
  .split at h
   .cases h;exact⟨acO,acO⟩
   .split at h
    .cases h
    .exact u h
  .cases h
def zO{c:i6}{s y:bI}(h:cD c s=(y,true)):inB y.pc c.ins.length=true/\((cK c y.pc).op<1\/5<(cK c y.pc).op)/\(y.regs.length:Int)=c.regs:=by
 have u:=Gr h;unfold cD at h;split at h
 .rename_i j;have:=PU _ h;exact⟨this.1,this.2,by rw[u.2];exact j.1⟩
 .cases h
def XL{w:aF}{s:SyncD}{t k o wake:Int}(B:aC w s t k o=true)(j:Nat)(E:(j:Int)≠t)(h:(a8 (bF w s t k o wake).1 j).status=2):(a8 s j).status=2:=by
 unfold aC at B;simp only[aas]at B;have D:=ao.1 B.1.1.2;have u:∀x:ThrD,(s.threads.set t.toNat x).getD j default=s.threads.getD j default:=λx=>by
  have:t.toNat≠j:=by omega
  simp[List.getD,abs,this]
 rcases wF k with g|g
 .rw[fD g]at B;exact absurd B.1.2 acQ
 rcases g with rfl|rfl|rfl|rfl|rfl|rfl|rfl|rfl|rfl|rfl|rfl|rfl|rfl|rfl|rfl|rfl|rfl|rfl|rfl|rfl|rfl|rfl|rfl
 all_goals simp only[bF,Int.reduceEq,if_true,if_false,or_true,true_or,or_false,or_self,↓reduceIte,a8,abw,dZ]at h ⊢
 all_goals try rw[u]at h
 all_goals first
  |exact h
  |skip
 ·
  unfold fI at h;split at h
  .unfold gj at h;by_cases e:(da s.threads o wake).toNat=j
   .rw[e]at h;rcases LE j s.threads.length with g|g
    .simp[List.getD,g]at h
    .simp[List.getD,abs,g]at h;simp[List.getD,aah g];exact h
   .simpa[List.getD,abs,e]using h
  .exact h
 ·
  unfold Gk at h;rcases LE j s.threads.length with g|g
  .simp only[List.getD,eW _ _ _ _ g,abS]at h;split at h
   .exact absurd h acQ
   .simpa[List.getD,g]using h
  .have:(dt s.threads o s.threads.length)[j]? =none:=aah (by rw[c9];exact g);simp[List.getD,this]at h;simp[List.getD,aah g];exact h
 ·
  by_cases e:o.toNat=j
  .rw[e]at h;rcases LE j s.threads.length with g|g
   .simp[List.getD,g]at h
   .simp[List.getD,abs,g]at h;simp[List.getD,aah g];exact h
  .simpa[List.getD,abs,e]using h
structure rF(c:bP)(s:eE):Prop where
 th:s.threads.length=c.ts.length
 sy:s.sync.threads.length=c.ts.length
 pc:∀t:Nat,t<c.ts.length->inB (aI s t).pc (aE c t).ins.length=true/\((aI s t).regs.length:Int)=(aE c t).regs
 run:∀t:Nat,t<c.ts.length->(a8 s.sync t).status=2->jv (cK (aE c t) (aI s t).pc).op≠0
def XM{op:Int}(j:6<=op)(h2:op<=28):jv op≠0:=by
 have:∀k:Nat,k<29->6<=k->Bi.getD k 0≠0:=by decide
 unfold jv;exact this op.toNat acN acN
def GP{c:bP}{s D:eE}{t wake:Int}{N:bA}(h:nz c s t wake=some (D,N)):∃(e:bA) (j:bI),eI c s t=some e/\aC c.w s.sync t e.kind e.obj=true/\D.sync=(bF c.w s.sync t e.kind e.obj wake).1/\D.threads=s.threads.set t.toNat j/\
  ((e.kind=16\/e.kind=2)/\j.pc=(aI s t).pc/\j.regs.length=(aI s t).regs.length\/∃a,cD (aE c t) a=(j,true)):=by
 rw[wL]at h;cases hp:eI c s t with
 |none=>rw[hp]at h;cases h
 |some e=>
  rw[hp]at h;dsimp only at h;split at h
  .split at h
   .rename_i E;have u:aC c.w s.sync t e.kind e.obj=true:=by
     unfold dx at E;split at E
     .assumption
     .cases E
    have B:(dx c.w s.sync t e.kind e.obj wake).1=(bF c.w s.sync t e.kind e.obj wake).1:=by unfold dx;rw[if_pos u]
    unfold Au at h;split at h
    .split at h
     .rename_i M;cases h;exact⟨e,_,rfl,u,B,rfl,.inr ⟨_,Prod.ext rfl M⟩⟩
     .cases h
    .rename_i O;cases h;have G:e.kind=16\/e.kind=2:=by omega
     refine⟨e,_,rfl,u,B,rfl,.inl ⟨G,?_,oM.2.1⟩⟩;unfold fe;rw[if_neg acN,if_neg acN,if_neg acN,if_neg acN,if_neg acN,if_neg acN,if_pos acN]
   .cases h
  .cases h
def Lg(w:aF)(s:SyncD)(t k o wake:Int):(bF w s t k o wake).1.threads.length=s.threads.length:=by
 unfold bF
 repeat' refine iteInduction (motive:=λx:SyncD×Int=>x.1.threads.length=s.threads.length) (λ_=>?_) (λ_=>?_)
 all_goals simp[dZ,yw,c9,Gk]
def uY{c:bP}{t:Nat}(h:t<c.ts.length):aE c t=c.ts[t]:=by simp[aE,h]
def Lh{c:bP}{s s':eE}{t wake:Int}{e':bA}(hc:lx c)(H:rF c s)(h:nz c s t wake=some (s',e')):rF c s':=by
 obtain⟨e,u,hp,hen,B,G,hz⟩:=GP h;have htl:inB t c.ts.length=true:=by
  unfold eI at hp;split at hp
  .rename_i hr;exact(gk hr).1
  .cases hp
 obtain⟨t0,t1⟩:=ao.1 htl;have zV:∀j:Nat,aI s' j=if(j:Int)=t then u else aI s j:=λj=>by
  unfold aI;rw[G,abw];by_cases e:(j:Int)=t
  .have:t.toNat=j:=by omega
   have S:j<s.threads.length:=by rw[H.th];omega
   rw[if_pos e,this];simp[List.getD,S]
  .have:t.toNat≠j:=by omega
   rw[if_neg e];simp[List.getD,abs,this]
 have M:=H.pc t.toNat acN;rw[abD t0]at M;have key:inB u.pc (aE c t).ins.length=true/\(u.regs.length:Int)=(aE c t).regs:=by
  rcases hz with⟨_,E,h2⟩|⟨a,E⟩
  .rw[E,h2];exact M
  .obtain⟨Z,_,q3⟩:=zO E;exact⟨Z,q3⟩
 refine⟨by rw[G,List.length_set];exact H.th,by rw[B,Lg];exact H.sy,λj S=>?_,λj S D=>?_⟩
 .rw[zV];by_cases e:(j:Int)=t
  .rw[if_pos e,e];exact key
  .rw[if_neg e];exact H.pc j S
 .rw[zV];by_cases Y:(j:Int)=t
  .rw[if_pos Y,Y];rw[B,Y]at D;rcases hz with⟨N,_,_⟩|⟨a,E⟩
   .exfalso;have O:t.toNat<s.sync.threads.length:=by rw[H.sy];omega
    rcases N with N|N
    .rw[N]at D;simp[bF,a8,dZ,O]at D
    .rw[N]at D;simp[bF,a8,dZ,O]at D
   .obtain⟨Z,q2,q3⟩:=zO E;obtain⟨p0,p1⟩:=ao.1 Z;have hT:=hc.thr t.toNat acN;have hce:aE c t=c.ts[t.toNat]'acN:=by have:=uY (c:=c) (t:=t.toNat) acN;rw[abD t0]at this;exact this
    rw[hce]at Z q2 p1 ⊢;have hi:=hT.ins u.pc.toNat acN;have hia:cK (c.ts[t.toNat]'acN) u.pc=(c.ts[t.toNat]'acN).ins[u.pc.toNat]'acN:=by
     unfold cK;have:u.pc.toNat<(c.ts[t.toNat]'acN).ins.length:=by omega
     simp[List.getD,this]
    rw[hia]at q2 ⊢;have E:=hi.lo;have h2:=hi.hi;exact XM acN h2
  .rw[if_neg Y];refine H.run j S ?_;rw[B]at D;exact XL hen j Y D
def GQ{c:bP}(D:lx c):rF c (du c):=by
 have G:=D.len;refine⟨by simp[du],?_,λt B=>?_,λt B u=>?_⟩
 .unfold du bM;simp[G]
 .have E:=D.thr t B;have zV:aI (du c) t=⟨0,List.replicate (c.ts[t]).regs.toNat 0,List.replicate (c.ts[t]).regs.toNat [],0⟩:=by simp[aI,du,B]
  rw[zV,uY B];have:=E.ne;have:=E.r0;exact⟨ao.2 ⟨acQ,acS⟩,acS⟩
 .exfalso;unfold du bM a8 at u;dsimp only at u;rw[Int.toNat_natCast]at u;have j:t<c.w.threads.length:=by omega
  rcases t with _|t
  .simp[List.getD,j]at u
  .simp[List.getD,abs,j]at u
def SL{c:bP}{p:List bA×eE}{ch:aD}(u:lx c)(h:rF c p.2):rF c (IU c p ch).2:=by
 unfold IU;split
 .exact h
 .split
  .exact h
  .rename_i n e j;exact Lh u h j
def U5{c:bP}(u:lx c)(l:List aD){p:List bA×eE}(h:rF c p.2):rF c (gV c l p).2:=by
 induction l generalizing p with
 |nil=>exact h
 |cons B l j=>exact j (SL u h)
