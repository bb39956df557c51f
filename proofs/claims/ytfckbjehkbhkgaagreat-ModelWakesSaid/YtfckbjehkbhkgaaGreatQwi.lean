/- part -/
import Derived.Test.YtfckbjehkbhkgaaGreatQwg
import Derived.WalkSpells
import Derived.Deep.DeepMust
set_option linter.all false
set_option maxRecDepth 100000
set_option maxHeartbeats 0
namespace Go.Proofs.YtfckbjehkbhkgaaGreat.Am
def tG:RF:=nv (bQ Tryz.prog Tryz.f71 [(12,⟨[2,33,34,35],[],true,[]⟩)] [(0,[2,3]),(5,[6])])
abbrev ET(a b:AV)(L:SH)(Q:R):Prop:=Pc tG 20 Q 0 [] [a,b] L
def Cz(u j:AV)(L:SH)(Q:R)(h:ET u j L Q):ac Tryz.prog 71 [u,j] L Q:=
 fv tG Tryz.func71 h
def mZ:RF:=nv (bQ Tryz.prog Tryz.f46 [] [(0,[5,6]),(3,[11])])
abbrev yi(a b c d e:AV)(L:SH)(Q:R):Prop:=Pc mZ 20 Q 0 [] [a,b,c,d,e] L
def wB(E D B u j:AV)(L:SH)(Q:R)(h:yi E D B u j L Q):ac Tryz.prog 46 [E,D,B,u,j] L Q:=
 fv mZ Tryz.func46 h
def ng:RF:=nv (bQ Tryz.prog Tryz.f73 [(96091,⟨[2,3,79],[],true,[]⟩),(87082,⟨[2,3,7,71],[],true,[]⟩),(78073,⟨[2,3,7,61],[],true,[]⟩),(63058,⟨[2,3,7,43],[],true,[]⟩),(48043,⟨[2,3,7,26],[],true,[]⟩),(39034,⟨[2,3,7,18],[],true,[]⟩),(30025,⟨[2,3,7,8],[],true,[]⟩)] [(0,[3])])
abbrev yj(a b c:AV)(L:SH)(Q:R):Prop:=Pc ng 20 Q 0 [] [a,b,c] L
def wC(B u j:AV)(L:SH)(Q:R)(h:yj B u j L Q):ac Tryz.prog 73 [B,u,j] L Q:=
 fv ng Tryz.func73 h
def qE:RF:=nv (bQ Tryz.prog Tryz.f74 [(75070,⟨[2,4,5,6,11,109],[],true,[]⟩),(33028,⟨[2,4,5,6,11,60],[],true,[]⟩)] [(0,[5,6])])
abbrev fj(a b c d e:AV)(L:SH)(Q:R):Prop:=Pc qE 20 Q 0 [] [a,b,c,d,e] L
def Aj(E D B u j:AV)(L:SH)(Q:R)(h:fj E D B u j L Q):ac Tryz.prog 74 [E,D,B,u,j] L Q:=
 fv qE Tryz.func74 h
def qF:RF:=nv (bQ Tryz.prog Tryz.f110 [] [(0,[2])])
abbrev CA(a b:AV)(L:SH)(Q:R):Prop:=Pc qF 20 Q 0 [] [a,b] L
def Ak(u j:AV)(L:SH)(Q:R)(h:CA u j L Q):ac Tryz.prog 110 [u,j] L Q:=
 fv qF Tryz.func110 h
def iD:RF:=nv (bQ Tryz.prog Tryz.f78 [(2411,⟨[1,2,32],[],true,[]⟩),(9,⟨[1,2,3,11,12,13],[],true,[]⟩)] [(4,[5])])
abbrev Al(Q:R)(a b c:AV)(d:SH):Prop:=Pc iD 18 Q 2411 [] [a,b,c] d
abbrev An(Q:R):Vs->SH->Kn->Prop:=Lp iD 19 Q 9 []
abbrev CB(a:AV)(L:SH)(Q:R):Prop:=Pc iD 20 Q 0 [] [a] L
def Ao(j:AV)(L:SH)(Q:R)(h:CB j L Q):ac Tryz.prog 78 [j] L Q:=
 fv iD Tryz.func78 h
def pq:RF:=nv (bQ Tryz.prog Tryz.f83 [(9,⟨[1,2,3,7,11,12,13],[],true,[]⟩)] [(0,[3]),(4,[9])])
abbrev Ap(a b c:AV)(L:SH)(Q:R):Prop:=Pc pq 20 Q 0 [] [a,b,c] L
def yk(B u j:AV)(L:SH)(Q:R)(h:Ap B u j L Q):ac Tryz.prog 83 [B,u,j] L Q:=
 fv pq Tryz.func83 h
def kO:RF:=nv (bQ Tryz.prog Tryz.f84 [(9,⟨[1,2,5,9,10,11],[],true,[]⟩)] [(0,[2]),(4,[7])])
abbrev uB(a b:AV)(L:SH)(Q:R):Prop:=Pc kO 20 Q 0 [] [a,b] L
def sJ(u j:AV)(L:SH)(Q:R)(h:uB u j L Q):ac Tryz.prog 84 [u,j] L Q:=
 fv kO Tryz.func84 h
def pr:RF:=nv (bQ Tryz.prog Tryz.f72 [] [])
abbrev Aq(a b:AV)(L:SH)(Q:R):Prop:=Pc pr 20 Q 0 [] [a,b] L
def yl(u j:AV)(L:SH)(Q:R)(h:Aq u j L Q):ac Tryz.prog 72 [u,j] L Q:=
 fv pr Tryz.func72 h
def fM:RF:=nv (bQ Tryz.prog Tryz.f45 [] [])
abbrev jH(a b:AV)(L:SH)(Q:R):Prop:=Pc fM 20 Q 0 [] [a,b] L
def jt(u j:AV)(L:SH)(Q:R)(h:jH u j L Q):ac Tryz.prog 45 [u,j] L Q:=
 fv fM Tryz.func45 h
def gL:RF:=nv (bQ Tryz.prog Tryz.f70 [(6,⟨[0,1,7,8],[],true,[]⟩)] [])
abbrev lq(a b:AV)(L:SH)(Q:R):Prop:=Pc gL 20 Q 0 [] [a,b] L
def kP(u j:AV)(L:SH)(Q:R)(h:lq u j L Q):ac Tryz.prog 70 [u,j] L Q:=
 fv gL Tryz.func70 h
def fC:RF:=nv (bQ Tryz.prog Tryz.f109 [(6,⟨[0,1,7,8],[],true,[]⟩)] [])
abbrev ju(a b:AV)(L:SH)(Q:R):Prop:=Pc fC 20 Q 0 [] [a,b] L
def i4(u j:AV)(L:SH)(Q:R)(h:ju u j L Q):ac Tryz.prog 109 [u,j] L Q:=
 fv fC Tryz.func109 h
def fk:RF:=nv (bQ Tryz.prog Tryz.f81 [(15,⟨[0,1,5,6],[],true,[]⟩)] [])
abbrev i5(a b:AV)(L:SH)(Q:R):Prop:=Pc fk 20 Q 0 [] [a,b] L
def iN(u j:AV)(L:SH)(Q:R)(h:i5 u j L Q):ac Tryz.prog 81 [u,j] L Q:=
 fv fk Tryz.func81 h
def np:RF:=nv (bQ Tryz.prog Tryz.f82 [] [])
abbrev ym(a b:AV)(L:SH)(Q:R):Prop:=Pc np 20 Q 0 [] [a,b] L
def wD(u j:AV)(L:SH)(Q:R)(h:ym u j L Q):ac Tryz.prog 82 [u,j] L Q:=
 fv np Tryz.func82 h
def NY(s:bI)(v:AV)(L:SH):Prop:=
 ∃(o t:Option Nat),v=.agg [.acU s.pc,cU o s.regs.length,cU t s.taint.length,.acU s.ev]/\L=ab o 1 (s.regs.map aa)++ab t 1 (s.taint.map eX)/\(o=none->s.regs=[])/\(t=none->s.taint=[])
section
def gN(s:bI)(o t:Option Nat):List AV:=[.acU s.pc,cU o s.regs.length,cU t s.taint.length,.acU s.ev]
def Tp(s:bI)(bs:Nat)(o t:Option Nat):SH:=(bs,⟨4,[gN s o t]⟩)::(ab o 1 (s.regs.map aa)++ab t 1 (s.taint.map eX))
theorem lQ{s:bI}{r:Int}:s.has r=true↔∃k:Nat,r=k/\k<s.regs.length:=by unfold bI.has;rw[ao];exact⟨λ⟨u,j⟩=>⟨r.toNat,acN,acN⟩,λ⟨k,u,j⟩=>by omega⟩
theorem lR{o:Option Nat}{α:Type}{l:List α}{k:Nat}(h:o=none->l=[])(j:k<l.length):∃b,o=some b:=by
 cases o with
 |none=>rw[h rfl]at j;simp at j
 |some b=>exact⟨b,rfl⟩
section
variable (s:bI) (bs:Nat) (o t:Option Nat) (ho:o=none->s.regs=[]) (ht:t=none->s.taint=[]) (hlen:s.taint.length=s.regs.length) (hsm:s.regs.length<2^40) (hsh:∀l∈s.taint,l.length<=2^30) (ia ib ic n site:Int)
include ho ht hlen hsm hsh
end
end
section
def qM:List AV:=[.acU 0,.nils,.nils,.acU 0]
theorem HV{P:Program}{KL R1:AV->SH->Prop}{g:FuncId}{args:List AV}{L K R:SH}(h:ac P g args K R1)(E:L.Perm (K++R))(D:∀v j,R1 v j->KL v (R++j)):W.callM P g args L KL:=
 ⟨.perm (h.frame E λu j B=>⟨R++j,aar,D u j B⟩)⟩
theorem wK(s:bI)(a v:Int)(t:List Int):(s.put a v t).regs.length=s.regs.length/\(s.put a v t).taint.length=s.taint.length:=by simp[bI.put]
theorem Gp{s s2:bI}{i:cb}(j:cL i s=some s2):s2.regs.length=s.regs.length/\s2.taint.length=s.taint.length:=by
 unfold cL at j;split at j
 .split at j
  .cases j;exact wK _ _ _ _
  .cases j
 .split at j
  .split at j
   .cases j;exact wK _ _ _ _
   .cases j
  .split at j
   .split at j
    .cases j;exact wK _ _ _ _
    .cases j
   .split at j
    .split at j
     .cases j;exact wK _ _ _ _
     .cases j
    .cases j;exact⟨rfl,rfl⟩
theorem nu{α:Type}{K:SH}{f:α->List AV}{l:List α}{o:Option Nat}{n:Nat}(j:n=l.length)(B:o=none->l=[])(u:∀b,o=some b->(b,(⟨1,l.map f⟩:Blk))∈K):Fz K (cU o n) (.lst (l.map f)):=by
 cases o with
 |none=>rw[B rfl];exact .refl _
 |some b=>exact Fz.sls (u b rfl) rfl acR j
theorem Uc{K:SH}{s:bI}{o t:Option Nat}(ho:o=none->s.regs=[])(ht:t=none->s.taint=[])(h:∀p∈ab o 1 (s.regs.map aa)++ab t 1 (s.taint.map eX),p∈K):Fz K (.agg (gN s o t)) (.agg s.enc):=
 Fz.aggs (.cons (.refl _) (.cons (nu rfl ho λb e=>h _ (by subst e;simp[ab])) (.cons (nu rfl ht λb e=>h _ (by subst e;simp[ab])) (.cons (.refl _) .nil))))
theorem HW(K:SH):Fz K (.agg qM) (.agg bI.zero.enc):=Fz.aggs (.cons (.refl _) (.cons .nils (.cons .nils (.cons (.refl _) .nil))))
theorem HX{K:SH}{a b:AV}{u:Bool}(h:Fz K a b):Fz K (.tup [a,.bool u]) (.tup [b,.bool u]):=.tup _ _ rfl λi x y j B=>by
 match i with
 |0=>cases j;cases B;exact h
 |1=>cases j;cases B;exact .refl _
 |i+2=>simp at j
theorem NZ{ins:List cb}{k:Nat}{s:bI}(h:inB s.pc ins.length=false):gA ins k s=(bI.zero,false):=by cases k<;>simp[gA,h]
theorem Rn{ins:List cb}{k:Nat}{s:bI}(h:inB s.pc ins.length=true)(h2:(ins.getD s.pc.toNat default).op<1\/5<(ins.getD s.pc.toNat default).op):gA ins k s=(s,true):=by cases k<;>simp only[gA,h,if_true,if_pos h2]
theorem Ro{ins:List cb}{k:Nat}{s:bI}(h:inB s.pc ins.length=true)(h2:¬((ins.getD s.pc.toNat default).op<1\/5<(ins.getD s.pc.toNat default).op))(j:cL (ins.getD s.pc.toNat default) s=none):gA ins k s=(bI.zero,false):=by cases k<;>simp only[gA,h,if_true,if_neg h2,j]
theorem Rp{ins:List cb}{s:bI}(h:inB s.pc ins.length=true)(h2:¬((ins.getD s.pc.toNat default).op<1\/5<(ins.getD s.pc.toNat default).op)):gA ins 0 s=(bI.zero,false):=by simp only[gA,h,if_true,if_neg h2]
theorem Rq{ins:List cb}{k:Nat}{s s2:bI}(h:inB s.pc ins.length=true)(h2:¬((ins.getD s.pc.toNat default).op<1\/5<(ins.getD s.pc.toNat default).op))(j:cL (ins.getD s.pc.toNat default) s=some s2):gA ins (k+1) s=gA ins k s2:=by simp only[gA,h,if_true,if_neg h2,j]
section
variable (c:i6) (s:bI) (U:List Int) (hU:U.length<=2^30) (hT:j8 U s) (hc:c.ins.length<2^40) (o t:Option Nat) (ho:o=none->s.regs=[]) (ht:t=none->s.taint=[])
include hU hT hc ho ht
end
end
section
theorem Rr{U:List Int}(hU:U.length<=2^30){ins:List cb}:∀(k:Nat) {s:bI},j8 U s->j8 U (gA ins k s).1:=by
 have j:j8 U bI.zero:=⟨rfl,acR,nofun,nofun⟩;intro k
 induction k with
 |zero=>
  intro s h;unfold gA;split
  .split
   .exact h
   .exact j
  .exact j
 |succ k u=>
  intro s h;unfold gA;split
  .split
   .exact h
   .split
    .exact j
    .rename_i s2 B;exact u (h.step hU B)
  .exact j
theorem Kb{U:List Int}(hU:U.length<=2^30){c:i6}{s:bI}(h:j8 U s):j8 U (cD c s).1:=by
 unfold cD;split
 .exact Rr hU _ h
 .exact⟨rfl,acR,nofun,nofun⟩
section
variable (c:i6) (s:bI) (U:List Int) (hU:U.length<=2^30) (hr:s.regs.length<2^40) (ht:s.taint.length<2^40) (hsh:∀l∈s.taint,l.length<=2^30) (hsub:∀l∈s.taint,∀x∈l,x∈U) (hc:c.ins.length<2^40)
include hU hr ht hsh hsub hc
end
end
section
def O8(op:Int):Bool:=decide (1<=op)&&decide (op<=5)
section
variable (w:aF)
end
def Rs(n:Nat)(i:cb):Bool:=if i.op=5 then inB i.a n else if i.op=10 then inB i.b n else true
end
section
noncomputable def lu (P:Prop):Bool:=@decide P (Classical.propDecidable P)
theorem iG{P:Prop}(h:P):lu P=true:=@decide_eq_true P (Classical.propDecidable P) h
theorem gU{P:Prop}(h:¬P):lu P=false:=@decide_eq_false P (Classical.propDecidable P) h
theorem iH{P:Prop}:lu P=true↔P:=⟨λh=>@of_decide_eq_true P (Classical.propDecidable P) h,iG⟩
structure Zq(ins:List cb):Prop where
 len:ins.length<2^48
 jmp:∀i∈ins,i.op=5->0<=i.a/\i.a<ins.length
 last:∀(k:Nat) (i:cb),ins[k]? =some i->(i.op=28↔k+1=ins.length)
section
variable {ins:List cb} (hf:Zq ins)
include hf
end
end
section
structure Mm(w:aF)(t n:Nat)(regs:Int)(k:Nat)(i:cb):Prop where
 lo:1<=i.op
 hi:i.op<=28
 last:i.op=28↔k+1=n
 fin:i.op=28->i.site=-1
 sin:i.op≠28->inB i.site w.sites.length=true
 sth:i.op≠28->(w.sites.getD i.site.toNat default).thread=t
 regs:∀r∈bS i,0<=r/\r<regs
 obj:sK w i=true
 jmp:Rs n i=true
structure HY(w:aF)(t:Nat)(c:i6):Prop where
 r0:0<=c.regs
 r32:c.regs<=32
 ne:0<c.ins.length
 ins:∀(k:Nat) (h:k<c.ins.length),Mm w t c.ins.length c.regs k c.ins[k]
 lans:∀k,k<c.ins.length->yn c.ins k
theorem Mm.fit{w:aF}{t:Nat}{c:i6}(hl:c.ins.length<2^48)(h:∀(k:Nat) (h:k<c.ins.length),Mm w t c.ins.length c.regs k c.ins[k]):Zq c.ins where
 len:=hl
 jmp:=λi j u=>by obtain⟨k,hk,rfl⟩:=List.mem_iff_getElem.1 j;have:=(h k hk).jmp;unfold Rs at this;rw[if_pos u]at this;exact ao.1 this
 last:=λk i j=>by obtain⟨hk,rfl⟩:=abL.1 j;exact(h k hk).last
theorem O9(i:cb):(bS i).length<=3:=by
 unfold bS
 repeat' split
 all_goals simp
section
variable {w:aF} {t:Nat} {c:i6} {k:Nat} {i:cb} (h0:0<=c.regs) (Q:R) (n45:W.Kn)
 (hno:¬Mm w t c.ins.length c.regs k i->Q (.bool false) [])
 (hgo:(∀r∈bS i,0<=r/\r<c.regs)->sK w i=true->Rs c.ins.length i=true->n45 [.acU t,.pptr [w.enc] 0 0,.pptr [c.enc] 0 0,.lst (c.ins.map cb.enc),.acU c.ins.length,.acU (k+1:Nat)] [])
 (hl:c.ins.length<2^48) (hk:k<c.ins.length)
include h0 hno hgo hl hk
end
end
structure CL(c:aU)(l:List aU):Prop where
 lo:1<=c.size
 hi:c.size<=4
 fits:c.size<=l.length
 eq:∀k:Nat,(k:Int)<c.size->l[k]? =some ⟨c.name,k,c.size,false,c.init⟩
inductive fo:List aU->List bU->Prop where
 |nil:fo [] []
 |one (c:aU) (l:List aU) (ns:List bU):c.size=0->c.index=0->fo l ns->fo (c::l) (c.name::ns)
 |arr (c:aU) (l:List aU) (ns:List bU):c.size≠0->CL c (c::l)->fo (l.drop (c.size.toNat-1)) ns->fo (c::l) (c.name::ns)
def fo.nil_iff{j:List bU}:fo [] j↔j=[]:=⟨λh=>by cases h;rfl,λh=>by subst h;exact .nil⟩
def fo.one_iff{c:aU}{l:List aU}{D:List bU}(E:c.size=0):fo (c::l) D↔c.index=0/\∃j,D=c.name::j/\fo l j:=by
 constructor
 .intro h;cases h with
  |one _ _ j _ B u=>exact⟨B,j,rfl,u⟩
  |arr _ _ j G=>exact absurd E G
 .rintro⟨B,j,rfl,u⟩;exact .one _ _ _ E B u
def fo.arr_iff{c:aU}{l:List aU}{D:List bU}(E:c.size≠0):fo (c::l) D↔CL c (c::l)/\∃j,D=c.name::j/\fo (l.drop (c.size.toNat-1)) j:=by
 constructor
 .intro h;cases h with
  |one _ _ j G=>exact absurd G E
  |arr _ _ j _ B u=>exact⟨B,j,rfl,u⟩
 .rintro⟨B,j,rfl,u⟩;exact .arr _ _ _ E B u
def iO(l:List aU)(i:Nat)(acc:List bU):Prop:=i<=l.length/\acc.length<=i/\∀ns,fo l ns↔∃n2,ns=acc++n2/\fo (l.drop i) n2
def iO.zero(l:List aU):iO l 0 []:=⟨abt _,Fd _,λj=>by simp⟩
def iO.step{l:List aU}{i:Nat}{j:List bU}(h:iO l i j)(B:i<l.length)(D:l[i].size=0)(M:l[i].index=0):iO l (i+1) (j++[l[i].name]):=by
 refine⟨B,by have:=h.2.1;simp;omega,λE=>?_⟩;rw[h.2.2 E,ack B];constructor
 .rintro⟨N,rfl,G⟩;obtain⟨_,n3,rfl,u⟩:=(fo.one_iff D).1 G;exact⟨n3,acQ,u⟩
 .rintro⟨n3,rfl,u⟩;exact⟨l[i].name::n3,acQ,(fo.one_iff D).2 ⟨M,n3,rfl,u⟩⟩
def iO.jump{l:List aU}{i:Nat}{j:List bU}(h:iO l i j)(G:i<l.length)(D:l[i].size≠0)(u:CL l[i] (l.drop i)):iO l (i+l[i].size.toNat) (j++[l[i].name]):=by
 have S:=u.lo;have M:=u.fits;rw[acH]at M;refine⟨acN,by have:=h.2.1;simp;omega,λE=>?_⟩;rw[h.2.2 E];rw[ack G]at u ⊢;have e:(l.drop (i+1)).drop (l[i].size.toNat-1)=l.drop (i+l[i].size.toNat):=by rw[List.drop_drop];congr 1;omega
 constructor
 .rintro⟨O,rfl,N⟩;obtain⟨_,n3,rfl,B⟩:=(fo.arr_iff D).1 N;exact⟨n3,acQ,e▸B⟩
 .rintro⟨n3,rfl,B⟩;exact⟨l[i].name::n3,acQ,(fo.arr_iff D).2 ⟨u,n3,rfl,e▸B⟩⟩
def iO.done{l:List aU}{i:Nat}{j:List bU}(h:iO l i j)(u:l.length<=i):fo l j:=by rw[h.2.2 j,List.drop_eq_nil_of_le u];exact⟨[],acQ,.nil⟩
def iO.no1{l:List aU}{i:Nat}{u:List bU}(h:iO l i u)(D:i<l.length)(M:l[i].size=0)(G:l[i].index≠0):∀j,¬fo l j:=λj B=>by rw[h.2.2 j,ack D]at B;obtain⟨N,_,E⟩:=B;exact G ((fo.one_iff M).1 E).1
def iO.no2{l:List aU}{i:Nat}{B:List bU}(h:iO l i B)(E:i<l.length)(M:l[i].size≠0)(D:¬CL l[i] (l.drop i)):∀j,¬fo l j:=λj u=>by rw[h.2.2 j]at u;rw[ack E]at u D;obtain⟨N,_,G⟩:=u;exact D ((fo.arr_iff M).1 G).1
def fo.uniq{l:List aU}{a b:List bU}(h:fo l a):fo l b->a=b:=by
 induction h generalizing b with
 |nil=>intro j;rw[fo.nil_iff.1 j]
 |one c l E D M _ u=>intro j;obtain⟨_,G,rfl,B⟩:=(fo.one_iff D).1 j;rw[u B]
 |arr c l E D M _ u=>intro j;obtain⟨_,G,rfl,B⟩:=(fo.arr_iff D).1 j;rw[u B]
def fo.len{l:List aU}{a:List bU}(h:fo l a):a.length<=l.length:=by
 induction h with
 |nil=>exact Fd _
 |one c l u D B _ j=>simpa using j
 |arr c l u D B _ j=>rw[acH]at j;simp only[abi];omega
def iP(w:aF)(ns:List bU):List bU:=ns++w.locks.map bZ.name++w.conds.map cM.name++w.futures++w.threads
def Kd(n:Nat):Int->Int->List cF->Prop
 |_,_,[]=>True
 |t,x,s::l=>t<=s.thread/\s.thread<n/\s.stmt=(if t<s.thread then 0 else x)/\Kd n s.thread (s.stmt+1) l
structure oK(w:aF):Prop where
 c12:w.cells.length<=12
 l4:w.locks.length<=4
 d2:w.conds.length<=2
 f2:w.futures.length<=2
 s60:w.sites.length<=60
 t1:1<=w.threads.length
 t4:w.threads.length<=4
 names:∃ns,fo w.cells ns/\(∀s∈iP w ns,kL s=true)/\(iP w ns).Nodup
 mtx:∀c∈w.conds,qG w c.mutex false=true
 sites:Kd w.threads.length 0 0 w.sites
section
theorem HZ{α:Type}(S:α->List AV×SH)(m:α->Nat)(G:α->Prop){B:List AV->SH->W.Kn->Prop}{vs:List AV}{L:SH}(D:α)(Y:G D)(N:ax vs L (S D).1 (S D).2)
  (h:∀a,G a->∀M:W.Kn,(∀u,G u->m u<m a->∀j E,ax j E (S u).1 (S u).2->M j E)->B (S a).1 (S a).2 M):W.loop B vs L:=by
 refine⟨λn vs L=>∃a,G a/\m a=n/\vs=(S a).1/\L=(S a).2,⟨m D,_,_,N,D,Y,rfl,rfl,rfl⟩,?_⟩;rintro n vs L ⟨a,O,rfl,rfl,rfl⟩;exact h a O _ λu g1 g2 j E Z=>⟨m u,_,_,g2,Z,u,g1,rfl,rfl,rfl⟩
section
variable {l:List aU} {Q:R} {nm:bU} {sz ini:Int} {i nb bs bw:Nat} {n1:W.Kn} (hl:l.length<=12) (h1:1<=sz) (h4:sz<=4) (hf:sz<=(l.length-i:Nat))
 (hno:¬CL ⟨nm,0,sz,false,ini⟩ (l.drop i)->∀L,Q (.tup [.nils,.bool false]) L) (x:AV) (X Y:Blk)
 (hgo:CL ⟨nm,0,sz,false,ini⟩ (l.drop i)->∀ix,n1 [.lst (l.map aU.enc),x,.acU ((i+sz.toNat:Nat):Int)] [(nb,X),(bs,Y),(bw,⟨5,[[.str nm,.acU ix,.acU sz,.bool false,.acU ini]]⟩)])
include hl h1 h4 hf hno hgo
end
end
section
def H3(A:List bU):Prop:=(∀s∈A,kL s=true)/\A.Nodup
theorem Ud{o:Option Nat}{k:Nat}{K:AV->Prop}(h:K (.acU (k:Int)))(j:o=none->k=0):W.len (af o k) K:=by
 cases o with
 |none=>rw[j rfl]at h;exact Hl h
 |some b=>exact AU h
section
variable {w:aF} {Q:R} {ns:List bU} (hns:ns.length<=12) (h4:w.locks.length<=4) (h2:w.conds.length<=2) (hf2:w.futures.length<=2) (ht4:w.threads.length<=4) (hq:∀b L,lu (H3 (iP w ns))=b->Q (.bool b) L)
include hns h4 h2 hf2 ht4 hq
end
end
def WY{n:Nat}{t x:Int}{s:cF}{l:List cF}:Kd n t x (s::l)↔t<=s.thread/\s.thread<n/\s.stmt=(if t<s.thread then 0 else x)/\Kd n s.thread (s.stmt+1) l:=Iff.rfl
structure lx(c:bP):Prop where
 world:oK c.w
 len:c.ts.length=c.w.threads.length
 thr:∀i (h:i<c.ts.length),HY c.w i c.ts[i]
def gX:RF:=nv (bQ Tryz.prog Tryz.f103 [(39,⟨[1,2,3,6],[],true,[]⟩),(27,⟨[1,2,3,5],[],true,[]⟩),(15,⟨[1,2,3,4],[],true,[]⟩)] [(0,[1])])
abbrev CU(Q:R):Vs->SH->Kn->Prop:=Lp gX 17 Q 39 []
abbrev CV(Q:R):Vs->SH->Kn->Prop:=Lp gX 18 Q 27 []
abbrev CW(Q:R):Vs->SH->Kn->Prop:=Lp gX 19 Q 15 []
abbrev EX(a:AV)(L:SH)(Q:R):Prop:=Pc gX 20 Q 0 [] [a] L
def CX(j:AV)(L:SH)(Q:R)(h:EX j L Q):ac Tryz.prog 103 [j] L Q:=
 fv gX Tryz.func103 h
def oP:RF:=nv (bQ Tryz.prog Tryz.f151 [(9,⟨[1,2,3,4],[],true,[]⟩)] [(0,[1])])
abbrev tH(Q:R):Vs->SH->Kn->Prop:=Lp oP 19 Q 9 []
abbrev Ic(a:AV)(L:SH)(Q:R):Prop:=Pc oP 20 Q 0 [] [a] L
def EY(j:AV)(L:SH)(Q:R)(h:Ic j L Q):ac Tryz.prog 151 [j] L Q:=
 fv oP Tryz.func151 h
def oQ:RF:=nv (bQ Tryz.prog Tryz.f172 [(12,⟨[2,3,5],[],true,[]⟩)] [(0,[2,3]),(6,[6])])
abbrev EZ(Q:R):Vs->SH->Kn->Prop:=Lp oQ 19 Q 12 []
abbrev Ie(a b:AV)(L:SH)(Q:R):Prop:=Pc oQ 20 Q 0 [] [a,b] L
def E0(u j:AV)(L:SH)(Q:R)(h:Ie u j L Q):ac Tryz.prog 172 [u,j] L Q:=
 fv oQ Tryz.func172 h
def wR:RF:=nv (bQ Tryz.prog Tryz.f173 [] [])
abbrev If(a:AV)(L:SH)(Q:R):Prop:=Pc wR 20 Q 0 [] [a] L
def E1(j:AV)(L:SH)(Q:R)(h:If j L Q):ac Tryz.prog 173 [j] L Q:=
 fv wR Tryz.func173 h
def qT:RF:=nv (bQ Tryz.prog Tryz.f174 [(15010,⟨[2,3,6,7],[],true,[]⟩)] [(0,[2,3])])
abbrev CY(a b:AV)(L:SH)(Q:R):Prop:=Pc qT 20 Q 0 [] [a,b] L
def Aw(u j:AV)(L:SH)(Q:R)(h:CY u j L Q):ac Tryz.prog 174 [u,j] L Q:=
 fv qT Tryz.func174 h
def py:RF:=nv (bQ Tryz.prog Tryz.f150 [(72067,⟨[6,8,9,10],[],true,[]⟩),(69064,⟨[6,8,9,10,98],[72067],false,[]⟩)] [(0,[3,4]),(3,[8]),(4,[9])])
abbrev Ax(a b c:AV)(L:SH)(Q:R):Prop:=Pc py 20 Q 0 [] [a,b,c] L
def yz(B u j:AV)(L:SH)(Q:R)(h:Ax B u j L Q):ac Tryz.prog 150 [B,u,j] L Q:=
 fv py Tryz.func150 h
def gC:RF:=nv (bQ Tryz.prog Tryz.f122 [(123118,⟨[4,5,6,7,9,14],[],true,[]⟩),(111106,⟨[3,4,5,6,7,9,14,16],[],true,[]⟩),(102097,⟨[3,4,5,6,7,9,14,15,16],[],true,[]⟩),(54049,⟨[3,4,5,6,7,9,14,15,16,77,78],[102097],false,[]⟩),(2108,⟨[3,4,5,6,7,9,11,12,51],[],true,[]⟩)] [(0,[3,5]),(4,[11]),(10,[15])])
abbrev gY(Q:R):Vs->SH->Prop:=Jp gC 16 Q 123118 []
abbrev mq(Q:R):Vs->SH->Prop:=Jp gC 17 Q 111106 []
abbrev jl(Q:R):Vs->SH->Prop:=Jp gC 18 Q 102097 []
abbrev tI(Q:R)(a b c d e f g h i:AV)(j:SH):Prop:=Pc gC 19 Q 2108 [] [d,a,c,g,h,e,b,f,i] j
abbrev Ig(a b c:AV)(L:SH)(Q:R):Prop:=Pc gC 20 Q 0 [] [a,b,c] L
def E3(B u j:AV)(L:SH)(Q:R)(h:Ig B u j L Q):ac Tryz.prog 122 [B,u,j] L Q:=
 fv gC Tryz.func122 h
def oR:RF:=nv (bQ Tryz.prog Tryz.f102 [(6,⟨[2,3,4,5,9,10],[],true,[]⟩)] [(0,[4]),(4,[11,12])])
abbrev E4(Q:R):Vs->SH->Kn->Prop:=Lp oR 19 Q 6 []
abbrev Ih(a b c d:AV)(L:SH)(Q:R):Prop:=Pc oR 20 Q 0 [] [a,b,c,d] L
def E5(D B u j:AV)(L:SH)(Q:R)(h:Ih D B u j L Q):ac Tryz.prog 102 [D,B,u,j] L Q:=
 fv oR Tryz.func102 h
def zB:RF:=nv (bQ Tryz.prog Tryz.f64 [] [(0,[2]),(3,[7])])
abbrev Kq(a b:AV)(L:SH)(Q:R):Prop:=Pc zB 20 Q 0 [] [a,b] L
def Ii(u j:AV)(L:SH)(Q:R)(h:Kq u j L Q):ac Tryz.prog 64 [u,j] L Q:=
 fv zB Tryz.func64 h
def qU:RF:=nv (bQ Tryz.prog Tryz.f171 [] [])
abbrev C0(a:AV)(L:SH)(Q:R):Prop:=Pc qU 20 Q 0 [] [a] L
def pz(j:AV)(L:SH)(Q:R)(h:C0 j L Q):ac Tryz.prog 171 [j] L Q:=
 fv qU Tryz.func171 h
def Zy(l:List bU)(s:bU):Int:=lm (λx=>decide (x=s)) l 0
def Zz(l:List bU)(s:bU)(E:l.length<2^62):aq Tryz.prog 118 [.lst (l.map ay),.str s] (.acU (Zy l s)):=by
 refine lM _ _ _ _ ?_;refine vw ?_;refine eO l (λx=>decide (x=s)) (λi=>[.lst (l.map ay),.str s,.acU i]) E rfl (λi u G N j B D=>?_) (λi u G j B=>?_)
 all_goals refine vw ?_
 .have M:=aj (f:=ay) u
  repeat' (first|refine sy ?_|refine s2 (λh=>?_) λh=>?_|intro)
  .exact⟨by rw[Zy,mR u j h],rfl⟩
  .exact D h
 .repeat' (first|refine sy ?_|refine s2 ?_ ?_|intro)
  exact⟨by rw[Zy,gz j],rfl⟩
def lT:RF:=nv (bQ Tryz.prog Tryz.f127 [(51046,⟨[1,4,37],[],true,[]⟩),(30025,⟨[1,4,13],[],true,[]⟩),(21016,⟨[1,4,5],[],true,[]⟩)] [(0,[1])])
abbrev wS(a:AV)(L:SH)(Q:R):Prop:=Pc lT 20 Q 0 [] [a] L
def uJ(j:AV)(L:SH)(Q:R)(h:wS j L Q):ac Tryz.prog 127 [j] L Q:=
 fv lT Tryz.func127 h
def oS(i:cb):aq Tryz.prog 127 [.agg i.enc] (.lst ((bS i).map aa)):=by
 obtain⟨op,u,j,D,n,B⟩:=i;refine ac.fz (uJ _ _ _ ?_);refine vw ?_;generalize M:(λ(v:AV) (L:SH)=>∃G N,ax [v] L [G] N/\G=AV.lst ((bS ⟨op,u,j,D,n,B⟩).map aa)/\N=[])=Q;have E:∀(l:List Int),bS ⟨op,u,j,D,n,B⟩=l->∀v L,Fz L v (.lst (l.map aa))->Q v L:=λl O v L h=>by subst M;exact⟨_,[],ax.all h,by rw[O],rfl⟩
 clear M
 repeat' (first|refine sy ?_|refine s2 ?_ ?_|intro)
 all_goals first
  |exact E [u] (by simp_all[bS];done) _ _ (Fz.sls (l:=[u]) (f:=aa) (.head _) rfl acR rfl)
  |exact E [j] (by simp_all[bS];done) _ _ (Fz.sls (l:=[j]) (f:=aa) (.head _) rfl acR rfl)
  |exact E [u,j] (by simp_all[bS];done) _ _ (Fz.sls (l:=[u,j]) (f:=aa) (.head _) rfl acR rfl)
  |exact E [u,D] (by simp_all[bS];done) _ _ (Fz.sls (l:=[u,D]) (f:=aa) (.head _) rfl acR rfl)
  |exact E [j,D] (by simp_all[bS];done) _ _ (Fz.sls (l:=[j,D]) (f:=aa) (.head _) rfl acR rfl)
  |exact E [u,j,D] (by simp_all[bS];done) _ _ (Fz.sls (l:=[u,j,D]) (f:=aa) (.head _) rfl acR rfl)
  |exact E [] (by simp_all[bS];done) _ _ .nils
def zE:RF:=nv (bQ Tryz.prog Tryz.f111 [(6,⟨[0,1,5],[],true,[]⟩)] [])
abbrev Ku(a b:AV)(L:SH)(Q:R):Prop:=Pc zE 20 Q 0 [] [a,b] L
def Ij(u j:AV)(L:SH)(Q:R)(h:Ku u j L Q):ac Tryz.prog 111 [u,j] L Q:=
 fv zE Tryz.func111 h
def tO:RF:=nv (bQ Tryz.prog Tryz.f85 [(21,⟨[1,5,7],[],true,[]⟩),(9,⟨[0,1,5,6],[],true,[]⟩)] [])
abbrev Fa(a b:AV)(L:SH)(Q:R):Prop:=Pc tO 20 Q 0 [] [a,b] L
def C8(u j:AV)(L:SH)(Q:R)(h:Fa u j L Q):ac Tryz.prog 85 [u,j] L Q:=
 fv tO Tryz.func85 h
section
open Go.RowKit
def KE(v:AV):Prop:=∀(w:World) (σ:bO) (T:Nat->Prop) (u:Value) (w2:World) (σ2:bO) (T2:Nat->Prop),bC w σ T v u->bC w2 σ2 T2 v u
def KE.int(k:IntKind)(n:Int):KE (.int k n):=λw B T u D j E h=>by cases h;exact .int k n
def KE.bool(b:Bool):KE (.bool b):=λw B T u D j E h=>by cases h;exact .bool b
def Di{P:Program}{f:FuncId}{args args2:List AV}{v:AV}{K L2:SH}(hv:KE v)(ha:∀(i:Nat) (a:AV),args2[i]? =some a->bv a)(h:aq P f args2 v)(hz:ax args K args2 L2):
  ac P f args K λu L=>u=v/\L=K:=⟨h.1,λH B hs=>⟨v,H,K,λw E vs O hvs=>by
 obtain⟨H2,f1,f2,f3,f4⟩:=km hz hs B;obtain⟨g1,g2,g3⟩:=f3 w E O;have Y:=g3 vs hvs;have M:aX ⟨λ_=>none,aX E H2⟩ ah.empty=aX E H2:=by
  funext c;apply propext;constructor
  .rintro(D|⟨b,x,G,D,_,_⟩)
   .exact D
   .rw[cS]at D;cases D
  .exact .inl
 have hlt:∀c,aX E H2 c->c<w.heap.size:=λc j=>by
  rcases j with j|⟨b,x,G,D,h2,rfl⟩
  .exact(g1.apart c j).1
  .exact g1.lt b G h2
 have hWe:bJ w ⟨λ_=>none,aX E H2⟩ ah.empty:=⟨λb G B=>(by cases B),λb G B=>(by cases B),λb x B=>(by rw[cS]at B;cases B),
  λc j=>⟨hlt c j,λ⟨b,x,G,D,_,_⟩=>(by rw[cS]at D;cases D)⟩,λb b' x x' G pl' B=>(by rw[cS]at B;cases B),by rw[M];exact g1.glob⟩
 obtain⟨u,H1,L1,Z,_,rfl,_⟩:=h.2 ah.empty (λb B=>by rw[cS]) ⟨.nil,λp hp=>by cases hp⟩;refine(Z w _ vs hWe ⟨Y.1,λi a u D h2=>(ha i a D).rep (Y.2 i a u D h2) (λc j=>by rw[M]at j;exact j)⟩).mono ?_;rintro e w' ⟨v',σ',rfl,k1,_,N,_⟩;have S:∀c,c<w.heap.size->(¬aX E H2 c\/aX E H2 c)->w'.heap[c]? =w.heap[c]? :=λc j ho=>by
  rcases ho with ho|ho
  .exact N.keep c j (by rw[M];exact ho)
  .exact N.frame c ho
 have hE:fT w E (aX E H) w' E (aX E H):=
  ⟨N.os,N.tape,N.output,N.size,λc j hT=>S c j (.inl λx=>hT (g2 c x)),N.shape,λ_ _ h=>h,rfl,λc j=>N.frame c (.inl j),λc j=>.inl j⟩
 refine⟨v',E,rfl,hv _ _ _ _ _ _ _ k1,⟨O.named,λb G B=>abk (O.lt b G B) N.size,λb x B=>?_,λc j=>⟨abk (O.apart c j).1 N.size,(O.apart c j).2⟩,O.inj,O.glob.mono hE⟩,hE,λc G j=>.inl j⟩;obtain⟨G,cs,e,D,h2⟩:=O.live b x B;exact⟨G,cs,e,D,h2.mono hE (S _ (O.lt b G D) (Classical.em _).symm)⟩,.refl B hs,rfl,rfl⟩⟩
end
def ac.pure{P:Program}{f:FuncId}{args:List AV}{Q:AV->SH->Prop}(h:ac P f args [] Q)(ha:∀a∈args,bv a)(S:∀u K,Q u K->bv u):∃v K,Q v K/\aq P f args v:=by
 obtain⟨v,H',L',h1,h2,D⟩:=h.2 ah.empty (λb _=>cS b) ⟨List.nodup_nil,nofun⟩;have hV:Nw P f args v:=λw E G hW B=>(h1 w E G hW B).mono λe w' ⟨M,j,he,O,k2,N,k4⟩=>⟨M,j,H',he,O,N⟩
 exact⟨v,L',D,h.1,λH hb Y=>⟨v,H,[],Yz (S _ _ D) (λi a Z=>ha a (abN Z)) hV H,.refl hb Y,rfl,rfl⟩⟩
def bv.lsts{rows:List (List AV)}(h:∀r∈rows,∀a∈r,bv a):bv (.lst rows):=.lst rows λi r j a B u=>h r (abN B) a (abN u)
def bv.lmap{α:Type}{f:α->List AV}{l:List α}(h:∀x∈l,∀a∈f x,bv a):bv (.lst (l.map f)):=.lsts λr u=>by obtain⟨x,j,rfl⟩:=abP.1 u;exact h x j
def bv.aggs{cs:List AV}(h:∀a∈cs,bv a):bv (.agg cs):=.agg cs λi a j=>h a (abN j)
def bv.tups{cs:List AV}(h:∀a∈cs,bv a):bv (.tup cs):=.tup cs λi a j=>h a (abN j)
def gD(s:bU):∀a∈ay s,bv a:=λa h=>by rw[aag.1 h];exact .str _
mutual
def aB.pure:∀x:aB,∀a∈x.enc,bv a
 | .mk op n name l=>by have:=aB.pures l;simp only[aB.enc,abz,abA,false_implies,implies_true,and_true];exact⟨.int _ _,.int _ _,.str _,.lsts this⟩
def aB.pures:∀l:List aB,∀r∈aB.encs l,∀a∈r,bv a
 |[]=>nofun
 | x::l=>by simp only[aB.encs,abz];exact⟨aB.pure x,aB.pures l⟩
end
mutual
def ae.pure:∀x:ae,∀a∈x.enc,bv a
 | .mk op line name arg index e body els=>by
  have u:=ae.pures body;have j:=ae.pures els
  simp only[ae.enc,abz,abA,false_implies,implies_true,and_true];exact⟨.int _ _,.int _ _,.str _,.str _,.lmap λx _=>x.pure,.int _ _,.int _ _,.str _,.lmap λx _=>x.pure,.lsts u,.lsts j⟩
def ae.pures:∀l:List ae,∀r∈ae.encs l,∀a∈r,bv a
 |[]=>nofun
 | x::l=>by simp only[ae.encs,abz];exact⟨ae.pure x,ae.pures l⟩
end
def aZ.pure(d:aZ):∀a∈d.enc,bv a:=by simp only[aZ.enc,abz,abA,false_implies,implies_true,and_true];exact⟨.int _ _,.int _ _,.str _,.int _ _,.int _ _,.str _⟩
def am.pure(d:am):∀a∈d.enc,bv a:=by simp only[am.enc,abz,abA,false_implies,implies_true,and_true];exact⟨.str _,.int _ _,.lmap λx _=>gD x,.lmap λx _=>x.pure⟩
def cJ.pure(p:cJ):bv (.agg p.enc):=.aggs (by
 simp only[cJ.enc,abz,abA,false_implies,implies_true,and_true];exact⟨.lmap λx _=>x.pure,.lmap λx _=>x.pure⟩)
def KG(e j:Int):bv (.tup [.acU e,.acU j]):=.tups (by
 simp only[abz,abA,false_implies,implies_true,and_true];exact⟨.int _ _,.int _ _⟩)
def aZ.wt_pos(d:aZ):1<=d.wt:=by unfold aZ.wt;omega
def am.wt_pos(d:am):1<=d.wt:=by unfold am.wt;omega
def am.local_len(t:am){i:Nat}(h:i<t.locals.length):t.locals[i].length<t.wt:=by have:=AX (f:=List.length) t.locals i h;unfold am.wt;omega
def cJ.decl_wt(p:cJ){i:Nat}(h:i<p.decls.length):p.decls[i].wt<=p.wt:=by have:=AX (f:=aZ.wt) p.decls i h;unfold cJ.wt;omega
def cJ.thread_wt(p:cJ){i:Nat}(h:i<p.threads.length):p.threads[i].wt<=p.wt:=by have:=AX (f:=am.wt) p.threads i h;unfold cJ.wt;omega
def cJ.decls_len(p:cJ):p.decls.length<=p.wt:=by have:=Ht aZ.wt_pos p.decls;unfold cJ.wt;omega
def cJ.threads_len(p:cJ):p.threads.length<=p.wt:=by have:=Ht am.wt_pos p.threads;unfold cJ.wt;omega
def uM{α:Type}{p:α->Bool}:∀(l:List α) (j:Nat),(lm p l j=-1/\l.find? p=none)\/∃(k:Nat) (h:k<l.length),lm p l j=(j+k:Nat)/\l.find? p=some l[k]
 |[],_=>.inl ⟨rfl,rfl⟩
 | x::l,j=>by
  by_cases h:p x=true
  .exact .inr ⟨0,acQ,by simp[lm,h],by simp[h]⟩
  .rcases uM (p:=p) l (j+1)with⟨h1,h2⟩|⟨k,h1,h2,h3⟩
   .exact .inl ⟨by simp[lm,h,h1],by simp[h,h2]⟩
   .refine .inr ⟨k+1,by simpa using h1,?_,by simpa[h]using h3⟩;simp only[lm,h,abj,if_false,h2];congr 1;omega
def iJ{α:Type}{f:α->List AV}{l:List α}{n i:Nat}{k:IntKind}{L:SH}{K:AV->Prop}(h:K (.lst ((l.take i).map f)))(B:i<=l.length:=by omega)(u:∀x,(f x).length=n:=by intro x;rfl):W.slice n (.lst (l.map f)) none (some (.int k (i:Int))) none L K:=by
 refine ip (l:=0) (h:=i) rfl ?_ (abt _) (by simpa using B) (λr j=>?_) ?_
 .simp[cE,gQ]
 .cases l with
  |nil=>cases j
  |cons x l=>simp at j;rw[<-j];exact u x
 .simpa[acD]using h
def My{k:IntKind}{a b:Int}{K:AV->Prop}(h:K (.int k (if b > a then b else a))):W.mnx true (.int k a) (.int k b) K:=by rw[Qx];exact h
def R5{k:IntKind}{s:Int}{K:AV->Prop}(h:K (.int k (((max s 1).toNat:Nat):Int))):W.mnx true (.int k s) (.int k 1) K:=by
 rw[Qx];have:(if(1:Int) > s then(1:Int)else s)=(((max s 1).toNat:Nat):Int):=by split<;>omega
 rw[this];exact h
structure oV where
 t:Nat
 o1:Option Nat
 ar:List ae
 k:Nat
 o2:Option Nat
 sp:List bU
 o3:Option Nat
 se:List bU
def oV.row(p:cJ)(s:oV):List AV:=[.lst (p.decls.map aZ.enc),.lst (p.threads.map am.enc),.acU s.t,af s.o1 s.k,af s.o2 s.sp.length,af s.o3 s.se.length]
def oV.L(p:cJ)(bw:Nat)(s:oV):SH:=(bw,⟨6,[s.row p]⟩)::(ab s.o1 11 (s.ar.map ae.enc)++(ab s.o2 1 (s.sp.map ay)++ab s.o3 1 (s.se.map ay)))
structure oV.Ok(s:oV)(m:Nat):Prop where
 a0:s.o1=none->s.ar=[]
 ak:s.k<=s.ar.length
 k6:s.k<=6
 p0:s.o2=none->s.sp=[]
 e0:s.o3=none->s.se=[]
 pm:s.sp.length<=m
 em:s.se.length<=m
def ac.permR{P:Program}{f:FuncId}{args:List AV}{L:SH}{Q:AV->SH->Prop}(h:ac P f args L λv j=>∃L'',j.Perm L''/\Q v L''):ac P f args L Q:=⟨h.1,λH B u=>by
 obtain⟨v,M,j,G,E,L'',hp,D⟩:=h.2 H B u;exact⟨v,M,L'',G,E.permS hp,D⟩⟩
def ac.within{P:Program}{f:FuncId}{args:List AV}{K L R:SH}{α:Type}{F:α->AV}(h:ac P f args K λu j=>∃r,u=F r/\j=K)(hp:L.Perm (K++R)):ac P f args L λu j=>∃r,u=F r/\j=L:=
 ac.permR (h.frame hp λv j ⟨r,D,B⟩=>⟨L,by rw[B];exact hp.symm,r,D,rfl⟩)
def ae.wts_succ{l:List ae}{i:Nat}(h:i<l.length):ae.wts (l.take (i+1))=ae.wts (l.take i)+l[i].wt:=by
 rw[Fn h];generalize l.take i=m
 induction m with
 |nil=>simp[ae.wts]
 |cons y m j=>simp only[abX,ae.wts,j];omega
def ae.wts_take(l:List ae)(i:Nat):ae.wts (l.take i)<=ae.wts l:=by
 induction l generalizing i with
 |nil=>simp
 | cons x l j=>cases i with
  |zero=>simp[ae.wts]
  |succ i=>have:=j i;simp only[List.take_succ_cons,ae.wts];omega
def A6{o:Option Nat}{k:Nat}{K:AV->Prop}(h:K (.acU (k:Int)))(j:o=none->k=0):W.len (af o k) K:=by
 cases o with
 |none=>rw[j rfl]at h;exact Hl h
 |some b=>exact AU h
def KH{KL:R}{L N:SH}{o:Option Nat}{i n by_ M:Nat}{rows m:List (List AV)}{r:List AV}(G:(M,(⟨n,m⟩:Blk))∈L)(O:m=[r])(E:eG o n rows L N)(j:i<=rows.length)(Y:o=none->rows=[])(B:i<=1000)(u:by_<=1000)(h4:r.all AV.one=true)
  (h:∀b,b∉L.names->KL (.sl b 0 (i+1)) ((b,⟨n,rows.take i++[r]⟩)::N)):W.append n by_ (af o i) (.sl M 0 1) L KL:=by
 subst O;have e1:2*(i+(0+1))*by_<=2*(1000+1)*1000:=Nat.mul_le_mul acN u
 have e2:2*(0+1)*by_<=2*(0+1)*1000:=Nat.mul_le_mul acN u
 cases o with
 |none=>
  have D:=Y rfl;subst D;obtain rfl:i=0:=by simpa using j
  have S:=E.none';subst S;exact Hk (KL:=KL) (by_:=by_) (j7 G rfl rfl) (by show 2*(0+1)*by_<=2^48;omega) acQ (by simpa using h4) acQ (λb B=>by simpa using h b B)
 |some b=>
  refine lJ (y:=⟨n,rows⟩) (l:=rows.take i) E.some'.mem' rfl (by simpa using j) acQ (j7 G rfl rfl) ?_ ?_ (by simpa using h4) E.some' (λZ B=>?_)
  .rw[abm,abV j];simp only[abi,abq];omega
  .rw[abm,abV j];simp only[abi,abq];omega
  .rw[abm,abV j];exact h Z B
def Xk{α:Type}(a t b:α)(R:List α):(a::t::b::R).Perm ((b::([a]++R))++[t]):=by have h:(a::t::b::R).Perm ([t]++(b::([a]++R))):=(List.Perm.swap t a _).trans ((List.Perm.swap b a R).cons t);exact h.trans aar
def yG{n b k m:Nat}{kd:IntKind}{y:Blk}{L:SH}{K:AV->Prop}(h:K (.sl b 0 k))(B:k<=m)(u:(b,y)∈L)(j:y.size=n):W.slice n (.sl b 0 m) none (some (.int kd (k:Int))) none L K:=by refine xN (l:=0) (h:=k) rfl (by simp[cE,gQ]) (abt _) B u j ?_;simpa using h
def Io:List AV:=[.acU 0,.acU 0,.str [],.str [],.nils,.acU 0,.acU 0,.str [],.nils,.nils,.nils]
def Fh{α:Type}{f:α->Nat}{l:List α}{i:Nat}(h:i<l.length):((l.take (i+1)).map f).sum=((l.take i).map f).sum+f l[i]:=by rw[Fn h,ST,List.sum_append];simp
def iQ{α:Type}(f:α->Nat)(l:List α):Nat:=(l.map f).sum
def Mz{α:Type}{f:α->Nat}{l:List α}{i:Nat}(h:i<l.length):iQ f (l.take (i+1))=iQ f (l.take i)+f l[i]:=Fh h
def Dj{α:Type}(f:α->Nat)(l:List α)(i:Nat):iQ f (l.take i)<=iQ f l:=by
 unfold iQ
 induction l generalizing i with
 |nil=>simp
 | cons x l j=>cases i with
  |zero=>simp
  |succ i=>have:=j i;simp only[List.take_succ_cons,aai,acf];omega
def KI{α:Type}{f g:α->Nat}(h:∀x,f x<=g x)(l:List α):iQ f l<=iQ g l:=by
 unfold iQ
 induction l with
 |nil=>simp
 |cons x l j=>have:=h x;simp only[aai,acf];omega
def oW{P:Program}{g:FuncId}{args:List AV}{K M L:SH}{R1:AV->SH->Prop}{KL:R}(h:ac P g args K R1)(B:L.Perm (K++M))(u:∀v j,R1 v j->∃L'',(j++M).Perm L''/\KL v L''):W.callM P g args L KL:=⟨ac.permR (h.frame B u)⟩
def A7{n:Nat}{rows:List (List AV)}:ab none n rows=[]:=rfl
def A8{b n:Nat}{rows:List (List AV)}:ab (some b) n rows=[(b,⟨n,rows⟩)]:=rfl
def oX{P:Program}{g:FuncId}{args:List AV}{i:Nat}{L:SH}{j:AV->SH->List Nat->Prop}(h:W.callM P g args L (λv K=>∀u,j v K u)):W.dcallM P [] i g args L j:=
 ⟨L,[],acQ,nofun,h.1.mono λv D B=>by simpa using B _⟩
mutual
def ae.cnt:ae->Nat
 |.mk _ _ _ _ _ _ body els=>ae.cnts body+ae.cnts els
def ae.cnts:List ae->Nat
 |[]=>0
 |x::l=>1+x.cnt+ae.cnts l
end
def ae.cnt_eq(x:ae):x.cnt=ae.cnts x.body+ae.cnts x.els:=by cases x;rfl
mutual
def ae.cnt_wt:∀x:ae,x.cnt<x.wt
 |.mk a b c d e f j u=>by have:=ae.cnts_wt j;have:=ae.cnts_wt u;simp only[ae.cnt,ae.wt];omega
def ae.cnts_wt:∀l:List ae,ae.cnts l<=ae.wts l
 |[]=>Fd _
 |x::l=>by have:=ae.cnt_wt x;have:=ae.cnts_wt l;simp only[ae.cnts,ae.wts];omega
end
def aY(b:UInt8):List AV:=[.int .u8 (b.toNat:Int)]
section
theorem U6{n a:Int}(h:n=4\/n=5):(Md n a).2=true:=by unfold Md;rcases h with rfl|rfl<;>rfl
theorem SM{n a b:Int}(h:6<=n/\n<=18):(uC n a b).2=true:=by
 have:n=6\/n=7\/n=8\/n=9\/n=10\/n=11\/n=12\/n=13\/n=14\/n=15\/n=16\/n=17\/n=18:=by omega
 unfold uC;rcases this with rfl|rfl|rfl|rfl|rfl|rfl|rfl|rfl|rfl|rfl|rfl|rfl|rfl<;>rfl
structure zP(c:i6)(s:bI):Prop where
 regs:(s.regs.length:Int)=c.regs
 taint:(s.taint.length:Int)=c.regs
section
variable {w:aF} {t:Nat} {c:i6} (hP:HY w t c) (hsh:c.ins.length<2^40)
include hP hsh
omit hsh in
theorem PV{i:cb}(hi:i∈c.ins)(Y:i.sil){s:bI}(u:zP c s):∃s2,cL i s=some s2/\zP c s2/\s2.pc=(if i.op=5 then i.a else IntKind.i64.wrap (s.pc+1))/\s2.ev=s.ev:=by
 obtain⟨N,M,rfl⟩:=List.mem_iff_getElem.1 hi;have S:=hP.ins N M;generalize c.ins[N]=i at *;have Z:=S.regs;have O:=S.obj;have has:∀r∈bS i,s.has r=true:=λr D=>by have:=Z r D;have:=u.regs;unfold bI.has;rw[ao];omega
 obtain⟨h1,h5⟩:=Y;have E:i.op=1\/i.op=2\/i.op=3\/i.op=4\/i.op=5:=by omega
 have fit:∀a v l,zP c (s.put a v l):=λa v l=>⟨by simp[bI.put,u.regs],by simp[bI.put,u.taint]⟩
 unfold cL;rcases E with e|e|e|e|e
 .have j:=has i.a (by simp[bS,e]);rw[if_pos e,if_pos j];exact⟨_,rfl,fit _ _ _,by simp[e,bI.put],rfl⟩
 .have j:=has i.a (by simp[bS,e]);have B:=has i.b (by simp[bS,e])
  rw[if_neg acN,if_pos e,if_pos (by simp[j,B])];exact⟨_,rfl,fit _ _ _,by simp[e,bI.put],rfl⟩
 .have j:=has i.a (by simp[bS,e]);have B:=has i.b (by simp[bS,e])
  have G:i.n=4\/i.n=5:=by simpa[sK,e]using O
  rw[if_neg acN,if_neg acN,if_pos e,if_pos (by simp[j,B,U6 G])];exact⟨_,rfl,fit _ _ _,by simp[e,bI.put],rfl⟩
 .have j:=has i.a (by simp[bS,e]);have B:=has i.b (by simp[bS,e]);have hc:=has i.c (by simp[bS,e])
  have G:6<=i.n/\i.n<=18:=by simpa[sK,e]using O
  rw[if_neg acN,if_neg acN,if_neg acN,if_pos e,if_pos (by simp[j,B,hc,SM G])];exact⟨_,rfl,fit _ _ _,by simp[e,bI.put],rfl⟩
 .rw[if_neg acN,if_neg acN,if_neg acN,if_neg acN];exact⟨_,rfl,⟨u.regs,u.taint⟩,by simp[e],rfl⟩
theorem SN:∀(m:Nat) {k:Nat} {s:bI},AZ c.ins k m->s.pc=k->zP c s->∀n,m<=n->∃(G:Nat) (i:cb) (s2:bI),gA c.ins n s=(s2,true)/\zP c s2/\s2.pc=G/\c.ins[G]? =some i/\¬i.sil/\s2.ev=s.ev:=by
 intro m
 induction m with
 |zero=>
  intro k s O hp Z n _;cases O with
  |ev _ i B M=>
  have hk:=(abL.1 B).1;have E:inB s.pc c.ins.length=true:=by rw[ao];omega
  have S:c.ins.getD s.pc.toNat default=i:=by rw[hp];simp[List.getD,B]
  have D:(c.ins.getD s.pc.toNat default).op<1\/5<(c.ins.getD s.pc.toNat default).op:=by rw[S];unfold cb.sil at M;omega
  refine⟨k,i,s,?_,Z,hp,B,M,rfl⟩;cases n with
  |zero=>unfold gA;rw[if_pos E,if_pos D]
  |succ n=>unfold gA;rw[if_pos E,if_pos D]
 |succ m ih=>
  intro k s O hp Z n hn;obtain⟨n,rfl⟩:∃n',n=n'+1:=⟨n-1,acN⟩;have hk:=O.lt;have E:inB s.pc c.ins.length=true:=by rw[ao];omega
  have N:∀(i:cb) (Y:Nat),c.ins[k]? =some i->i.sil->((if i.op=5 then i.a else IntKind.i64.wrap (s.pc+1))=(Y:Int))->AZ c.ins Y m->∃(G:Nat) (i:cb) (s2:bI),gA c.ins (n+1) s=(s2,true)/\zP c s2/\s2.pc=G/\c.ins[G]? =some i/\¬i.sil/\s2.ev=s.ev:=by
   intro i Y B M he u;obtain⟨s2,h1,h2,h3,h4⟩:=PV hP (abN B) M Z;have S:c.ins.getD s.pc.toNat default=i:=by rw[hp];simp[List.getD,B]
   have D:¬((c.ins.getD s.pc.toNat default).op<1\/5<(c.ins.getD s.pc.toNat default).op):=by rw[S];unfold cb.sil at M;omega
   obtain⟨G,i',s3,r1,r2,r3,r4,r5,r6⟩:=ih u (by rw[h3];exact he) h2 n acN;refine⟨G,i',s3,?_,r2,r3,r4,r5,r6.trans h4⟩;rw[<-S]at h1;unfold gA;rw[if_pos E,if_neg D,h1];exact r1
  cases O with
  |go _ _ i B M h5 u=>exact N i (k+1) B M (by rw[if_neg h5,hp,abg _ acN];omega) u
  |jump _ _ j i B h5 ha u=>exact N i j B ⟨acN,acN⟩ (by rw[if_pos h5,ha]) u
theorem Li{k:Nat}{s:bI}(D:k<c.ins.length)(hp:s.pc=k)(j:zP c s):∃(u:Nat) (i:cb) (s2:bI),cD c s=(s2,true)/\zP c s2/\s2.pc=u/\c.ins[u]? =some i/\¬i.sil/\s2.ev=s.ev:=by obtain⟨m,B⟩:=hP.lans k D;unfold cD;rw[if_pos ⟨j.regs,j.taint⟩];exact SN hP hsh m B hp j _ (Nat.le_of_lt B.bound)
end
end
