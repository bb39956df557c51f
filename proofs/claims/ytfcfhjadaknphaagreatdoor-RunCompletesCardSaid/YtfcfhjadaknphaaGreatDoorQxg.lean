/- part -/
import Derived.Test.YtfcfhjadaknphaaGreatDoorQxf
set_option linter.all false
set_option maxRecDepth 100000
set_option maxHeartbeats 0
namespace Go.Proofs.YtfcfhjadaknphaaGreatDoor.Am
def US{o:Nat}{x:AV}{L:SH}{K:AV->Prop}(h:K9 o x L K):K9 o x L K:=h
def Sk{o:Nat}{x:AV}{L:SH}{K:AV->Prop}(h:La o x L K):La o x L K:=h
def Wj{x:AV}{L:SH}{K:AV->Prop}(h:wl x L K):wl x L K:=h
def UT{n:Nat}{x i:AV}{L:SH}{K:AV->Prop}(h:T1 n x i L K):T1 n x i L K:=h
def UU{n:Nat}{x i:AV}{L:SH}{K:AV->Prop}(h:T2 n x i L K):T2 n x i L K:=h
def Sm{n o:Nat}{x i:AV}{L:SH}{K:AV->Prop}(h:Lb n o x i L K):Lb n o x i L K:=h
def Wk{us:List W.WR}{i:Nat}{x:AV}{L:SH}{K:AV->Fp->Prop}(h:dl us i x L K):dl us i x L K:=h
def UV{o:Nat}{x:AV}{us:List W.WR}{i:Nat}{L:SH}{K:AV->Fp->Prop}(h:T3 o x us i L K):T3 o x us i L K:=h
def Wl{us:List W.WR}{i n:Nat}{x:AV}{L:SH}{K:AV->Fp->Prop}(h:dr us i n x L K):dr us i n x L K:=h
def Wm{us:List W.WR}{i n:Nat}{x j:AV}{L:SH}{K:AV->Fp->Prop}(h:di us i n x j L K):di us i n x j L K:=h
def st{P Q:Prop}(k:Q)(h:Q->P:=by
 intro k
 first
 |(refine US ?_;first|exact Rc k|exact Rd k|exact M8 k)
 |(refine ep ?_;first|exact QX k|exact MN k|exact QY k|exact QW k|exact QV k|exact QU k|exact dw k|exact MO k|exact j9 k|exact MP k|exact QZ k|exact Q0 k|exact Q3 k|exact Re k|exact Rf k|exact Q6 k|exact Q7 k)
 |(refine Se ?_;first|exact GD k|exact GE k)
 |(refine UH ?_;first|exact EG k|exact EH k|exact Es k)
 |(refine Wj ?_;first|exact PQ k|exact UL k|exact Sd k)
 |(refine Ra ?_;first|exact EG k|exact EH k|exact Es k)
 |(refine R9 ?_;first|exact MZ k|exact M3 k)
 |(refine Sk ?_;first|exact wnfl_q k|exact Sg k|exact M9 k)
 |(refine UE ?_;first|exact PB k|exact PA k|exact Ez k|exact a_len_n k|exact ED k)
 |(refine Sm ?_;first|exact Sh k|exact Na k)
 |(refine UU ?_;first|exact UN k|exact Q9 k)
 |(refine UT ?_;first|exact UM k|exact DF k)
 |(refine PJ ?_;first|exact wj k|exact wi k)
 |(refine M7 ?_;first|exact zw k|exact b_row_i k|exact Kd k|exact GJ k|exact GK k)
 |(refine UV ?_;first|exact UP k|exact Rb k)
 |(refine Wk ?_;first|exact UO k|exact UI k)
 |(refine Wl ?_;first|exact Wd k|exact UJ k)
 |(refine Wm ?_;first|exact We k|exact Sf k)
 |(refine Q4 ?_;first|exact EG k|exact EH k|exact Es k)
 |(refine MW ?_;first|exact M4 k|exact M5 k|exact MI k)
 |(refine PI ?_;first|exact GB k|exact MY k|exact GC k)
 |(refine UD ?_;first|exact uA k|exact PL k|exact PM k|exact eQ k|exact PN k)
 |(refine h_row ?_;first|exact zw k|exact b_row_i k|exact Kd k|exact GJ k|exact GK k)
 |(refine UF ?_;exact UG k)
 |(refine R7 ?_;exact EI k)
 |exact Wc (tg k)
 |(refine R8 ?_;exact tg k)
 |(refine MX ?_;first|exact J4 k|exact a_nil_q k|exact a_nil_f k)
 |(refine V7 ?_;first|exact Uz k|exact UA k)
 |(refine Sa ?_;first|exact PO k|exact b_frz_s k)
 |(refine PK ?_;first|exact GF k|exact xS k|exact GG k)
 |(refine Sb ?_;first|exact b_idxP_p k|exact M6 k)
 |(refine h_bin ?_;first|exact QX k|exact MN k|exact QY k|exact QW k|exact QV k|exact QU k|exact dw k|exact MO k|exact j9 k|exact MP k|exact QZ k|exact Q0 k|exact Q3 k|exact Re k|exact Rf k|exact Q6 k|exact Q7 k)
 |(refine h_cond ?_;first|exact GD k|exact GE k)
 |exact Si k
 |exact Ar k
 |exact pD (IK k)
 |exact Wb (Kb k)
 |exact UK k
 |exact V6 k
 |exact R5 k
 |exact PP k
 |(first|exact wo1_ok k|exact wo2_ok k|exact wo3_ok k|exact wo4_ok k|exact wo5_ok k|exact wo6_ok k|exact wo7_ok k|exact wo8_ok k|exact wo9_ok k|exact wo10_ok k|exact wo11_ok k|exact wo12_ok k|exact wo13_ok k|exact wo14_ok k|exact wo15_ok k|exact wo16_ok k)
 |exact R3 k
 |exact a_convS k
 |exact b_fld k
 |exact R4 k
 |exact IK k
 |exact Kb k
 |((with_reducible refine Wg ?_);exact Ke k)
 |((with_reducible refine h_lp ?_);exact Rj k)
 |((with_reducible refine Wi ?_);exact Rk k)
 |((with_reducible refine Wh ?_);exact Ri k)
 |fail):P:=h k
def sb{P:Prop}{Q:Nat->Prop}{N:Nat->Prop}(k:∀b,N b->Q b)(h:(∀b,N b->Q b)->P:=by
 intro k
 first
 |(refine Q5 ?_;exact Q8 k)
 |(refine Gz ?_;exact GH k)
 |(refine Gy ?_;exact GI k)
 |(exact Ey k)
 |fail):P:=h k
def sx{P Q:Prop}(k:Q)(h:Q->P:=by
 intro k
 first
 |exact st k
 |exact UQ (pm YD k)
 |exact UR (pm YD k)
 |fail):P:=h k
def sy{P Q:Prop}(k:Q)(h:Q->P:=by
 intro k
 first
 |exact sx k
 |(refine Q5 ?_;exact Q8 k)
 |(refine Gz ?_;exact GH k)
 |(refine Gy ?_;exact GI k)
 |(exact Ey k)
 |fail):P:=h k
def Pi{P:Program}{f:FuncId}{args:List AV}{v:AV}(h:∀Q:R,(∀L,Q v L)->ac P f args [] Q):ao P f args v:=ac.fz (h _ λL=>⟨_,[],aE.all (.refl _),rfl,rfl⟩)
def Wn{P:Program}{f:FuncId}{args:List AV}{α:Type}(E:α->AV){x:α}(h:∀Q:R,(∀b L,x=b->Q (E b) L)->ac P f args [] Q):ao P f args (E x):=ac.fz (h _ λb L e=>⟨_,[],aE.all (.refl _),by rw[e],rfl⟩)
def Rm{P:Program}{f:FuncId}{args:List AV}{v:AV}(h:∀Q:R,(∀w L,Fz L w v->Q w L)->ac P f args [] Q):ao P f args v:=ac.fz (h _ λw L e=>⟨_,[],aE.all e,rfl,rfl⟩)
def s2{P D B G E:Prop}(u:G->D)(j:E->B)(h:(G->D)->(E->B)->P:=by
 intro u j
 first
 |(refine Se ?_;exact MM u j)
 |(refine UH ?_;first|exact Et u j|exact Eu u j)
 |(refine Ra ?_;first|exact Et u j|exact Eu u j)
 |(refine Q4 ?_;first|exact Et u j|exact Eu u j)
 |(refine MW ?_;first|exact MJ u j|exact MK u j)
 |(refine h_cond ?_;exact MM u j)
 |fail):P:=h u j
def mm{α:Type}{a:α}{l:List α}(h:a∈l:=by first|exact .head _|exact .tail _ (.head _)|exact .tail _ (.tail _ (.head _))|exact .tail _ (.tail _ (.tail _ (.head _)))|exact .tail _ (.tail _ (.tail _ (.tail _ (.head _))))|exact .tail _ (.tail _ (.tail _ (.tail _ (.tail _ (.head _)))))|exact .tail _ (.tail _ (.tail _ (.tail _ (.tail _ (.tail _ (.head _))))))|exact .tail _ (.tail _ (.tail _ (.tail _ (.tail _ (.tail _ (.tail _ (.head _)))))))|exact .tail _ (.tail _ (.tail _ (.tail _ (.tail _ (.tail _ (.tail _ (.tail _ (.head _))))))))|exact .tail _ (.tail _ (.tail _ (.tail _ (.tail _ (.tail _ (.tail _ (.tail _ (.tail _ (.head _)))))))))|exact .tail _ (.tail _ (.tail _ (.tail _ (.tail _ (.tail _ (.tail _ (.tail _ (.tail _ (.tail _ (.head _))))))))))|exact .tail _ (.tail _ (.tail _ (.tail _ (.tail _ (.tail _ (.tail _ (.tail _ (.tail _ (.tail _ (.tail _ (.head _)))))))))))|exact .tail _ (.tail _ (.tail _ (.tail _ (.tail _ (.tail _ (.tail _ (.tail _ (.tail _ (.tail _ (.tail _ (.tail _ (.head _))))))))))))):a∈l:=h
def rp{P:Prop}(h:P:=by repeat constructor):P:=h
inductive ae where
 |mk (op n:Int) (name:aO) (l:List ae)
def ae.op:ae->Int|.mk a _ _ _=>a
def ae.n:ae->Int|.mk _ a _ _=>a
def ae.name:ae->aO|.mk _ _ a _=>a
def ae.l:ae->List ae|.mk _ _ _ a=>a
mutual
def ae.enc:ae->List AV
 |.mk op n name l=>[.int .i64 op,.int .i64 n,.str name,.lst (ae.encs l)]
def ae.encs:List ae->List (List AV)
 |[]=>[]
 |x::l=>x.enc::ae.encs l
end
def ae.encs_eq:∀l:List ae,ae.encs l=l.map ae.enc
 |[]=>rfl
 |x::l=>by rw[ae.encs,ae.encs_eq l];rfl
def ae.row(x:ae):List AV:=[.YJ x.op,.YJ x.n,.str x.name,.lst (x.l.map ae.enc)]
def ae.enc_row(x:ae):x.enc=x.row:=by cases x;rw[ae.enc,ae.encs_eq];rfl
def GO{l:List ae}{i:Nat}(h:i<l.length):(l.map ae.enc)[i]? =some [.YJ l[i].op,.YJ l[i].n,.str l[i].name,.lst (l[i].l.map ae.enc)]:=by rw[aq h,ae.enc_row];rfl
def z0(op:Int):Nat:=if op=0 then 2^50 else 0
def z3(op:Int):Nat:=if op=3 then 2^50 else 0
def EJ(op:Int)(name:aO)(n:Nat):Nat:=(if n=0 then(if op=0\/op=1\/op=2 then 0 else 2^50)else 0)+(if name=[113]then 0 else z3 op)
mutual
def ae.wt:ae->Nat
 |.mk op _ name l=>1+name.length+EJ op name l.length+ae.wts l
def ae.wts:List ae->Nat
 |[]=>0
 |x::l=>x.wt+z0 x.op+ae.wts l
end
def ae.wt_eq(x:ae):x.wt=1+x.name.length+EJ x.op x.name x.l.length+ae.wts x.l:=by cases x;rfl
def ae.wts_get0:∀(l:List ae) (i:Nat) (h:i<l.length),l[i].wt+z0 l[i].op<=ae.wts l
 |x::l,0,_=>by simp[ae.wts]
 |x::l,i+1,h=>by have:=ae.wts_get0 l i (by simpa using h);simp only[XY,ae.wts];omega
def ae.wts_get(l:List ae)(i:Nat)(h:i<l.length):l[i].wt<=ae.wts l:=by have:=ae.wts_get0 l i h;omega
def ae.wts_len:∀l:List ae,l.length<=ae.wts l
 |[]=>Fd _
 |x::l=>by have:=ae.wts_len l;have:=x.wt_eq;simp only[WO,ae.wts];omega
def ae.kid(x:ae){i:Nat}(h:i<x.l.length):x.l[i].wt<x.wt:=by have:=ae.wts_get x.l i h;have:=x.wt_eq;omega
def ae.len(x:ae):x.l.length<x.wt:=by have:=ae.wts_len x.l;have:=x.wt_eq;omega
inductive aa where
 |mk (op line:Int) (name arg:aO) (index:List ae) (expr:ae) (body els:List aa)
def aa.op:aa->Int|.mk a _ _ _ _ _ _ _=>a
def aa.line:aa->Int|.mk _ a _ _ _ _ _ _=>a
def aa.name:aa->aO|.mk _ _ a _ _ _ _ _=>a
def aa.arg:aa->aO|.mk _ _ _ a _ _ _ _=>a
def aa.index:aa->List ae|.mk _ _ _ _ a _ _ _=>a
def aa.expr:aa->ae|.mk _ _ _ _ _ a _ _=>a
def aa.body:aa->List aa|.mk _ _ _ _ _ _ a _=>a
def aa.els:aa->List aa|.mk _ _ _ _ _ _ _ a=>a
mutual
def aa.enc:aa->List AV
 |.mk op line name arg index e body els=>[.int .i64 op,.int .i64 line,.str name,.str arg,.lst (index.map ae.enc),.int .i64 e.op,.int .i64 e.n,.str e.name,.lst (e.l.map ae.enc),.lst (aa.encs body),.lst (aa.encs els)]
def aa.encs:List aa->List (List AV)
 |[]=>[]
 |x::l=>x.enc::aa.encs l
end
def aa.encs_eq:∀l:List aa,aa.encs l=l.map aa.enc
 |[]=>rfl
 |x::l=>by rw[aa.encs,aa.encs_eq l];rfl
def aa.row(x:aa):List AV:=[.YJ x.op,.YJ x.line,.str x.name,.str x.arg,.lst (x.index.map ae.enc),.YJ x.expr.op,.YJ x.expr.n,.str x.expr.name,.lst (x.expr.l.map ae.enc),.lst (x.body.map aa.enc),.lst (x.els.map aa.enc)]
def aa.enc_row(x:aa):x.enc=x.row:=by cases x;rw[aa.enc,aa.encs_eq,aa.encs_eq];rfl
def DI{l:List aa}{i:Nat}(h:i<l.length):(l.map aa.enc)[i]? =some [.YJ l[i].op,.YJ l[i].line,.str l[i].name,.str l[i].arg,.lst (l[i].index.map ae.enc),.YJ l[i].expr.op,.YJ l[i].expr.n,.str l[i].expr.name,.lst (l[i].expr.l.map ae.enc),.lst (l[i].body.map aa.enc),.lst (l[i].els.map aa.enc)]:=by rw[aq h,aa.enc_row];rfl
def zv(op eop:Int):Nat:=if op=1\/op=2\/op=3\/op=14 then z0 eop else 0
def zi(name:aO)(n:Nat):Nat:=if n=0\/name=[113]then 0 else 2^50
mutual
def aa.wt:aa->Nat
 |.mk op _ name arg index e body els=>1+name.length+arg.length+ae.wts index+e.wt+zv op e.op+zi name index.length+aa.wts body+aa.wts els
def aa.wts:List aa->Nat
 |[]=>0
 |x::l=>x.wt+aa.wts l
end
def aa.wt_eq(x:aa):x.wt=1+x.name.length+x.arg.length+ae.wts x.index+x.expr.wt+zv x.op x.expr.op+zi x.name x.index.length+aa.wts x.body+aa.wts x.els:=by cases x;rfl
def aa.wts_get:∀(l:List aa) (i:Nat) (h:i<l.length),l[i].wt<=aa.wts l
 |x::l,0,_=>by simp[aa.wts]
 |x::l,i+1,h=>by have:=aa.wts_get l i (by simpa using h);simp only[XY,aa.wts];omega
def aa.wts_len:∀l:List aa,l.length<=aa.wts l
 |[]=>Fd _
 |x::l=>by have:=aa.wts_len l;have:=x.wt_eq;simp only[WO,aa.wts];omega
structure aA where
 kind:Int
 line:Int
 name:aO
 size:Int
 init:Int
 on:aO
 deriving Inhabited
def aA.enc(d:aA):List AV:=[.YJ d.kind,.YJ d.line,.str d.name,.YJ d.size,.YJ d.init,.str d.on]
structure aj where
 name:aO
 line:Int
 locals:List aO
 body:List aa
def aj.enc(t:aj):List AV:=[.str t.name,.YJ t.line,.lst (t.locals.map av),.lst (t.body.map aa.enc)]
structure aY where
 decls:List aA
 threads:List aj
def aY.enc(p:aY):List AV:=[.lst (p.decls.map aA.enc),.lst (p.threads.map aj.enc)]
def aA.wt(d:aA):Nat:=1+d.name.length+d.on.length
def aj.wt(t:aj):Nat:=1+t.name.length+t.locals.length+(t.locals.map List.length).sum+aa.wts t.body
def aY.wt(p:aY):Nat:=(p.decls.map aA.wt).sum+(p.threads.map aj.wt).sum
def zx{α:Type}{f:α->Nat}:∀(l:List α) (i:Nat) (h:i<l.length),f l[i]<=(l.map f).sum
 |x::l,0,_=>by simp
 |x::l,i+1,h=>by have:=zx (f:=f) l i (by simpa using h);simp only[XY,WS,XO];omega
def EK{α:Type}{f:α->Nat}(j:∀x,1<=f x):∀l:List α,l.length<=(l.map f).sum
 |[]=>Fd _
 |x::l=>by have:=EK j l;have:=j x;simp only[WO,WS,XO];omega
def Az{α:Type}{p:α->Prop}{l:List α}{i:Nat}(h:i<l.length)(u:∀x∈l.take i,p x)(h2:p l[i]):∀x∈l.take (i+1),p x:=by
 rw[LE h];intro x j;rcases WM.1 j with j|j
 .exact u x j
 .simp at j;subst j;exact h2
def Rn(n:Nat)(G:Nat->Prop)(S:Nat->List AV×SH){B:List AV->SH->W.Kn->Prop}{vs:List AV}{L:SH}(Y:n<2^62)(h0:G 0)(O:vs=(S 0).1)(hL:L=(S 0).2)
  (h1:∀i,i<n->decide ((i:Int)<(n:Int))=true->IntKind.i64.wrap ((i:Int)+1)=((i+1:Nat):Int)->G i->∀u:W.Kn,(G (i+1)->∀j D,aE j D (S (i+1)).1 (S (i+1)).2->u j D)->B (S i).1 (S i).2 u)
  (h2:∀i,i=n->decide ((i:Int)<(n:Int))=false->G i->∀u:W.Kn,B (S i).1 (S i).2 u):W.loop B vs L:=by
 refine j8 n S G h0 O hL λi hi E=>?_
 rcases Fn i n with h|h
 .exact h1 i h (a8 h) (ax h Y) E _ λZ j D M=>⟨i+1,YC,YC,Z,M⟩
 .exact h2 i YC (bq h) E _
def cS(n:Nat)(G:Nat->Prop)(S:Nat->List AV){B:List AV->SH->W.Kn->Prop}{vs:List AV}{L:SH}(E:n<2^62)(h0:G 0)(u:vs=S 0)
  (h1:∀i,i<n->decide ((i:Int)<(n:Int))=true->IntKind.i64.wrap ((i:Int)+1)=((i+1:Nat):Int)->G i->∀j:W.Kn,(G (i+1)->j (S (i+1)) L)->B (S i) L j)
  (h2:∀i,i=n->decide ((i:Int)<(n:Int))=false->G i->∀j:W.Kn,B (S i) L j):W.loop B vs L:=
 Rn n G (λi=>(S i,L)) E h0 u rfl (λi h Y M Z j D=>h1 i h Y M Z j λO=>D O _ _ (.refl _ _)) h2
def cF{α:Type}(l:List α)(p:α->Bool)(S:Nat->List AV){B:List AV->SH->W.Kn->Prop}{vs:List AV}{L:SH}(M:l.length<2^62)(E:vs=S 0)
  (Y:∀i (h:i<l.length),decide ((i:Int)<(l.length:Int))=true->IntKind.i64.wrap ((i:Int)+1)=((i+1:Nat):Int)->(∀x∈l.take i,p x=false)->∀j:W.Kn,(p l[i]=false->j (S (i+1)) L)->B (S i) L j)
  (h2:∀i,i=l.length->decide ((i:Int)<(l.length:Int))=false->(∀x∈l,p x=false)->∀j:W.Kn,B (S i) L j):W.loop B vs L:=
 cS l.length (λi=>∀x∈l.take i,p x=false) S M YF E (λi h D O u j G=>Y i h D O u j λhp=>G (Az h u hp))
  λi e D u j=>h2 i e D (by rw[W9 YC]at u;exact u) j
def Nb{α:Type}{p:α->Bool}{l:List α}(h:∀x∈l,p x=false):l.any p=false:=by simpa using h
def Kg{α:Type}{p:α->Bool}{l:List α}{i:Nat}(h:i<l.length)(hp:p l[i]=true):l.any p=true:=XZ.2 ⟨_,WN h,hp⟩
def pL{α:Type}{p:α->Bool}{l:List α}{i:Nat}(h:i<l.length)(hp:p l[i]=false):l.all p=false:=List.all_eq_false.2 ⟨_,WN h,by simp[hp]⟩
def Ro{s:aO}{k:IntKind}{i:Nat}{K:AV->Prop}(h:K (.int .u8 (s.getD i 0).toNat))(j:i<s.length:=by assumption):W.ixS (.str s) (.int k (i:Int)) K:=⟨s,k,i,s[i],rfl,rfl,YC,by simp[j],by simpa[List.getD,j]using h⟩
def iy{α:Type}(p:α->Bool):List α->Nat->Int
 |[],_=>-1
 |x::l,i=>if p x then(i:Int)else iy p l (i+1)
def eU{α:Type}{p:α->Bool}:∀{l:List α} {i:Nat},(∀x∈l,p x=false)->iy p l i=-1
 |[],_,_=>rfl
 |x::l,i,h=>by rw[iy,h x YF];exact eU λy j=>h y (by simp[j])
def Kh{α:Type}{p:α->Bool}:∀{l:List α} {j k:Nat} (u:k<l.length),(∀x∈l.take k,p x=false)->p l[k]=true->iy p l j=(j+k:Nat)
 |x::l,j,0,u,h,hp=>by simp at hp;simp[iy,hp]
 | x::l,j,k+1,u,h,hp=>by rw[iy,h x YF];have:=Kh (p:=p) (l:=l) (j:=j+1) (k:=k) (by simpa using u) (λy B=>h y (by simp[B])) (by simpa using hp);simp only[W7,if_false,this];congr 1;omega
def jg{α:Type}{p:α->Bool}{l:List α}{k:Nat}(j:k<l.length)(h:∀x∈l.take k,p x=false)(hp:p l[k]=true):iy p l 0=k:=by rw[Kh j h hp];simp
structure aH where
 name:aO
 index:Int
 size:Int
 vol:Bool
 init:Int
 deriving Inhabited
def aH.enc(c:aH):List AV:=[.str c.name,.YJ c.index,.YJ c.size,.bool c.vol,.YJ c.init]
structure bv where
 name:aO
 rw:Bool
 deriving Inhabited
def bv.enc(c:bv):List AV:=[.str c.name,.bool c.rw]
structure bO where
 name:aO
 mutex:Int
 deriving Inhabited
def bO.enc(c:bO):List AV:=[.str c.name,.YJ c.mutex]
structure bM where
 thread:Int
 stmt:Int
 line:Int
 deriving Inhabited
def bM.enc(c:bM):List AV:=[.YJ c.thread,.YJ c.stmt,.YJ c.line]
structure aK where
 cells:List aH
 locks:List bv
 conds:List bO
 futures:List aO
 threads:List aO
 sites:List bM
def aK.enc(w:aK):List AV:=[.lst (w.cells.map aH.enc),.lst (w.locks.map bv.enc),.lst (w.conds.map bO.enc),.lst (w.futures.map av),.lst (w.threads.map av),.lst (w.sites.map bM.enc)]
structure bW where
 thread:Int
 wake:Int
def bW.enc(c:bW):List AV:=[.YJ c.thread,.YJ c.wake]
structure aL where
 w:aK
 ts:List eG
def aL.enc(c:aL):List AV:=[.lst (c.w.cells.map aH.enc),.lst (c.w.locks.map bv.enc),.lst (c.w.conds.map bO.enc),.lst (c.w.futures.map av),.lst (c.w.threads.map av),.lst (c.w.sites.map bM.enc),.lst (c.ts.map eG.enc)]
def cu(l:List bv)(s:aO):Int:=iy (λx=>decide (x.name=s)) l 0
def eN(l:List aH)(s:aO):Int:=iy (λx=>decide (x.name=s)) l 0
def fL(l:List bO)(s:aO):Int:=iy (λx=>decide (x.name=s)) l 0
def aC(i:az):List Int:=
 if i.op=1\/i.op=6\/i.op=10\/i.op=27 then [i.a]else
 if i.op=2\/i.op=3 then [i.a,i.b]else
 if i.op=4 then [i.a,i.b,i.c]else
 if i.op=7 then [i.a,i.c]else
 if i.op=8\/i.op=26 then [i.b]else
 if i.op=9 then [i.b,i.c]else []
def pM(w:aK)(i:Int):Bool:=inB i w.cells.length&&decide ((w.cells.getD i.toNat default).size=0)
def uE(w:aK)(i n:Int):Bool:=inB i w.cells.length&&decide ((w.cells.getD i.toNat default).index=0)&&decide ((w.cells.getD i.toNat default).size≠0)&&decide ((w.cells.getD i.toNat default).size=n)
def jB(w:aK)(i:Int)(rw:Bool):Bool:=inB i w.locks.length&&((w.locks.getD i.toNat ⟨[],false⟩).rw==rw)
def jh(w:aK)(i:az):Bool:=
 if i.op=6 then pM w i.b else if i.op=8 then pM w i.a else if i.op=7 then uE w i.b i.n else if i.op=9 then uE w i.a i.n else
 if i.op=11\/i.op=12 then jB w i.a false else if i.op=13\/i.op=14\/i.op=15\/i.op=16 then jB w i.a true else
 if i.op=21\/i.op=22\/i.op=23 then inB i.a w.conds.length else if i.op=24\/i.op=25 then inB i.a w.threads.length else
 if i.op=26 then inB i.a w.futures.length else if i.op=27 then inB i.b w.futures.length else
 if i.op=3 then decide (i.n=4\/i.n=5)else if i.op=4 then decide (6<=i.n/\i.n<=18)else true
def az.sil(i:az):Prop:=1<=i.op/\i.op<=5
inductive vT (ins:List az):Nat->Nat->Prop where
 |ev (k:Nat) (i:az):ins[k]? =some i->¬i.sil->vT ins k 0
 |go (k m:Nat) (i:az):ins[k]? =some i->i.sil->i.op≠5->vT ins (k+1) m->vT ins k (m+1)
 |jump (k m j:Nat) (i:az):ins[k]? =some i->i.op=5->i.a=(j:Nat)->vT ins j m->vT ins k (m+1)
def eu(ins:List az)(k:Nat):Prop:=∃m,vT ins k m
def vT.uniq{S:List az}{k m1:Nat}(h1:vT S k m1):∀{O:Nat},vT S k O->m1=O:=by
 induction h1 with
 |ev k i E M=>
  intro O Y;cases Y with
  |ev=>rfl
  |go _ _ G u B=>rw[E]at u;cases u;exact absurd B M
  |jump _ _ j G u B=>rw[E]at u;cases u;exact absurd ⟨YC,YC⟩ M
 |go k m i E M h5 hm Z=>
  intro O Y;cases Y with
  |ev _ G u B=>rw[E]at u;cases u;exact absurd M B
  |go _ _ G u B _ D=>rw[Z D]
  |jump _ _ j G u B=>rw[E]at u;cases u;exact absurd B h5
 |jump k m j i E M ha hm Z=>
  intro O Y;cases Y with
  |ev _ G u B=>rw[E]at u;cases u;exact absurd ⟨YC,YC⟩ B
  |go _ _ G u B h5 D=>rw[E]at u;cases u;exact absurd M h5
  |jump _ _ j' G u B ha' D=>
   rw[E]at u;cases u;have:j=j':=by omega
   subst this;rw[Z D]
def vT.lt{u:List az}{k m:Nat}(h:vT u k m):k<u.length:=by
 cases h with
 |ev _ i B _=>exact(Xm.1 B).1
 |go _ _ i B=>exact(Xm.1 B).1
 |jump _ _ j i B=>exact(Xm.1 B).1
def vT.path{u:List az}{k m:Nat}(h:vT u k m):∃l:List Nat,l.length=m+1/\(∀j∈l,j<u.length/\∃q,q<=m/\vT u j q)/\l.Nodup:=by
 induction h with
 |ev k i O M=>exact⟨[k],rfl,by simp only[WP,forall_eq];exact⟨(vT.ev k i O M).lt,0,Fd _,.ev k i O M⟩,YF⟩
 |go k m i O M h5 hm Z=>
  obtain⟨l,h1,S,h3⟩:=Z;have D:=vT.go k m i O M h5 hm;refine⟨k::l,by simp[h1],λj E=>?_,Xw.2 ⟨λB=>?_,h3⟩⟩
  .rcases WX.1 E with rfl|E
   .exact⟨D.lt,_,Fd _,D⟩
   .obtain⟨Y,q,g2,G⟩:=S j E;exact⟨Y,q,YC,G⟩
  .obtain⟨Y,q,g2,G⟩:=S k B;have:=D.uniq G;omega
 |jump k m j i O M ha hm Z=>
  obtain⟨l,h1,S,h3⟩:=Z;have D:=vT.jump k m j i O M ha hm;refine⟨k::l,by simp[h1],λj E=>?_,Xw.2 ⟨λB=>?_,h3⟩⟩
  .rcases WX.1 E with rfl|E
   .exact⟨D.lt,_,Fd _,D⟩
   .obtain⟨Y,q,g2,G⟩:=S j E;exact⟨Y,q,YC,G⟩
  .obtain⟨Y,q,g2,G⟩:=S k B;have:=D.uniq G;omega
def DJ{α:Type}[BEq α][LawfulBEq α]:∀{l U:List α},l.Nodup->(∀x∈l,x∈U)->l.length<=U.length
 |[],U,_,_=>by simp
 | x::l,U,hn,hs=>by
  have u:x∈U:=hs x YF;have B:=Xw.1 hn;have:=DJ (l:=l) (U:=U.erase x) B.2 λy j=>(List.mem_erase_of_ne (by rintro rfl;exact B.1 j)).2 (hs y (by simp[j]))
  rw[List.length_erase_of_mem u]at this;have:=List.length_pos_of_mem u;simp only[WO];omega
def GP:∀{n:Nat} {l:List Nat},l.Nodup->(∀j∈l,j<n)->l.length<=n:=by
 intro n l u h;have:=DJ u (U:=List.range n) λj B=>XR.2 (h j B)
 simpa using this
def vT.bound{u:List az}{k m:Nat}(h:vT u k m):m<u.length:=by obtain⟨l,G,E,D⟩:=h.path;have:=GP D (λj B=>(E j B).1);omega
def dH(t:ThrD)(c:Int):Bool:=decide (t.status=3)&&decide (t.cond=c)
def fitsS(w:aK)(s:SyncD):Bool:=decide (s.locks.length=w.locks.length)&&decide (s.done.length=w.futures.length)&&decide (s.threads.length=w.threads.length)&&w.conds.all λc=>inB c.mutex w.locks.length
def rwAt(w:aK)(o:Int):Bool:=(w.locks.getD o.toNat default).rw
def allowedS(w:aK)(k o:Int):Bool:=
 if k=1\/k=2\/k=5\/k=12\/k=13\/k=14\/k=15 then decide (o=-1)
 else if k=3\/k=4 then inB o w.cells.length
 else if k=6\/k=7 then inB o w.locks.length&&!rwAt w o
 else if k=8\/k=9\/k=10\/k=11 then inB o w.locks.length&&rwAt w o
 else if k=16\/k=17\/k=18\/k=19 then inB o w.conds.length
 else if k=20\/k=21 then inB o w.threads.length
 else if k=22\/k=23 then inB o w.futures.length
 else false
def aP(s:SyncD)(o:Int):LockD:=s.locks.getD o.toNat default
def a7(s:SyncD)(o:Int):ThrD:=s.threads.getD o.toNat default
def pN(s:SyncD)(o:Int):Bool:=s.done.getD o.toNat default
def jC(w:aK)(o:Int):Int:=(w.conds.getD o.toNat default).mutex
def c9(w:aK)(s:SyncD)(t k o:Int):Bool:=
 if k=6 then decide ((aP s o).owner=-1)
 else if k=10 then decide ((aP s o).owner=-1)&&decide ((aP s o).readers.length=0)
 else if k=8 then decide ((aP s o).owner=-1)&&!(aP s o).readers.contains t
 else if k=7\/k=11 then decide ((aP s o).owner=t)
 else if k=9 then(aP s o).readers.contains t
 else if k=12 then decide (s.tx=-1)
 else if k=13 then decide (s.tx=t)
 else if k=14 then !(a7 s t).atomic
 else if k=15 then(a7 s t).atomic
 else if k=16\/k=18\/k=19 then decide ((aP s (jC w o)).owner=t)
 else if k=20 then decide (o≠t)&&decide ((a7 s o).status=0)
 else if k=21 then decide (o≠t)&&decide ((a7 s o).status=5)
 else if k=22 then !pN s o
 else if k=23 then pN s o
 else true
def aI(w:aK)(s:SyncD)(t k o:Int):Bool:=
  fitsS w s&&inB t w.threads.length&&allowedS w k o &&
    (if k=1 then decide ((a7 s t).status=1)
     else if k=17 then decide ((a7 s t).status=4)&&decide ((a7 s t).cond=o)&&decide ((aP s (jC w o)).owner=-1)
     else decide ((a7 s t).status=2)&&c9 w s t k o)
structure yE(w:aK)(s:SyncD):Prop where
 locks:s.locks.length=w.locks.length
 done:s.done.length=w.futures.length
 threads:s.threads.length=w.threads.length
 conds:∀c∈w.conds,inB c.mutex w.locks.length=true
def fE{w:aK}{s:SyncD}:fitsS w s=true↔yE w s:=by simp only[fitsS,WZ,decide_eq_true_eq,W2];exact⟨λ⟨⟨⟨D,B⟩,u⟩,j⟩=>⟨D,B,u,j⟩,λ⟨D,B,u,j⟩=>⟨⟨⟨D,B⟩,u⟩,j⟩⟩
def DK{w:aK}{s:SyncD}(h:yE w s){o:Int}(u:inB o w.conds.length=true):inB (jC w o) s.locks.length=true:=by
 obtain⟨D,B⟩:=aw.1 u;have j:o.toNat<w.conds.length:=by omega
 rw[h.locks];have:w.conds.getD o.toNat default=w.conds[o.toNat]:=by simp[j]
 unfold jC;rw[this];exact h.conds _ (WN j)
def GQ{s:SyncD}(j:∀l∈s.locks,l.readers.length<2^40)(o:Int):(aP s o).readers.length<2^62:=by
 unfold aP;rcases Fn o.toNat s.locks.length with h|h
 .have:=j _ (WN h);simp[h];omega
 .simp[List.getD,ST h];decide
def kinds(k:Int):(k<1\/23<k)\/k=1\/k=2\/k=3\/k=4\/k=5\/k=6\/k=7\/k=8\/k=9\/k=10\/k=11\/k=12\/k=13\/k=14\/k=15\/k=16\/k=17\/k=18\/k=19\/k=20\/k=21\/k=22\/k=23:=by omega
def fZ{w:aK}{k o:Int}(j:k<1\/23<k):allowedS w k o=false:=by
 unfold allowedS
 repeat (rw[if_neg YC])
structure aG where
 pc:Int
 regs:List Int
 taint:List (List Int)
 ev:Int
def bP(l:List Int):List AV:=[.lst (l.map ah)]
def aG.enc(s:aG):List AV:=[.YJ s.pc,.lst (s.regs.map ah),.lst (s.taint.map bP),.YJ s.ev]
def aG.zero:aG:=⟨0,[],[],0⟩
def aG.has(s:aG)(r:Int):Bool:=inB r s.regs.length
def aG.reg(s:aG)(r:Int):Int:=s.regs.getD r.toNat 0
def aG.tnt(s:aG)(r:Int):List Int:=s.taint.getD r.toNat []
def aG.put(s:aG)(a v:Int)(t:List Int):aG:=⟨IntKind.i64.wrap (s.pc+1),s.regs.set a.toNat v,s.taint.set a.toNat t,s.ev⟩
def aZ(i:az)(s:aG):Option aG:=
 if i.op=1 then(if s.has i.a then some (s.put i.a i.n [])else none)else
 if i.op=2 then(if s.has i.a&&s.has i.b then some (s.put i.a (s.reg i.b) (s.tnt i.b))else none)else
 if i.op=3 then(if s.has i.a&&s.has i.b&&(Ay i.n (s.reg i.b)).2 then some (s.put i.a (Ay i.n (s.reg i.b)).1 (s.tnt i.b))else none)else
 if i.op=4 then(if s.has i.a&&s.has i.b&&s.has i.c&&(jV i.n (s.reg i.b) (s.reg i.c)).2 then some (s.put i.a (jV i.n (s.reg i.b) (s.reg i.c)).1 (Cu (s.tnt i.b++s.tnt i.c)))else none)else
 some {s with pc:=i.a}
def eV(ins:List az):Nat->aG->aG×Bool
 |0,s=>if inB s.pc ins.length then(if(ins.getD s.pc.toNat default).op<1\/5<(ins.getD s.pc.toNat default).op then(s,true)else(aG.zero,false))else(aG.zero,false)
 | k+1,s=>if inB s.pc ins.length then(if(ins.getD s.pc.toNat default).op<1\/5<(ins.getD s.pc.toNat default).op then(s,true)else
   match aZ (ins.getD s.pc.toNat default) s with
   |none=>(aG.zero,false)
   |some s2=>eV ins k s2)else(aG.zero,false)
def bu(c:eG)(s:aG):aG×Bool:=
 if(s.regs.length:Int)=c.regs/\(s.taint.length:Int)=c.regs then eV c.ins c.ins.length s else(aG.zero,false)
def nR(p:aG×Bool):AV:=.tup [.agg p.1.enc,.bool p.2]
structure ji(U:List Int)(s:aG):Prop where
 len:s.taint.length=s.regs.length
 small:s.regs.length<2^40
 short:∀l∈s.taint,l.length<=2^30
 sub:∀l∈s.taint,∀x∈l,x∈U
def DR:∀{l U:List Int},l.Nodup->(∀x∈l,x∈U)->l.length<=U.length
 |[],U,_,_=>by simp
 | x::l,U,hn,hs=>by
  have u:x∈U:=hs x YF;have B:=Xw.1 hn;have:=DR (l:=l) (U:=U.erase x) B.2 λy j=>(List.mem_erase_of_ne (by rintro rfl;exact B.1 j)).2 (hs y (by simp[j]))
  rw[List.length_erase_of_mem u]at this;have:=List.length_pos_of_mem u;simp only[WO];omega
def DS{U l:List Int}(h:∀x∈l,x∈U):(Cu l).length<=U.length:=by have j:(Cu l).Nodup:=(Km l).imp (λ{a b} (h:a<b)=>by omega);exact DR j λx u=>h x ((EQ l x).1 u)
def ji.tnt{U:List Int}{s:aG}(h:ji U s)(r:Int):(s.tnt r).length<=2^30/\∀x∈s.tnt r,x∈U:=by
 unfold aG.tnt;rw[XP];cases j:s.taint[r.toNat]? with
 |none=>simp
 |some l=>exact⟨h.short l (XC j),h.sub l (XC j)⟩
def ji.put{U:List Int}{s:aG}(h:ji U s)(a v:Int){t:List Int}(u:t.length<=2^30)(h2:∀x∈t,x∈U):ji U (s.put a v t):=by
 refine⟨by simp[aG.put,h.len],by simpa[aG.put]using h.small,λl j=>?_,λl j=>?_⟩
 .rcases Yg j with g|g
  .exact h.short l g
  .rw[g];exact u
 .rcases Yg j with g|g
  .exact h.sub l g
  .rw[g];exact h2
def ji.step{U:List Int}(D:U.length<=2^30){s s2:aG}{i:az}(h:ji U s)(j:aZ i s=some s2):ji U s2:=by
 unfold aZ at j;split at j
 .split at j
  .cases j;exact h.put _ _ YF YF
  .cases j
 .split at j
  .split at j
   .cases j;exact h.put _ _ (h.tnt _).1 (h.tnt _).2
   .cases j
  .split at j
   .split at j
    .cases j;exact h.put _ _ (h.tnt _).1 (h.tnt _).2
    .cases j
   .split at j
    .split at j
     .cases j;have B:∀x∈s.tnt i.b++s.tnt i.c,x∈U:=λx u=>by
       rcases WM.1 u with g|g
       .exact(h.tnt _).2 x g
       .exact(h.tnt _).2 x g
      exact h.put _ _ (W5 (DS B) D) λx u=>B x ((EQ _ _).1 u)
     .cases j
    .cases j;exact⟨h.len,h.small,h.short,h.sub⟩
def qL(xs:List Int)(B:xs.length*8<=140737488355328):ac Tryz.prog 161 [.lst (xs.map ah)] [] λv L=>∃o,v=aQ o xs.length/\L=ab o 1 (xs.map ah)/\(o=none->xs=[]):=by refine(hZ (λA n c xs w D G u E=>cloneJ_any A n c xs w D G u E) ⟨_,_,Tryz.func161,rfl⟩ (xs.map ah) (by simp[ah,AV.one]) (λr j=>by obtain⟨x,_,rfl⟩:=Xi.1 j;rfl) (by simpa using B)).mono ?_;rintro v L ⟨o,rfl,rfl,h⟩;exact⟨o,YF,rfl,λe=>by simpa using h e⟩
def dS(xs:List Int)(B:xs.length*8<=140737488355328):ao Tryz.prog 162 [.lst (xs.map ah)] (.lst (xs.map ah)):=by refine ac.fz ((DG xs B).mono ?_);rintro v L ⟨o,rfl,rfl,u⟩;exact⟨_,[],aE.all (Fz.slot (f:=ah) rfl (λe=>by rw[u e];rfl) YG (λy _=>rfl) (λy _ q a E D j=>by rw[D]at j;cases j;exact .refl _)),rfl,rfl⟩
def zz(s:aG)(v:AV)(L:SH):Prop:=
 ∃(o t:Option Nat),v=.agg [.YJ s.pc,aQ o s.regs.length,aQ t s.taint.length,.YJ s.ev]/\L=ab o 1 (s.regs.map ah)++ab t 1 (s.taint.map bP)/\(o=none->s.regs=[])/\(t=none->s.taint=[])
def oF(t:List (List Int))(k:Nat):List (List AV):=(t.take k).map bP++List.replicate (t.length-k) [.nils]
def Li(t:List (List Int))(k:Nat)(j:k<=t.length):(oF t k).length=t.length:=by simp[oF];omega
def Nt(t:List (List Int))(k:Nat)(B:k<t.length):(oF t k)[k]? =some [.nils]:=by
 unfold oF;have u:((t.take k).map bP).length=k:=by simp;omega
 rw[WQ YC,u,X9];obtain⟨m,j⟩:∃m,t.length-k=m+1:=⟨t.length-k-1,YC⟩;rw[j];rfl
def DT(t:List (List Int))(k:Nat)(B:k<t.length):(oF t k).set k (bP t[k])=oF t (k+1):=by
 unfold oF;have u:((t.take k).map bP).length=k:=by simp;omega
 rw[Ys _ _ YC,u,X9];obtain⟨m,j⟩:∃m,t.length-k=m+1:=⟨t.length-k-1,YC⟩;rw[j,List.replicate_succ,List.set_cons_zero,LE B,show t.length-(k+1)=m by omega,WL,WU];rfl
def IR(s:aG)(h1:s.regs.length<2^40)(h2:s.taint.length<2^40)(h3:∀l∈s.taint,l.length<=2^30):ac Tryz.prog 163 [.agg s.enc] [] (zz s):=by
 refine ac.fz (yI _ _ _ ?_);refine vw ?_;generalize hQ:(λ(v:AV) (L:SH)=>∃O Z,aE [v] L [O] Z/\zz s O Z)=Q
 repeat' (first|refine sx ?_|refine sb λG S=>?_|refine s2 (λh=>?_) λh=>?_|fail)
 rename_i D _;revert G;intro B _;refine pG (qL s.regs YC) ?_;rintro v K ⟨o,rfl,rfl,ho⟩;refine vw ?_;have fin:∀(j:Nat) (L:SH),(∃x y:Blk,L=(j,⟨1,s.taint.map bP⟩)::(B,x)::(D,y)::ab o 1 (s.regs.map ah))->Q (.agg [.YJ s.pc,aQ o s.regs.length,.sl j 0 s.taint.length,.YJ s.ev]) L:=by rintro j L ⟨x,y,rfl⟩;subst hQ;refine⟨_,_,aE.forget (K:=[(B,x),(D,y)]) (R:=ab o 1 (s.regs.map ah)++[(j,⟨1,s.taint.map bP⟩)]) ?_,o,some j,rfl,rfl,ho,nofun⟩;refine(List.Perm.trans (List.Perm.swap _ _ _) ?_);refine List.Perm.cons _ ((List.Perm.swap _ _ _).trans (List.Perm.cons _ ?_));exact(W1 (l₁:=[(j,(⟨1,s.taint.map bP⟩:Blk))]) (l₂:=ab o 1 (s.regs.map ah)))
 have loop:∀(j:Nat) (y:Blk),y=⟨4,[[.YJ s.pc,aQ o s.regs.length,.lst (s.taint.map bP),.YJ s.ev]]⟩->W.loop (yH Q) [.ptr D 0 0,.ptr B 0 0,.sl j 0 s.taint.length,.lst (s.taint.map bP),.YJ s.taint.length,.YJ (0:Nat)] ((j,⟨1,List.replicate s.taint.length [.nils]⟩)::(B,⟨4,[[.YJ 0,.nils,.nils,.YJ 0]]⟩)::(D,y)::ab o 1 (s.regs.map ah)):=by
  intro j y hy;subst hy;refine bF s.taint.length (λk (_:Unit)=>([.ptr D 0 0,.ptr B 0 0,.sl j 0 s.taint.length,.lst (s.taint.map bP),.YJ s.taint.length,.YJ k],(j,⟨1,oF s.taint k⟩)::(B,⟨4,[[.YJ 0,.nils,.nils,.YJ 0]]⟩)::(D,⟨4,[[.YJ s.pc,aQ o s.regs.length,.lst (s.taint.map bP),.YJ s.ev]]⟩)::ab o 1 (s.regs.map ah))) (λ_ _=>True) () trivial (dX rfl (by simp[oF])) ?_;intro k _ hk _;dsimp only;refine vw ?_;rcases Nat.lt_or_ge k s.taint.length with u|u
  .have hd:=a8 u;have hx:=aq (f:=bP) u;have hz:=Nt s.taint k u;have hkl:k<(oF s.taint k).length:=by rw[Li _ _ hk];exact u
   have E:(s.taint[k]).length*8<=140737488355328:=by have:=h3 _ (WN u);omega
   cases o with
   |none=>
    dsimp only[ab,aQ]
    repeat' (first|refine sy ?_|(refine pf 162 ?_;refine pm (dS _ E) ?_)|refine vw ?_|refine s2 ?_ ?_|intro)
    exact⟨k+1,(),YC,YC,trivial,dX (by rw[ax u YC]<;>rfl) (by rw[<-DT _ _ u];rfl)⟩
   |some Y=>
    dsimp only[ab,aQ]
    repeat' (first|refine sy ?_|(refine pf 162 ?_;refine pm (dS _ E) ?_)|refine vw ?_|refine s2 ?_ ?_|intro)
    exact⟨k+1,(),YC,YC,trivial,dX (by rw[ax u YC]<;>rfl) (by rw[<-DT _ _ u];rfl)⟩
  .have hd:=bq u;have M:k=s.taint.length:=by omega
   subst M;have e:oF s.taint s.taint.length=s.taint.map bP:=by simp[oF]
   rw[e];cases o with
   |none=>
    dsimp only[ab,aQ]at fin ⊢
    repeat' (first|refine sy ?_|refine s2 ?_ ?_|intro)
    exact fin _ _ ⟨_,_,rfl⟩
   |some Y=>
    dsimp only[ab,aQ]at fin ⊢
    repeat' (first|refine sy ?_|refine s2 ?_ ?_|intro)
    exact fin _ _ ⟨_,_,rfl⟩
 cases o with
 |none=>
  dsimp only[ab,aQ]at loop ⊢
  repeat' (first|refine sy ?_|refine s2 ?_ ?_|intro)
  exact loop _ _ rfl
 |some Y=>
  dsimp only[ab,aQ]at loop ⊢
  repeat' (first|refine sy ?_|refine s2 ?_ ?_|intro)
  exact loop _ _ rfl
def Nu(a b:List Int)(ha:a.length<=2^30)(hb:b.length<=2^30):ao Tryz.prog 192 [.lst (a.map ah),.lst (b.map ah)] (.lst ((Cu (a++b)).map ah)):=by
 refine ac.fz (yG _ _ _ _ ?_);refine vw ?_;generalize Y:(λ(v:AV) (L:SH)=>∃E O,aE [v] L [E] O/\E=AV.lst ((Cu (a++b)).map ah)/\O=[])=Q;have G:IntKind.i64.wrap ((a.length:Int)+b.length)=((a.length+b.length:Nat):Int):=by rw[WY _ YC];omega
 have fin:∀(B:Nat) (L:SH),(B,(⟨1,(Lib.compact (wu (a++b))++List.replicate ((a++b).length-(Lib.compact (wu (a++b))).length) 0).map ah⟩:Blk))∈L->Q (.sl B 0 (Lib.compact (wu (a++b))).length) L:=λB L S=>by subst Y;refine⟨_,[],aE.all ?_,rfl,rfl⟩;show Fz _ (.sl B 0 (Cu (a++b)).length) (.lst ((Cu (a++b)).map ah));rw[show(Cu (a++b)).map ah=((((Lib.compact (wu (a++b))++List.replicate ((a++b).length-(Lib.compact (wu (a++b))).length) 0).map ah).drop 0).take (Cu (a++b)).length)from(As (List.take_left' rfl)).symm];exact Fz.rows (x:=⟨1,_⟩) S YF (by simp[Cu])
 have Z:=λB:Nat=>Kf B (a++b) YH
 have M:=λB:Nat=>At B (wu (a++b)) (by rw[qJ];simp;omega)
 simp only[qJ]at M
 repeat' (first|refine sx ?_|refine sb λD u=>?_|refine s2 ?_ ?_|intro)
 refine fY (i:=0) (j:=a.length+b.length) YC YC YC (λD u=>?_)
 repeat' (first|refine sy ?_|refine iv rp (λ_=>rfl) YF YH YH (λ_=>rfl) (λD u=>?_)|refine s2 ?_ ?_|intro)
 simp only[List.replicate,XM,<-List.map_append,Xn,<-List.length_append]
 repeat' (first|refine sy ?_|((with_reducible refine aU 155 ?_);(refine gq (Z _) (.here _) ?_;rintro _ _ ⟨rfl,rfl⟩))|((with_reducible refine aU 156 ?_);(refine gq (M _) (.here _) ?_;rintro _ _ ⟨rfl,rfl⟩))|refine s2 ?_ ?_|intro)
 exact fin _ _ rp
def tm(p:Int×Bool):AV:=.tup [.YJ p.1,.bool p.2]
def GY(b:Bool):ao Tryz.prog 184 [.bool b] (.YJ (kh b)):=by
 refine Cv _ _ _ ?_;refine vw ?_;cases b
 all_goals
  repeat' (first|refine sy ?_|refine s2 ?_ ?_|intro)
  exact⟨rfl,rfl⟩
def GZ(op a:Int):ao Tryz.prog 148 [.YJ op,.YJ a] (tm (Ay op a)):=by
 refine Cw _ _ _ _ ?_;refine vw ?_;generalize j:(λ(u:AV) (K:SH)=>u=tm (Ay op a)/\K=[])=Q
 repeat' (first|refine sy ?_|(refine pf 184 ?_;refine pm (GY _) ?_)|refine s2 ?_ ?_|intro)
 all_goals
  subst j;refine⟨?_,rfl⟩;simp_all[Ay,tm]
def DU(op a b:Int):ao Tryz.prog 149 [.YJ op,.YJ a,.YJ b] (tm (jV op a b)):=by
 refine AE _ _ _ _ _ ?_;refine vw ?_;generalize j:(λ(u:AV) (K:SH)=>u=tm (jV op a b)/\K=[])=Q
 repeat' (first|refine sy ?_|(refine pf 184 ?_;refine pm (GY _) ?_)|refine s2 ?_ ?_|intro)
 all_goals
  subst j;refine⟨?_,rfl⟩;simp_all[jV,tm]
section
theorem gT{P:Program}{KL:AV->SH->Prop}{g:FuncId}{cs args:List AV}{L j:SH}{b:Nat}{x:Blk}{R:AV->SH->Prop}(h:ac P g (args++cs) [(b,x)] R)(E:fQ b x L j)(D:∀v K,R v K->KL v (K++j)):W.call P (.fn g cs) args L KL:=
 ⟨h.frame (K:=[(b,x)]) (R:=j) E.perm λu K B=>D u K B⟩
def dL(s:aG)(o t:Option Nat):List AV:=[.YJ s.pc,aQ o s.regs.length,aQ t s.taint.length,.YJ s.ev]
def ko(s:aG)(bs:Nat)(o t:Option Nat):SH:=(bs,⟨4,[dL s o t]⟩)::(ab o 1 (s.regs.map ah)++ab t 1 (s.taint.map bP))
def wI(r:Option aG)(bs:Nat)(o t:Option Nat)(v:AV)(L:SH):Prop:=
 match r with
 |none=>v=.bool false
 |some s2=>v=.bool true/\L=ko s2 bs o t
theorem Ko(s:aG)(bs:Nat)(o t:Option Nat)(ho:o=none->s.regs=[])(r:Int):ac Tryz.prog 191 [.YJ r,.pptr [[.ptr bs 0 0]] 0 0] [(bs,⟨4,[dL s o t]⟩)] λv L=>v=.bool (s.has r)/\L=[(bs,⟨4,[dL s o t]⟩)]:=by
 refine re _ _ _ _ ?_;refine vw ?_;generalize j:(λ(v:AV) (L:SH)=>v=.bool (s.has r)/\L=[(bs,(⟨4,[dL s o t]⟩:Blk))])=Q;cases o with
 |none=>
  have u:=ho rfl;unfold dL at j ⊢;dsimp only[aQ]at j ⊢
  repeat' (first|refine sy ?_|refine s2 ?_ ?_|intro)
  all_goals
   subst j;refine⟨?_,rfl⟩;simp_all[aG.has,inB]<;>omega
 |some b=>
  unfold dL at j ⊢;dsimp only[aQ]at j ⊢
  repeat' (first|refine sy ?_|refine s2 ?_ ?_|intro)
  all_goals
   subst j;refine⟨?_,rfl⟩;simp_all[aG.has,inB]<;>omega
theorem eO{s:aG}{r:Int}:s.has r=true↔∃k:Nat,r=k/\k<s.regs.length:=by unfold aG.has;rw[aw];exact⟨λ⟨u,j⟩=>⟨r.toNat,YC,YC⟩,λ⟨k,u,j⟩=>by omega⟩
theorem eP{o:Option Nat}{α:Type}{l:List α}{k:Nat}(h:o=none->l=[])(j:k<l.length):∃b,o=some b:=by
 cases o with
 |none=>rw[h rfl]at j;simp at j
 |some b=>exact⟨b,rfl⟩
section
variable (s:aG) (bs:Nat) (o t:Option Nat) (ho:o=none->s.regs=[]) (ht:t=none->s.taint=[]) (hlen:s.taint.length=s.regs.length) (hsm:s.regs.length<2^40) (hsh:∀l∈s.taint,l.length<=2^30) (ia ib ic n site:Int)
include ho ht hlen hsm hsh
theorem Sq:ac Tryz.prog 164 [.ptr bs 0 0,.agg (az.mk 5 ia ib ic n site).enc] (ko s bs o t) (wI (aZ ⟨5,ia,ib,ic,n,site⟩ s) bs o t):=by
 refine eC _ _ _ _ ?_;refine vw ?_;generalize j:wI (aZ ⟨5,ia,ib,ic,n,site⟩ s) bs o t=Q;unfold ko
 repeat' (first|refine sy ?_|refine s2 ?_ ?_|intro)
 subst j;exact⟨rfl,rfl⟩
theorem Sr:ac Tryz.prog 164 [.ptr bs 0 0,.agg (az.mk 1 ia ib ic n site).enc] (ko s bs o t) (wI (aZ ⟨1,ia,ib,ic,n,site⟩ s) bs o t):=by
 have D:=λr=>Ko s bs o t ho r
 refine ac.fz (eC _ _ _ _ ?_);refine vw ?_;generalize O:(λ(v:AV) (L:SH)=>∃Z L2,aE [v] L [Z] L2/\wI (aZ ⟨1,ia,ib,ic,n,site⟩ s) bs o t Z L2)=Q;cases M:s.has ia with
 |false=>
  have e:aZ ⟨1,ia,ib,ic,n,site⟩ s=none:=by simp[aZ,M]
  unfold ko
  repeat' (first|refine sy ?_|(refine pD (gT (D _) (.here _) ?_);rintro _ _ ⟨rfl,rfl⟩;(try rw[M]))|refine s2 ?_ ?_|intro)
  subst O;rw[e];exact⟨_,[],aE.all (.refl _),rfl⟩
 |true=>
  have e:aZ ⟨1,ia,ib,ic,n,site⟩ s=some (s.put ia n []):=by simp[aZ,M]
  rw[e]at O;obtain⟨a,rfl,G⟩:=eO.1 M;obtain⟨Y,rfl⟩:=eP ho G;obtain⟨S,rfl⟩:=eP ht (k:=a) YC;have E:a<s.taint.length:=by omega
  have hxa:=aq (f:=ah) G;have hya:=aq (f:=bP) E;unfold ko;dsimp only[ab,List.cons_append,List.nil_append]
  repeat' (first|refine sy ?_|(refine pD (gT (D _) (.here _) ?_);rintro _ _ ⟨rfl,rfl⟩;first|rw[M])|refine s2 ?_ ?_|intro)
  subst O;refine⟨_,_,?_,rfl,rfl⟩;have e1:(s.put a n []).regs.map ah=(s.regs.map ah).set a [.YJ n]:=by simp[aG.put,XI,ah]
  have e2:(s.put a n []).taint.map bP=(s.taint.map bP).set a [.lst []]:=by simp[aG.put,XI,bP]
  have e3:dL (s.put a n []) (some Y) (some S)=[.YJ (IntKind.i64.wrap (s.pc+1)),.sl Y 0 s.regs.length,.sl S 0 s.taint.length,.YJ s.ev]:=by simp[dL,aG.put,aQ]
  unfold ko;rw[e1,e2,e3];dsimp only[ab,List.cons_append,List.nil_append];refine aE.rowA (K:=[]) (A:=[(bs,_),(Y,_)]) (b:=S) (R:=[]) (rows:=(s.taint.map bP).set a [.nils]) (rows':=(s.taint.map bP).set a [.lst []]) rp YF (λj r r' B u=>?_) rfl;rw[List.getElem?_set]at B u;by_cases hj:a=j
  .rw[if_pos hj]at B u;rw[if_pos YH]at B u;cases B;cases u;exact .cons .nils .nil
  .rw[if_neg hj]at B u;rw[B]at u;cases u;exact fi.refl _ _
theorem Ss:ac Tryz.prog 164 [.ptr bs 0 0,.agg (az.mk 2 ia ib ic n site).enc] (ko s bs o t) (wI (aZ ⟨2,ia,ib,ic,n,site⟩ s) bs o t):=by
 have u:=λr=>Ko s bs o t ho r
 refine eC _ _ _ _ ?_;refine vw ?_;generalize O:wI (aZ ⟨2,ia,ib,ic,n,site⟩ s) bs o t=Q;cases B:s.has ia with
 |false=>
  have e:aZ ⟨2,ia,ib,ic,n,site⟩ s=none:=by simp[aZ,B]
  unfold ko
  repeat' (first|refine sy ?_|(refine pD (gT (u _) (.here _) ?_);rintro _ _ ⟨rfl,rfl⟩;first|rw[B])|refine s2 ?_ ?_|intro)
  subst O;rw[e];rfl
 |true=>
  cases E:s.has ib with
  |false=>
   have e:aZ ⟨2,ia,ib,ic,n,site⟩ s=none:=by simp[aZ,E]
   unfold ko
   repeat' (first|refine sy ?_|(refine pD (gT (u _) (.here _) ?_);rintro _ _ ⟨rfl,rfl⟩;first|rw[B]|rw[E])|refine s2 ?_ ?_|intro)
   subst O;rw[e];rfl
  |true=>
   have e:aZ ⟨2,ia,ib,ic,n,site⟩ s=some (s.put ia (s.reg ib) (s.tnt ib)):=by simp[aZ,B,E]
   rw[e]at O;obtain⟨a,rfl,M⟩:=eO.1 B;obtain⟨b,rfl,D⟩:=eO.1 E;obtain⟨b1,rfl⟩:=eP ho M;obtain⟨b2,rfl⟩:=eP ht (k:=a) YC;have G:a<s.taint.length:=by omega
   have hxa:=aq (f:=ah) M;have Y:=aq (f:=bP) G;have j:b<s.taint.length:=by omega
   have Z:=aq (f:=ah) D;have S:=aq (f:=bP) j;have hcl:=dS s.taint[b] (by have:=hsh _ (List.getElem_mem j);omega);unfold ko;dsimp only[ab,List.cons_append,List.nil_append]
   repeat' (first|refine sy ?_|(refine pD (gT (u _) (.here _) ?_);rintro _ _ ⟨rfl,rfl⟩;first|rw[B]|rw[E])|refine s2 ?_ ?_|intro)
   subst O;refine⟨rfl,?_⟩;simp[ko,aG.put,dL,aG.reg,aG.tnt,ab,List.getD,D,j,XI,ah,bP]
theorem St:ac Tryz.prog 164 [.ptr bs 0 0,.agg (az.mk 3 ia ib ic n site).enc] (ko s bs o t) (wI (aZ ⟨3,ia,ib,ic,n,site⟩ s) bs o t):=by
 have u:=λr=>Ko s bs o t ho r
 refine eC _ _ _ _ ?_;refine vw ?_;generalize D:wI (aZ ⟨3,ia,ib,ic,n,site⟩ s) bs o t=Q;cases B:s.has ia with
 |false=>
  have e:aZ ⟨3,ia,ib,ic,n,site⟩ s=none:=by simp[aZ,B]
  unfold ko
  repeat' (first|refine sy ?_|(refine pD (gT (u _) (.here _) ?_);rintro _ _ ⟨rfl,rfl⟩;first|rw[B])|refine s2 ?_ ?_|intro)
  subst D;rw[e];rfl
 |true=>
  cases M:s.has ib with
  |false=>
   have e:aZ ⟨3,ia,ib,ic,n,site⟩ s=none:=by simp[aZ,M]
   unfold ko
   repeat' (first|refine sy ?_|(refine pD (gT (u _) (.here _) ?_);rintro _ _ ⟨rfl,rfl⟩;first|rw[B]|rw[M])|refine s2 ?_ ?_|intro)
   subst D;rw[e];rfl
  |true=>
   have e:aZ ⟨3,ia,ib,ic,n,site⟩ s=if(Ay n (s.reg ib)).2 then some (s.put ia (Ay n (s.reg ib)).1 (s.tnt ib))else none:=by simp[aZ,B,M]
   rw[e]at D;obtain⟨a,rfl,S⟩:=eO.1 B;obtain⟨b,rfl,G⟩:=eO.1 M;obtain⟨b1,rfl⟩:=eP ho S;obtain⟨b2,rfl⟩:=eP ht (k:=a) YC;have O:a<s.taint.length:=by omega
   have hxa:=aq (f:=ah) S;have hya:=aq (f:=bP) O;have j:b<s.taint.length:=by omega
   have hxb:=aq (f:=ah) G;have hyb:=aq (f:=bP) j;have hcl:=dS s.taint[b] (by have:=hsh _ (WN j);omega);have E:=GZ n s.regs[b];have Z:s.reg b=s.regs[b]:=by simp[aG.reg,List.getD,G]
   have Y:s.tnt b=s.taint[b]:=by simp[aG.tnt,List.getD,j]
   rw[Z,Y]at D;generalize Ay n s.regs[b]=p at E D;unfold tm at E;unfold ko;dsimp only[ab,List.cons_append,List.nil_append]
   repeat' (first|refine sy ?_|(refine pD (gT (u _) (.here _) ?_);rintro _ _ ⟨rfl,rfl⟩;first|rw[B]|rw[M])|refine s2 ?_ ?_|intro)
   subst D;unfold wI;cases hp:p.2 with
   |false=>rfl
   |true=>refine⟨rfl,?_⟩;simp[ko,aG.put,dL,ab,XI,ah,bP]
theorem Su:ac Tryz.prog 164 [.ptr bs 0 0,.agg (az.mk 4 ia ib ic n site).enc] (ko s bs o t) (wI (aZ ⟨4,ia,ib,ic,n,site⟩ s) bs o t):=by
 have D:=λr=>Ko s bs o t ho r
 refine eC _ _ _ _ ?_;refine vw ?_;generalize E:wI (aZ ⟨4,ia,ib,ic,n,site⟩ s) bs o t=Q;cases G:s.has ia with
 |false=>
  have e:aZ ⟨4,ia,ib,ic,n,site⟩ s=none:=by simp[aZ,G]
  unfold ko
  repeat' (first|refine sy ?_|(refine pD (gT (D _) (.here _) ?_);rintro _ _ ⟨rfl,rfl⟩;first|rw[G])|refine s2 ?_ ?_|intro)
  subst E;rw[e];rfl
 |true=>
  cases M:s.has ib with
  |false=>
   have e:aZ ⟨4,ia,ib,ic,n,site⟩ s=none:=by simp[aZ,M]
   unfold ko
   repeat' (first|refine sy ?_|(refine pD (gT (D _) (.here _) ?_);rintro _ _ ⟨rfl,rfl⟩;first|rw[G]|rw[M])|refine s2 ?_ ?_|intro)
   subst E;rw[e];rfl
  |true=>
   cases Z:s.has ic with
   |false=>
    have e:aZ ⟨4,ia,ib,ic,n,site⟩ s=none:=by simp[aZ,Z]
    unfold ko
    repeat' (first|refine sy ?_|(refine pD (gT (D _) (.here _) ?_);rintro _ _ ⟨rfl,rfl⟩;first|rw[G]|rw[M]|rw[Z])|refine s2 ?_ ?_|intro)
    subst E;rw[e];rfl
   |true=>
    have e:aZ ⟨4,ia,ib,ic,n,site⟩ s=if(jV n (s.reg ib) (s.reg ic)).2 then some (s.put ia (jV n (s.reg ib) (s.reg ic)).1 (Cu (s.tnt ib++s.tnt ic)))else none:=by simp[aZ,G,M,Z]
    rw[e]at E;obtain⟨a,rfl,hal⟩:=eO.1 G;obtain⟨b,rfl,hbl⟩:=eO.1 M;obtain⟨c,rfl,Y⟩:=eO.1 Z;obtain⟨b1,rfl⟩:=eP ho hal;obtain⟨b2,rfl⟩:=eP ht (k:=a) YC;have hal2:a<s.taint.length:=by omega
    have hxa:=aq (f:=ah) hal;have hya:=aq (f:=bP) hal2;have B:b<s.taint.length:=by omega
    have hxb:=aq (f:=ah) hbl;have hyb:=aq (f:=bP) B;have j:c<s.taint.length:=by omega
    have hxc:=aq (f:=ah) Y;have hyc:=aq (f:=bP) j;have O:=Nu s.taint[b] s.taint[c] (hsh _ (WN B)) (hsh _ (WN j));have S:=DU n s.regs[b] s.regs[c];have hrb:s.reg b=s.regs[b]:=by simp[aG.reg,List.getD,hbl]
    have htb:s.tnt b=s.taint[b]:=by simp[aG.tnt,List.getD,B]
    have hrc:s.reg c=s.regs[c]:=by simp[aG.reg,List.getD,Y]
    have htc:s.tnt c=s.taint[c]:=by simp[aG.tnt,List.getD,j]
    rw[hrb,htb,hrc,htc]at E;generalize jV n s.regs[b] s.regs[c]=p at S E;generalize Cu (s.taint[b]++s.taint[c])=u at O E;unfold tm at S;unfold ko;dsimp only[ab,List.cons_append,List.nil_append]
    repeat' (first|refine sy ?_|(refine pD (gT (D _) (.here _) ?_);rintro _ _ ⟨rfl,rfl⟩;first|rw[G]|rw[M]|rw[Z])|refine s2 ?_ ?_|intro)
    subst E;unfold wI;cases hp:p.2 with
    |false=>rfl
    |true=>refine⟨rfl,?_⟩;simp[ko,aG.put,dL,ab,XI,ah,bP]
end
end
section
def lu:List AV:=[.YJ 0,.nils,.nils,.YJ 0]
theorem qM{P:Program}{KL B:AV->SH->Prop}{g:FuncId}{args:List AV}{L K R:SH}(h:ac P g args K B)(G:L.Perm (K++R))(E:∀v j,B v j->KL v (R++j)):W.callM P g args L KL:=
 ⟨.perm (h.frame G λu j D=>⟨R++j,W1,E u j D⟩)⟩
theorem Nv(s:aG)(E:Nat)(o t:Option Nat)(ho:o=none->s.regs=[])(ht:t=none->s.taint=[])(u:s.taint.length=s.regs.length)(B:s.regs.length<2^40)(D:∀l∈s.taint,l.length<=2^30)(i:az)(Y:1<=i.op)(S:i.op<=5):
  ac Tryz.prog 164 [.ptr E 0 0,.agg i.enc] (ko s E o t) (wI (aZ i s) E o t):=by
 obtain⟨op,O,M,G,n,j⟩:=i;dsimp only at Y S;obtain rfl|rfl|rfl|rfl|rfl:op=1\/op=2\/op=3\/op=4\/op=5:=by omega
 .exact Sr s E o t ho ht u B D O M G n j
 .exact Ss s E o t ho ht u B D O M G n j
 .exact St s E o t ho ht u B D O M G n j
 .exact Su s E o t ho ht u B D O M G n j
 .exact Sq s E o t ho ht u B D O M G n j
theorem uK(s:aG)(a v:Int)(t:List Int):(s.put a v t).regs.length=s.regs.length/\(s.put a v t).taint.length=s.taint.length:=by simp[aG.put]
theorem wJ{s s2:aG}{i:az}(j:aZ i s=some s2):s2.regs.length=s.regs.length/\s2.taint.length=s.taint.length:=by
 unfold aZ at j;split at j
 .split at j
  .cases j;exact uK _ _ _ _
  .cases j
 .split at j
  .split at j
   .cases j;exact uK _ _ _ _
   .cases j
  .split at j
   .split at j
    .cases j;exact uK _ _ _ _
    .cases j
   .split at j
    .split at j
     .cases j;exact uK _ _ _ _
     .cases j
    .cases j;exact⟨rfl,rfl⟩
theorem gL{α:Type}{K:SH}{f:α->List AV}{l:List α}{o:Option Nat}{n:Nat}(j:n=l.length)(B:o=none->l=[])(u:∀b,o=some b->(b,(⟨1,l.map f⟩:Blk))∈K):Fz K (aQ o n) (.lst (l.map f)):=by
 cases o with
 |none=>rw[B rfl];exact .refl _
 |some b=>exact Fz.sls (u b rfl) rfl YG j
theorem Kq{K:SH}{s:aG}{o t:Option Nat}(ho:o=none->s.regs=[])(ht:t=none->s.taint=[])(h:∀p∈ab o 1 (s.regs.map ah)++ab t 1 (s.taint.map bP),p∈K):Fz K (.agg (dL s o t)) (.agg s.enc):=
 Fz.aggs (.cons (.refl _) (.cons (gL rfl ho λb e=>h _ (by subst e;simp[ab])) (.cons (gL rfl ht λb e=>h _ (by subst e;simp[ab])) (.cons (.refl _) .nil))))
theorem qN(K:SH):Fz K (.agg lu) (.agg aG.zero.enc):=Fz.aggs (.cons (.refl _) (.cons .nils (.cons .nils (.cons (.refl _) .nil))))
theorem pQ{K:SH}{a b:AV}{u:Bool}(h:Fz K a b):Fz K (.tup [a,.bool u]) (.tup [b,.bool u]):=.tup _ _ rfl λi x y j B=>by
 match i with
 |0=>cases j;cases B;exact h
 |1=>cases j;cases B;exact .refl _
 |i+2=>simp at j
theorem zA{ins:List az}{k:Nat}{s:aG}(h:inB s.pc ins.length=false):eV ins k s=(aG.zero,false):=by cases k<;>simp[eV,h]
theorem G0{ins:List az}{k:Nat}{s:aG}(h:inB s.pc ins.length=true)(h2:(ins.getD s.pc.toNat default).op<1\/5<(ins.getD s.pc.toNat default).op):eV ins k s=(s,true):=by cases k<;>simp only[eV,h,if_true,if_pos h2]
theorem G1{ins:List az}{k:Nat}{s:aG}(h:inB s.pc ins.length=true)(h2:¬((ins.getD s.pc.toNat default).op<1\/5<(ins.getD s.pc.toNat default).op))(j:aZ (ins.getD s.pc.toNat default) s=none):eV ins k s=(aG.zero,false):=by cases k<;>simp only[eV,h,if_true,if_neg h2,j]
theorem G2{ins:List az}{s:aG}(h:inB s.pc ins.length=true)(h2:¬((ins.getD s.pc.toNat default).op<1\/5<(ins.getD s.pc.toNat default).op)):eV ins 0 s=(aG.zero,false):=by simp only[eV,h,if_true,if_neg h2]
theorem G3{ins:List az}{k:Nat}{s s2:aG}(h:inB s.pc ins.length=true)(h2:¬((ins.getD s.pc.toNat default).op<1\/5<(ins.getD s.pc.toNat default).op))(j:aZ (ins.getD s.pc.toNat default) s=some s2):eV ins (k+1) s=eV ins k s2:=by simp only[eV,h,if_true,if_neg h2,j]
section
variable (c:eG) (s:aG) (U:List Int) (hU:U.length<=2^30) (hT:ji U s) (hc:c.ins.length<2^40) (o t:Option Nat) (ho:o=none->s.regs=[]) (ht:t=none->s.taint=[])
include hU hT hc ho ht
theorem G4(E O:Nat)(Q:AV->SH->Prop)(hq:∀v L,Fz L v (nR (eV c.ins c.ins.length s))->Q v L):
  W.loop (wG Q) [.pptr [c.enc] 0 0,.ptr E 0 0,.ptr O 0 0,.YJ (0:Nat)] ((O,⟨4,[lu]⟩)::ko s E o t):=by
 refine bF c.ins.length (λk (e:aG)=>([.pptr [c.enc] 0 0,.ptr E 0 0,.ptr O 0 0,.YJ k],(O,⟨4,[lu]⟩)::ko e E o t)) (λk e=>ji U e/\(e.regs.length=s.regs.length/\e.taint.length=s.taint.length)/\eV c.ins (c.ins.length-k) e=eV c.ins c.ins.length s) s ⟨hT,⟨rfl,rfl⟩,rfl⟩ (.refl _ _) ?_;intro k e hk ⟨he,⟨hl1,hl2⟩,hrun⟩;rw[<-hrun]at hq;have Z:o=none->e.regs=[]:=λx=>XA.1 (by rw[hl1,ho x];rfl)
 have Y:t=none->e.taint=[]:=λx=>XA.1 (by rw[hl2,ht x];rfl)
 dsimp only;refine vw ?_;have j:eV c.ins (c.ins.length-k) e=(aG.zero,false)->∀L,Q (.tup [.agg lu,.bool false]) L:=λh L=>hq _ _ (by rw[h];exact pQ (qN _))
 by_cases p1:e.pc<0
 .have hd1:decide (e.pc<0)=true:=by simpa using p1
  have G:=j (zA (by simp[inB];omega));unfold ko dL
  repeat' (first|refine sy ?_|refine s2 ?_ ?_|intro)
  exact G _
 .have hd1:decide (e.pc<0)=false:=by simpa using p1
  by_cases p2:(c.ins.length:Int)<=e.pc
  .have hd2:decide ((c.ins.length:Int)<=e.pc)=true:=by simpa using p2
   have G:=j (zA (by simp[inB];omega));unfold ko dL
   repeat' (first|refine sy ?_|refine s2 ?_ ?_|intro)
   exact G _
  .have hd2:decide ((c.ins.length:Int)<=e.pc)=false:=by simpa using p2
   have D:inB e.pc c.ins.length=true:=by simp[inB];omega
   have hx:=co (f:=az.enc) D;generalize S:c.ins.getD e.pc.toNat default=i at hx;by_cases p3:i.op<1\/5<i.op
   .have hr:=G0 (k:=c.ins.length-k) D (by rw[S];exact p3);rw[hr]at hq;have fin:∀x,Q (.tup [.agg (dL e o t),.bool true]) ((O,x)::ko e E o t):=λx=>hq _ _ (pQ (Kq Z Y λp hp=>by unfold ko;exact .tail _ (.tail _ hp)))
    unfold ko dL at fin ⊢;by_cases p4:i.op<1
    .have q1:decide (i.op<1)=true:=by simpa using p4
     rcases o with _|b1<;>rcases t with _|b2
     all_goals
      dsimp only[aQ,ab,List.cons_append,List.nil_append]at fin ⊢
      repeat' (first|refine sy ?_|refine s2 ?_ ?_|intro)
      exact fin _
    .have q1:decide (i.op<1)=false:=by simpa using p4
     have q2:decide (5<i.op)=true:=by simp;omega
     rcases o with _|b1<;>rcases t with _|b2
     all_goals
      dsimp only[aQ,ab,List.cons_append,List.nil_append]at fin ⊢
      repeat' (first|refine sy ?_|refine s2 ?_ ?_|intro)
      exact fin _
   .have q1:decide (i.op<1)=false:=by simp;omega
    have q2:decide (5<i.op)=false:=by simp;omega
    by_cases p5:k=c.ins.length
    .have q3:decide ((k:Int)=(c.ins.length:Int))=true:=by simp[p5]
     have G:=j (by rw[p5,X9];exact G2 D (by rw[S];exact p3));unfold ko dL
     repeat' (first|refine sy ?_|refine s2 ?_ ?_|intro)
     exact G _
    .have q3:decide ((k:Int)=(c.ins.length:Int))=false:=by simp;omega
     have B:=Nv e E o t Z Y he.len he.small he.short i YC YC;obtain⟨m,hm⟩:∃m,c.ins.length-k=m+1:=⟨c.ins.length-k-1,YC⟩;cases u:aZ i e with
     |none=>
      have G:=j (G1 D (by rw[S];exact p3) (by rw[S];exact u));rw[u]at B;change ac _ _ _ _ (λv L=>v=AV.bool false)at B;unfold ko dL
      repeat' (first|refine sy ?_|((with_reducible refine aU 164 ?_);(refine qM B (W1 (l₁:=[(O,_)]) (l₂:=ko e E o t)) ?_;rintro _ K' rfl))|refine s2 ?_ ?_|intro)
      exact G _
     |some s2=>
      rw[u]at B;change ac _ _ _ _ (λv L=>v=AV.bool true/\L=ko s2 E o t)at B;have M:eV c.ins (c.ins.length-(k+1)) s2=eV c.ins c.ins.length s:=by rw[<-hrun,hm,G3 D (by rw[S];exact p3) (by rw[S];exact u),show c.ins.length-(k+1)=m by omega]
      have hls:=wJ u;unfold ko dL
      repeat' (first|refine sy ?_|((with_reducible refine aU 164 ?_);(refine qM B (W1 (l₁:=[(O,_)]) (l₂:=ko e E o t)) ?_;rintro _ _ ⟨rfl,rfl⟩))|refine s2 ?_ ?_|intro)
      exact⟨k+1,s2,YC,YC,⟨he.step hU u,⟨YC,YC⟩,M⟩,dX (by rw[ax (by omega:k<c.ins.length) YC]<;>rfl) rfl⟩
end
end
section
theorem Nw{U:List Int}(hU:U.length<=2^30){ins:List az}:∀(k:Nat) {s:aG},ji U s->ji U (eV ins k s).1:=by
 have j:ji U aG.zero:=⟨rfl,YG,nofun,nofun⟩;intro k
 induction k with
 |zero=>
  intro s h;unfold eV;split
  .split
   .exact h
   .exact j
  .exact j
 |succ k u=>
  intro s h;unfold eV;split
  .split
   .exact h
   .split
    .exact j
    .rename_i s2 B;exact u (h.step hU B)
  .exact j
theorem G5{U:List Int}(hU:U.length<=2^30){c:eG}{s:aG}(h:ji U s):ji U (bu c s).1:=by
 unfold bu;split
 .exact Nw hU _ h
 .exact⟨rfl,YG,nofun,nofun⟩
section
variable (c:eG) (s:aG) (U:List Int) (hU:U.length<=2^30) (hr:s.regs.length<2^40) (ht:s.taint.length<2^40) (hsh:∀l∈s.taint,l.length<=2^30) (hsub:∀l∈s.taint,∀x∈l,x∈U) (hc:c.ins.length<2^40)
include hU hr ht hsh hsub hc
theorem Lj:ao Tryz.prog 112 [.agg c.enc,.agg s.enc] (nR (bu c s)):=by
 refine ac.fz (wH _ _ _ _ ?_);refine vw ?_;generalize S:(λ(v:AV) (L:SH)=>∃O Y,aE [v] L [O] Y/\O=nR (bu c s)/\Y=[])=Q;have j:∀v L,Fz L v (nR (bu c s))->Q v L:=λv L h=>by subst S;exact⟨_,[],aE.all h,rfl,rfl⟩
 clear S;by_cases E:(s.regs.length:Int)=c.regs
 .have d1:decide ((s.regs.length:Int)≠c.regs)=false:=by simpa using E
  by_cases D:(s.taint.length:Int)=c.regs
  .have d2:decide ((s.taint.length:Int)≠c.regs)=false:=by simpa using D
   have hT:ji U s:=⟨YC,hr,hsh,hsub⟩;have e:bu c s=eV c.ins c.ins.length s:=by unfold bu;rw[if_pos ⟨E,D⟩]
   rw[e]at j;have M:=IR s hr ht hsh
   repeat' (first|refine sx ?_|((with_reducible refine aU 163 ?_);(refine qM (K:=[]) M (List.Perm.refl _) ?_;rintro _ _ ⟨o,t,rfl,rfl,Z,G⟩))|refine sb λu B=>?_|refine s2 (λh=>?_) λh=>?_|fail)
   rename_i b3 _;rcases o with _|b1<;>rcases t with _|b2
   all_goals
    repeat' (first|refine sx ?_|refine sb λu B=>?_|refine s2 ?_ ?_|intro)
    exact G4 c s U hU hT hc _ _ Z G b3 u Q j
  .have d2:decide ((s.taint.length:Int)≠c.regs)=true:=by simpa using D
   have e:bu c s=(aG.zero,false):=by unfold bu;rw[if_neg (λh=>D h.2)]
   rw[e]at j
   repeat' (first|refine sy ?_|refine s2 ?_ ?_|intro)
   exact j _ _ (pQ (qN _))
 .have d1:decide ((s.regs.length:Int)≠c.regs)=true:=by simpa using E
  have e:bu c s=(aG.zero,false):=by unfold bu;rw[if_neg (λh=>E h.1)]
  rw[e]at j
  repeat' (first|refine sy ?_|refine s2 ?_ ?_|intro)
  exact j _ _ (pQ (qN _))
end
end
def oG:RF:=nv (cg Tryz.prog Tryz.f28 [(12,⟨[1,20,21,22],[],true,[]⟩)] [(0,[1]),(5,[4])])
abbrev yK(a:AV)(L:SH)(Q:R):Prop:=Pc oG 20 Q 0 [] [a] L
def wK(j:AV)(L:SH)(Q:R)(h:yK j L Q):ac Tryz.prog 28 [j] L Q:=
 fv oG Tryz.func28 h
def fH:RF:=nv (cg Tryz.prog Tryz.f56 [(42,⟨[1,3,5,8,26,27,28,78,79,80],[12],true,[]⟩),(42037,⟨[1,3,5,6,8,26,27,28],[12],true,[]⟩),(37,⟨[1,3,5,6,8,26,27,28],[],true,[]⟩),(12,⟨[1,3,5,26,27,28],[],true,[6]⟩)] [(0,[3,5]),(5,[8])])
abbrev nS(Q:R)(a:Kn):Vs->SH->Prop:=Jp fH 18 Q 42037 [a]
abbrev o6(a b c:AV)(L:SH)(Q:R):Prop:=Pc fH 20 Q 0 [] [a,b,c] L
def nT(B u j:AV)(L:SH)(Q:R)(h:o6 B u j L Q):ac Tryz.prog 56 [B,u,j] L Q:=
 fv fH Tryz.func56 h
def ig:RF:=nv (cg Tryz.prog Tryz.f107 [(105100,⟨[3,5,12,97],[],true,[]⟩),(96091,⟨[3,5,12,87],[],true,[]⟩),(84079,⟨[3,5,12,78],[],true,[]⟩),(69064,⟨[3,5,12,71],[],true,[]⟩)] [(0,[3,5])])
abbrev mF(a b c:AV)(L:SH)(Q:R):Prop:=Pc ig 20 Q 0 [] [a,b,c] L
def lW(B u j:AV)(L:SH)(Q:R)(h:mF B u j L Q):ac Tryz.prog 107 [B,u,j] L Q:=
 fv ig Tryz.func107 h
def kq:RF:=nv (cg Tryz.prog Tryz.f150 [] [(0,[2])])
abbrev tp(a b:AV)(L:SH)(Q:R):Prop:=Pc kq 20 Q 0 [] [a,b] L
def rh(u j:AV)(L:SH)(Q:R)(h:tp u j L Q):ac Tryz.prog 150 [u,j] L Q:=
 fv kq Tryz.func150 h
def lw:RF:=nv (cg Tryz.prog Tryz.f151 [] [(0,[3])])
abbrev uL(a b c:AV)(L:SH)(Q:R):Prop:=Pc lw 20 Q 0 [] [a,b,c] L
def tq(B u j:AV)(L:SH)(Q:R)(h:uL B u j L Q):ac Tryz.prog 151 [B,u,j] L Q:=
 fv lw Tryz.func151 h
def ku:RF:=nv (cg Tryz.prog Tryz.f152 [] [])
abbrev tu(a:AV)(L:SH)(Q:R):Prop:=Pc ku 20 Q 0 [] [a] L
def ri(j:AV)(L:SH)(Q:R)(h:tu j L Q):ac Tryz.prog 152 [j] L Q:=
 fv ku Tryz.func152 h
def fm:RF:=nv (cg Tryz.prog Tryz.f108 [(39,⟨[0,3,4,6,14,15],[12],false,[]⟩),(21,⟨[0,3,4,5,6,14,15],[12],true,[]⟩),(12,⟨[0,3,4,14,15],[],true,[]⟩)] [])
abbrev rj(a:Kn):Vs->SH->Kn->Prop:=Lp fm 17 q0 39 [a]
abbrev rk(Q:R)(a:Kn):Vs->SH->Kn->Prop:=Lp fm 18 Q 21 [a]
abbrev tv(a:AV)(L:SH)(Q:R):Prop:=Pc fm 20 Q 0 [] [a] L
def rl(j:AV)(L:SH)(Q:R)(h:tv j L Q):ac Tryz.prog 108 [j] L Q:=
 fv fm Tryz.func108 h
def jK:RF:=nv (cg Tryz.prog Tryz.f153 [] [])
abbrev rn(a b:AV)(L:SH)(Q:R):Prop:=Pc jK 20 Q 0 [] [a,b] L
def pR(u j:AV)(L:SH)(Q:R)(h:rn u j L Q):ac Tryz.prog 153 [u,j] L Q:=
 fv jK Tryz.func153 h
def jj:RF:=nv (cg Tryz.prog Tryz.f55 [(27,⟨[1,60,61,62],[],true,[]⟩)] [(0,[1]),(10,[6])])
abbrev pS(a:AV)(L:SH)(Q:R):Prop:=Pc jj 20 Q 0 [] [a] L
def o7(j:AV)(L:SH)(Q:R)(h:pS j L Q):ac Tryz.prog 55 [j] L Q:=
 fv jj Tryz.func55 h
def ga:RF:=nv (cg Tryz.prog Tryz.f101 [(39,⟨[0,4,5,6,51,52],[9],true,[]⟩),(9,⟨[0,4,5],[],true,[]⟩)] [])
abbrev o8(Q:R)(a:Kn):Vs->SH->Kn->Prop:=Lp ga 18 Q 39 [a]
abbrev jl(a:AV)(L:SH)(Q:R):Prop:=Pc ga 20 Q 0 [] [a] L
def iL(j:AV)(L:SH)(Q:R)(h:jl j L Q):ac Tryz.prog 101 [j] L Q:=
 fv ga Tryz.func101 h
def jm:RF:=nv (cg Tryz.prog Tryz.f104 [(30025,⟨[1,3,4,6,8,9,10],[9],true,[]⟩),(9,⟨[1,3,4,8,9,10],[],true,[]⟩)] [(0,[1]),(4,[6])])
abbrev pT(a:AV)(L:SH)(Q:R):Prop:=Pc jm 20 Q 0 [] [a] L
def o9(j:AV)(L:SH)(Q:R)(h:pT j L Q):ac Tryz.prog 104 [j] L Q:=
 fv jm Tryz.func104 h
def mG:RF:=nv (cg Tryz.prog Tryz.f103 [] [(0,[3])])
abbrev wL(a b c:AV)(L:SH)(Q:R):Prop:=Pc mG 20 Q 0 [] [a,b,c] L
def uM(B u j:AV)(L:SH)(Q:R)(h:wL B u j L Q):ac Tryz.prog 103 [B,u,j] L Q:=
 fv mG Tryz.func103 h
def mH:RF:=nv (cg Tryz.prog Tryz.f105 [] [])
abbrev wM(a b:AV)(L:SH)(Q:R):Prop:=Pc mH 20 Q 0 [] [a,b] L
def uN(u j:AV)(L:SH)(Q:R)(h:wM u j L Q):ac Tryz.prog 105 [u,j] L Q:=
 fv mH Tryz.func105 h
def jL:RF:=nv (cg Tryz.prog Tryz.f106 [(51046,⟨[1,4,37],[],true,[]⟩),(30025,⟨[1,4,13],[],true,[]⟩),(21016,⟨[1,4,5],[],true,[]⟩)] [(0,[1])])
abbrev rq(a:AV)(L:SH)(Q:R):Prop:=Pc jL 20 Q 0 [] [a] L
def pU(j:AV)(L:SH)(Q:R)(h:rq j L Q):ac Tryz.prog 106 [j] L Q:=
 fv jL Tryz.func106 h
section
theorem eW(i:Int)(n:Nat):ao Tryz.prog 105 [.YJ i,.YJ n] (.bool (inB i n)):=by
 refine uN _ _ _ _ ?_;refine vw ?_;generalize j:(λ(u:AV) (K:SH)=>u=AV.bool (inB i n)/\K=[])=Q
 repeat' (first|refine sy ?_|refine s2 ?_ ?_|intro)
 all_goals
  subst j;refine⟨?_,rfl⟩;simp_all[inB]<;>omega
def pe(op:Int):Bool:=decide (1<=op)&&decide (op<=5)
theorem xU(op:Int):ao Tryz.prog 152 [.YJ op] (.bool (pe op)):=by
 refine ri _ _ _ ?_;refine vw ?_;generalize j:(λ(u:AV) (K:SH)=>u=AV.bool (pe op)/\K=[])=Q
 repeat' (first|refine sy ?_|refine s2 ?_ ?_|intro)
 all_goals
  subst j;refine⟨?_,rfl⟩;simp_all[pe]<;>omega
section
variable (w:aK)
theorem G6(i:Int):ao Tryz.prog 150 [.agg w.enc,.YJ i] (.bool (pM w i)):=by
 have B:=eW i w.cells.length;refine rh _ _ _ _ ?_;unfold pM;refine vw ?_;cases j:inB i w.cells.length with
 |false=>
  rw[j]at B
  repeat' (first|refine sy ?_|refine s2 ?_ ?_|intro)
  exact⟨rfl,rfl⟩
 |true=>
  rw[j]at B;have u:=co (f:=aH.enc) j;obtain⟨k,rfl⟩:=Xg (cT j);unfold aH.enc at u;rw[Xx]at u
  repeat' (first|refine sy ?_|refine s2 ?_ ?_|intro)
  exact⟨rfl,rfl⟩
theorem IS(i n:Int):ao Tryz.prog 151 [.agg w.enc,.YJ i,.YJ n] (.bool (uE w i n)):=by
 have D:=eW i w.cells.length;refine tq _ _ _ _ _ ?_;refine vw ?_;generalize G:(λ(u:AV) (K:SH)=>u=AV.bool (uE w i n)/\K=[])=Q;have E:∀b,uE w i n=b->Q (.bool b) []:=λb M=>by subst G;exact⟨by rw[M],rfl⟩
 clear G;cases j:inB i w.cells.length with
 |false=>
  rw[j]at D
  repeat' (first|refine sy ?_|refine s2 ?_ ?_|intro)
  exact E _ (by simp[uE,j])
 |true=>
  rw[j]at D;have B:=co (f:=aH.enc) j;obtain⟨k,rfl⟩:=Xg (cT j);unfold aH.enc at B;rw[Xx]at B
  repeat' (first|refine sy ?_|refine s2 ?_ ?_|intro)
  all_goals exact E _ (by simp_all[uE])
theorem DV(i:Int)(j:Bool):ao Tryz.prog 103 [.agg w.enc,.YJ i,.bool j] (.bool (jB w i j)):=by
 have B:=eW i w.locks.length;refine uM _ _ _ _ _ ?_;unfold jB;refine vw ?_;cases u:inB i w.locks.length with
 |false=>
  rw[u]at B
  repeat' (first|refine sy ?_|refine s2 ?_ ?_|intro)
  exact⟨rfl,rfl⟩
 |true=>
  rw[u]at B;obtain⟨k,rfl⟩:=Xg (cT u);have D:k<w.locks.length:=by have:=(aw.1 u).2;omega
  have E:=aq (f:=bv.enc) D;unfold bv.enc at E
  repeat' (first|refine sy ?_|refine s2 ?_ ?_|intro)
  refine⟨congrArg AV.bool ?_,rfl⟩;rw[Xx,XP,mt D];simp only[XU,X8];generalize w.locks[k].rw=r;cases r<;>cases j<;>rfl
end
def AH(n:Nat)(i:az):Bool:=if i.op=5 then inB i.a n else if i.op=10 then inB i.b n else true
theorem Ny(n a:Int):(Ay n a).2=decide (n=4\/n=5):=by
 unfold Ay
 repeat' split
 all_goals simp_all
theorem Lk(n a b:Int):(jV n a b).2=decide (6<=n/\n<=18):=by
 by_cases h:6<=n/\n<=18
 .rw[decide_eq_true h];have:n=6\/n=7\/n=8\/n=9\/n=10\/n=11\/n=12\/n=13\/n=14\/n=15\/n=16\/n=17\/n=18:=by omega
  unfold jV;rcases this with rfl|rfl|rfl|rfl|rfl|rfl|rfl|rfl|rfl|rfl|rfl|rfl|rfl<;>rfl
 .rw[decide_eq_false h];unfold jV;rw[if_neg YC,if_neg YC,if_neg YC,if_neg YC,if_neg YC,if_neg YC,if_neg YC,if_neg YC,if_neg YC,if_neg YC,if_neg YC,if_neg YC,if_neg YC]
theorem ET(w:aK)(n:Nat)(i:az):ao Tryz.prog 107 [.agg w.enc,.YJ n,.agg i.enc] (.bool (jh w i&&AH n i)):=by
 obtain⟨op,B,D,G,m,j⟩:=i;refine lW _ _ _ _ _ ?_;refine vw ?_;have h1:=eW B n;have h2:=eW D n;have hc:=eW B w.conds.length;have ht:=eW B w.threads.length;have hf:=eW B w.futures.length;have hg:=eW D w.futures.length;have M:=GZ m 0;have E:=DU m 0 0;unfold tm at M E;rw[Ny]at M;rw[Lk]at E;have S:=G6 w;have ha:=IS w;have Z:=DV w;generalize O:(λ(u:AV) (K:SH)=>u=AV.bool (jh w ⟨op,B,D,G,m,j⟩&&AH n ⟨op,B,D,G,m,j⟩)/\K=[])=Q;have Y:∀b:Bool,(jh w ⟨op,B,D,G,m,j⟩&&AH n ⟨op,B,D,G,m,j⟩)=b->Q (.bool b) []:=λb hb=>by subst hb;subst O;exact⟨rfl,rfl⟩
 clear O
 repeat' (first|refine sy ?_|(refine pf 150 ?_;refine pm (S _) ?_)|(refine pf 151 ?_;refine pm (ha _ _) ?_)|(refine pf 103 ?_;refine pm (Z _ _) ?_)|refine s2 ?_ ?_|intro)
 all_goals
  refine Y _ ?_;simp only[decide_eq_true_eq,decide_eq_false_iff_not]at *;unfold jh AH
  first
   |(subst_vars;rfl)
   |(subst_vars;simp;done)
   |(simp_all;done)
end
section
section
variable {L:SH} {K:AV->Prop} {KL:R} {KS:SH->Prop}
theorem P1(h:∀b,b∉L.names->KL (.mp b) ((b,⟨0,[]⟩)::L)):W.mkmap L KL:=⟨h⟩
theorem Nz{z v:AV}{j:Bool}{b:Nat}{s:List UInt8}{x:Blk}(u:(b,x)∈L)(B:x.rows.all ue=true)(h2:W0.found z j (iK s x.rows 0)=v)(k:K v):W.look z j (.mp b) (.str s) L K:=⟨x,u,B,by rw[h2];exact k⟩
theorem U4{v:AV}{b:Nat}{s:List UInt8}{x:Blk}{rows:List (List AV)}{j:SH}(u:zt b x ⟨x.size,rows⟩ L j)(D:x.rows.all ue=true)(h2:v.konst=true)(B:W0.putR s v x.rows=rows)(k:KS j):W.mup (.mp b) (.str s) v L KS:=⟨x,j,D,h2,by rw[B];exact u,k⟩
theorem Sv{s:List UInt8}(h:∀b,b∉L.names->KL (.it b) ((b,⟨0,[[.str s,.YJ 0]]⟩)::L)):W.rngS (.str s) L KL:=⟨s,rfl,h⟩
theorem Ll{b n:Nat}{s:List UInt8}{k:IntKind}{j:Int}(u:(b,(⟨n,[[.str s,.int k j]]⟩:Blk))∈L)(h:¬j<s.length)(B:KL (.tup [.bool false]) L):W.nxt (.it b) L KL:=⟨_,s,k,j,u,rfl,by rw[if_neg h];exact B⟩
theorem U5{b n:Nat}{s:List UInt8}{k:IntKind}{j:Nat}{u:SH}(D:(b,(⟨n,[[.str s,.int k (j:Int)]]⟩:Blk))∈L)(h:j<s.length)(B:zt b ⟨n,[[.str s,.int k (j:Int)]]⟩ ⟨n,[[.str s,.YJ ((j+(Utf8.decode ⟨s.toArray⟩ j).2:Nat):Int)]]⟩ L u)
  (E:KL (.tup [.bool true,.YJ (j:Int),.int .i32 (Utf8.decode ⟨s.toArray⟩ j).1]) u):W.nxt (.it b) L KL:=⟨_,s,k,j,D,rfl,by
 rw[if_pos YC];simp only[Xx];exact⟨u,B,E⟩⟩
end
theorem wN{α:Type}(S:α->List AV×SH)(m:α->Nat)(G:α->Prop){B:List AV->SH->W.Kn->Prop}{vs:List AV}{L:SH}(u:α)(h0:G u)(E:vs=(S u).1)(O:L=(S u).2)
  (h:∀a,G a->∀D:W.Kn,(∀j,G j->m j<m a->D (S j).1 (S j).2)->B (S a).1 (S a).2 D):W.loop B vs L:=
 Pt S m G u h0 E O λa M=>h a M _ λj Z Y=>⟨j,Z,Y,.refl _ _⟩
end
section
noncomputable def iz (P:Prop):Bool:=@decide P (Classical.propDecidable P)
theorem fM{P:Prop}(h:P):iz P=true:=@decide_eq_true P (Classical.propDecidable P) h
theorem eh{P:Prop}(h:¬P):iz P=false:=@decide_eq_false P (Classical.propDecidable P) h
theorem fo{P:Prop}:iz P=true↔P:=⟨λh=>@of_decide_eq_true P (Classical.propDecidable P) h,fM⟩
theorem EU(i:az):ao Tryz.prog 106 [.agg i.enc] (.lst ((aC i).map ah)):=by
 obtain⟨op,u,j,D,n,B⟩:=i;refine ac.fz (pU _ _ _ ?_);refine vw ?_;generalize M:(λ(v:AV) (L:SH)=>∃G O,aE [v] L [G] O/\G=AV.lst ((aC ⟨op,u,j,D,n,B⟩).map ah)/\O=[])=Q;have E:∀(l:List Int),aC ⟨op,u,j,D,n,B⟩=l->∀v L,Fz L v (.lst (l.map ah))->Q v L:=λl S v L h=>by subst M;exact⟨_,[],aE.all h,by rw[S],rfl⟩
 clear M
 repeat' (first|refine sy ?_|refine s2 ?_ ?_|intro)
 all_goals first
  |exact E [u] (by simp_all[aC];done) _ _ (Fz.sls (l:=[u]) (f:=ah) (.head _) rfl YG rfl)
  |exact E [j] (by simp_all[aC];done) _ _ (Fz.sls (l:=[j]) (f:=ah) (.head _) rfl YG rfl)
  |exact E [u,j] (by simp_all[aC];done) _ _ (Fz.sls (l:=[u,j]) (f:=ah) (.head _) rfl YG rfl)
  |exact E [u,D] (by simp_all[aC];done) _ _ (Fz.sls (l:=[u,D]) (f:=ah) (.head _) rfl YG rfl)
  |exact E [j,D] (by simp_all[aC];done) _ _ (Fz.sls (l:=[j,D]) (f:=ah) (.head _) rfl YG rfl)
  |exact E [u,j,D] (by simp_all[aC];done) _ _ (Fz.sls (l:=[u,j,D]) (f:=ah) (.head _) rfl YG rfl)
  |exact E [] (by simp_all[aC];done) _ _ .nils
theorem EV{ins:List az}{k:Nat}{i:az}(h:ins[k]? =some i):ao Tryz.prog 153 [.lst (ins.map az.enc),.YJ k] (.YJ (if i.op=5 then i.a else IntKind.i64.wrap ((k:Int)+1))):=by
 have D:(ins.map az.enc)[k]? =some i.enc:=PC h;obtain⟨op,B,M,G,n,j⟩:=i;unfold az.enc at D;refine pR _ _ _ _ ?_;refine vw ?_;generalize E:(λ(u:AV) (K:SH)=>u=AV.YJ (if op=5 then B else IntKind.i64.wrap ((k:Int)+1))/\K=[])=Q
 repeat' (first|refine sy ?_|refine s2 ?_ ?_|intro)
 all_goals
  subst E;refine⟨?_,rfl⟩;simp_all
structure NA(ins:List az):Prop where
 len:ins.length<2^48
 jmp:∀i∈ins,i.op=5->0<=i.a/\i.a<ins.length
 last:∀(k:Nat) (i:az),ins[k]? =some i->(i.op=28↔k+1=ins.length)
def nxt(ins:List az)(k:Nat):Nat:=match ins[k]? with
 |some i=>if i.op=5 then i.a.toNat else k+1
 |none=>0
def nU(ins:List az)(k:Nat):Nat->Nat
 |0=>k
 |t+1=>nxt ins (nU ins k t)
def oH(ins:List az)(k:Nat):Prop:=∃i,ins[k]? =some i/\i.sil
section
variable {ins:List az} (hf:NA ins)
include hf
theorem NB{k:Nat}(h:oH ins k):nxt ins k<ins.length:=by
 obtain⟨i,j,u⟩:=h;have E:=(List.getElem?_eq_some_iff.1 j).1;unfold nxt;rw[j];dsimp only;split
 .rename_i B;have:=hf.jmp i (XC j) B;omega
 .have D:=hf.last k i j;have:=u.2;have:k+1≠ins.length:=λe=>by have:=D.2 e;omega
  omega
theorem Kr{k:Nat}(h:oH ins k):ao Tryz.prog 153 [.lst (ins.map az.enc),.YJ k] (.YJ (nxt ins k:Nat)):=by
 have G:=NB hf h;obtain⟨i,j,E⟩:=h;have u:=EV j;have B:=(Xm.1 j).1;have:(if i.op=5 then i.a else IntKind.i64.wrap ((k:Int)+1))=(nxt ins k:Nat):=by
  unfold nxt;rw[j];dsimp only;split
  .rename_i D;have:=hf.jmp i (XC j) D;omega
  .have:=hf.len;rw[ax B YC]
 rw[this]at u;exact u
theorem NC{k:Nat}(h:oH ins k)(h2:eu ins (nxt ins k)):eu ins k:=by
 obtain⟨i,u,D⟩:=h;obtain⟨m,j⟩:=h2;unfold nxt at j;rw[u]at j;dsimp only at j;split at j
 .rename_i B;have:=hf.jmp i (XC u) B;exact⟨m+1,.jump k m i.a.toNat i u B YC j⟩
 .rename_i B;exact⟨m+1,.go k m i u D B j⟩
theorem Sw{k m:Nat}(h:oH ins k)(h2:vT ins k m):∃B,m=B+1/\vT ins (nxt ins k) B:=by
 obtain⟨i,E,S⟩:=h;unfold nxt;rw[E];dsimp only;cases h2 with
 |ev _ O u D=>rw[E]at u;cases u;exact absurd S D
 |go _ B O u D M G=>rw[E]at u;cases u;rw[if_neg M];exact⟨B,rfl,G⟩
 |jump _ B j O u M Y G=>rw[E]at u;cases u;rw[if_pos M,Y];exact⟨B,rfl,by simpa using G⟩
theorem EW{k m:Nat}(h:vT ins k m):∀t,(∀u,u<t->oH ins (nU ins k u))->t<=m/\vT ins (nU ins k t) (m-t)
 |0,_=>⟨Xq _,h⟩
 | t+1,hs=>by
  obtain⟨G,h2⟩:=EW h t λu D=>hs u YC
  obtain⟨j,E,B⟩:=Sw hf (hs t YC) h2;refine⟨YC,?_⟩;rw[show m-(t+1)=j by omega];exact B
theorem ND{k t u:Nat}(j:∀u,u<t->oH ins (nU ins k u))(M:u<t)(e:nU ins k u=nU ins k t):¬eu ins k:=λ⟨m,B⟩=>by
 obtain⟨S,E⟩:=EW hf B t j;obtain⟨O,D⟩:=EW hf B u λv G=>j v YC
 rw[e]at D;have:=D.uniq E;omega
theorem G7{k:Nat}:∀t,(∀u,u<t->oH ins (nU ins k u))->eu ins (nU ins k t)->∀u,u<=t->eu ins (nU ins k u)
 |0,_,h,u,hu=>by rw[show u=0 by omega];exact h
 | t+1,hs,h,u,hu=>by
  rcases Fn t u with j|j
  .rw[show u=t+1 by omega];exact h
  .exact G7 t (λv B=>hs v YC) (NC hf (hs t YC) h) u j
end
def nV(s:List Bool)(ins:List az)(k:Nat):Nat->List Bool
 |0=>s
 |t+1=>(nV s ins k t).set (nU ins k t) true
theorem kv(s:List Bool)(ins:List az)(k:Nat):∀t,(nV s ins k t).length=s.length
 |0=>rfl
 |t+1=>by rw[nV,Yd,kv s ins k t]
theorem pV{s:List Bool}{ins:List az}{k j:Nat}:∀t,(nV s ins k t)[j]? =some true->s[j]? =some true\/∃u,u<t/\nU ins k u=j
 |0,h=>.inl h
 | t+1,h=>by
  rw[nV,Xc]at h;split at h
  .rename_i e;exact .inr ⟨t,YC,e⟩
  .rcases pV t h with B|⟨u,D,e⟩
   .exact .inl B
   .exact .inr ⟨u,YC,e⟩
theorem pW{s:List Bool}{ins:List az}{k j:Nat}(G:j<s.length):∀t,(s[j]? =some true\/∃u,u<t/\nU ins k u=j)->(nV s ins k t)[j]? =some true
 | 0,h=>by
  rcases h with h|⟨u,E,_⟩
  .exact h
  .omega
 | t+1,h=>by
  rw[nV,Xc];split
  .rename_i e;rw[if_pos (by rw[kv];omega)]
  .rename_i e;refine pW G t ?_;rcases h with h|⟨u,E,B⟩
   .exact .inl h
   .refine .inr ⟨u,?_,B⟩;rcases Fn u t with D|D
    .exact D
    .rw[show u=t by omega]at B;exact absurd B e
theorem IT{l:List Bool}{k:Nat}(h:k<l.length):∃b,l[k]? =some b:=⟨l[k],mt h⟩
theorem EX{l:List Bool}{k:Nat}{b:Bool}(h:l[k]? =some b):(l.map aD)[k]? =some [.bool b]:=by rw[W6,h];rfl
theorem G8(s:List Bool)(ins:List az)(k t:Nat):((nV s ins k t).map aD).set (nU ins k t) [.bool true]=(nV s ins k (t+1)).map aD:=by rw[nV,XI];rfl
end
section
structure U6(ins:List az)(start:Nat)(g:List Bool)(t:Nat):Prop where
 lt:nU ins start t<ins.length
 sil:∀u,u<t->oH ins (nU ins start u)
 bad:∀u,u<t->g[nU ins start u]? =some false
 inj:∀u v,u<v->v<t->nU ins start u≠nU ins start v
section
variable {ins:List az} (hf:NA ins) {b1 b2:Nat} {start:Nat} (hs:start<ins.length) {g s:List Bool} (hg:g.length=ins.length) (hl:s.length=ins.length) (hsg:∀k:Nat,s[k]? =some true->g[k]? =some true) (hgl:∀k:Nat,g[k]? =some true->eu ins k)
theorem Sx{t:Nat}(hf:NA ins)(hs:start<ins.length)(h:U6 ins start g t):t<=ins.length:=by
 have S:((List.range t).map (nU ins start)).Nodup:=by
  refine List.pairwise_map.2 ?_;refine(List.nodup_range (n:=t)).imp_of_mem ?_;intro u v D E G e;rcases Fn u v with B|B
  .exact h.inj u v B (XR.1 E) e
  .exact h.inj v u YC (XR.1 D) e.symm
 have B:=GP S (n:=ins.length) (by
  intro j M;obtain⟨u,D,rfl⟩:=Xi.1 M;obtain⟨i,O,_⟩:=h.sil u (XR.1 D);exact(Xm.1 O).1)
 simpa using B
include hf hs hg hl
theorem NE(n8:W.Kn)(T:Nat)(D:U6 ins start g T)(G:¬oH ins (nU ins start T)\/g[nU ins start T]? =some true)(Y:List Bool)
  (hn:n8 [.lst (ins.map az.enc),.sl b1 0 ins.length,.sl b2 0 ins.length,.YJ ins.length,.YJ (start+1:Nat)] [(b2,⟨1,Y.map aD⟩),(b1,⟨1,(nV g ins start T).map aD⟩)]) :
  W.loop (rj n8) [.lst (ins.map az.enc),.sl b1 0 ins.length,.sl b2 0 ins.length,.YJ start,.YJ ins.length,.YJ start] [(b2,⟨1,Y.map aD⟩),(b1,⟨1,g.map aD⟩)]:=by
 refine wN (λu:Nat=>([.lst (ins.map az.enc),.sl b1 0 ins.length,.sl b2 0 ins.length,.YJ (nU ins start u:Nat),.YJ ins.length,.YJ start],[(b2,⟨1,Y.map aD⟩),(b1,⟨1,(nV g ins start u).map aD⟩)])) (λu=>T-u) (λu=>u<=T) 0 (Xq _) rfl rfl λu hu nx hnx=>?_
 have hk:nU ins start u<ins.length:=by
  rcases Fn u T with h|h
  .obtain⟨i,M,_⟩:=D.sil u h;exact(Xm.1 M).1
  .rw[show u=T by omega];exact D.lt
 have hx:=aq (f:=az.enc) hk;unfold az.enc at hx;have j:=xU ins[nU ins start u].op;obtain⟨b,O⟩:=IT (l:=nV g ins start u) (k:=nU ins start u) (by rw[kv];omega);have hbm:=EX O;have hw1:IntKind.i64.wrap ((start:Int)+1)=((start+1:Nat):Int):=ax hs (by have:=hf.len;omega);have Z:pe ins[nU ins start u].op=true->b=false->u<T:=λB h2=>by
  rcases Fn u T with h|h
  .exact h
  .exfalso;have e:u=T:=by omega
   subst e;rcases G with G|G
   .exact G ⟨_,mt hk,by simpa[pe,az.sil]using B⟩
   .rw[pW YC u (.inl G)]at O;cases O;cases h2
 have E:u<T->pe ins[nU ins start u].op=true/\b=false:=λh=>by
  obtain⟨i,M,h2⟩:=D.sil u h;rw[mt hk]at M;cases M;refine⟨by simpa[pe,az.sil]using h2,?_⟩;cases b with
  |false=>rfl
  |true=>
   exfalso;rcases pV u O with S|⟨v,hv,S⟩
   .rw[D.bad u h]at S;cases S
   .exact D.inj v u hv h S
 refine vw ?_
 try dsimp only
 rcases Fn u T with h|h
 .obtain⟨B,rfl⟩:=E h;have hfo:=Kr hf (D.sil u h);rw[B]at j
  repeat' (first|refine sy ?_|refine s2 ?_ ?_|intro)
  have:=hnx (u+1) YC YC;rw[<-G8]at this;exact this
 .have e:u=T:=by omega
  subst e;cases B:pe ins[nU ins start u].op with
  |false=>
   rw[B]at j
   repeat' (first|refine sy ?_|refine s2 ?_ ?_|intro)
   exact hn
  |true=>
   rw[B]at j;cases b with
   |false=>exact absurd (Z B rfl) (Nat.lt_irrefl _)
   |true=>
    repeat' (first|refine sy ?_|refine s2 ?_ ?_|intro)
    exact hn
include hsg in
theorem Sy(Q:R)(Z:W.Kn)(hq:¬eu ins start->∀L,Q (.bool false) L)
  (hn:∀T,U6 ins start g T->(¬oH ins (nU ins start T)\/g[nU ins start T]? =some true)->Z [.lst (ins.map az.enc),.sl b1 0 ins.length,.sl b2 0 ins.length,.YJ ins.length,.YJ (start+1:Nat)] [(b2,⟨1,(nV s ins start T).map aD⟩),(b1,⟨1,(nV g ins start T).map aD⟩)]) :
  W.loop (rk Q Z) [.lst (ins.map az.enc),.sl b1 0 ins.length,.sl b2 0 ins.length,.YJ start,.YJ start,.YJ ins.length,.YJ start] [(b2,⟨1,s.map aD⟩),(b1,⟨1,g.map aD⟩)]:=by
 refine wN (λt:Nat=>([.lst (ins.map az.enc),.sl b1 0 ins.length,.sl b2 0 ins.length,.YJ start,.YJ (nU ins start t:Nat),.YJ ins.length,.YJ start],[(b2,⟨1,(nV s ins start t).map aD⟩),(b1,⟨1,g.map aD⟩)])) (λt=>ins.length-t) (λt=>U6 ins start g t) 0 ⟨hs,λu B=>absurd B (XX _),λu B=>absurd B (XX _),λu v _ hv=>absurd hv (XX _)⟩ rfl rfl λt j nx hnx=>?_
 have hk:=j.lt;have hx:=aq (f:=az.enc) hk;unfold az.enc at hx;have S:=xU ins[nU ins start t].op;obtain⟨b,G⟩:=IT (l:=g) (k:=nU ins start t) YC;have hbm:=EX G;obtain⟨c,hc⟩:=IT (l:=nV s ins start t) (k:=nU ins start t) (by rw[kv];omega);have hcm:=EX hc;refine vw ?_
 try dsimp only
 cases h1:pe ins[nU ins start t].op with
 |false=>
  rw[h1]at S;have Y:¬oH ins (nU ins start t):=λ⟨i,hi,E⟩=>by
   rw[mt hk]at hi;cases hi;have:pe ins[nU ins start t].op=true:=by simpa[pe,az.sil]using E
   rw[h1]at this;cases this
  repeat' (first|refine sy ?_|refine s2 ?_ ?_|intro)
  exact NE hf hs hg hl Z t j (.inl Y) _ (hn t j (.inl Y))
 |true=>
  rw[h1]at S;have D:oH ins (nU ins start t):=⟨_,mt hk,by simpa[pe,az.sil]using h1⟩;cases b with
  |true=>
   repeat' (first|refine sy ?_|refine s2 ?_ ?_|intro)
   exact NE hf hs hg hl Z t j (.inr G) _ (hn t j (.inr G))
  |false=>
   cases c with
   |true=>
    have:¬eu ins start:=by
     rcases pV t hc with E|⟨u,B,E⟩
     .rw[hsg _ E]at G;cases G
     .exact ND hf j.sil B E
    repeat' (first|refine sy ?_|refine s2 ?_ ?_|intro)
    exact hq this _
   |false=>
    have hfo:=Kr hf D;have M:U6 ins start g (t+1):=⟨NB hf D,λu B=>by
     rcases Fn u t with h|h
     .exact j.sil u h
     .rw[show u=t by omega];exact D,λu B=>by
     rcases Fn u t with h|h
     .exact j.bad u h
     .rw[show u=t by omega];exact G,λu v O hv e=>by
     rcases Fn v t with h|h
     .exact j.inj u v O h e
     .have E:v=t:=by omega
      subst E;rw[pW YC v (.inr ⟨u,O,e⟩)]at hc;cases hc⟩
    have hle:=Sx hf hs M
    repeat' (first|refine sy ?_|refine s2 ?_ ?_|intro)
    have:=hnx (t+1) M YC;rw[<-G8]at this;exact this
end
theorem G9{ins:List az}(hf:NA ins):ao Tryz.prog 108 [.lst (ins.map az.enc)] (.bool (iz (∀k,k<ins.length->eu ins k))):=by
 have hl:=hf.len;refine ac.fz (rl _ _ _ ?_);refine vw ?_;generalize hQ:(λ(v:AV) (L:SH)=>∃v2 L2,aE [v] L [v2] L2/\v2=AV.bool (iz (∀k,k<ins.length->eu ins k))/\L2=[])=Q;have hq:∀b,iz (∀k,k<ins.length->eu ins k)=b->∀L,Q (.bool b) L:=λb hb L=>by subst hQ;exact⟨_,[],aE.all (.refl _),by rw[hb],rfl⟩
 clear hQ
 repeat' (first|refine sx ?_|refine sb λM hnb_=>?_|refine s2 (λh=>?_) λh=>?_|fail)
 rename_i b1 _;revert M;intro b2 _;have E:∀k:Nat,(List.replicate ins.length false)[k]? =some true->eu ins k:=λk h=>by rw[X6]at h;split at h<;>cases h
 refine wN (α:=Nat×List Bool×List Bool) (λa=>([.lst (ins.map az.enc),.sl b1 0 ins.length,.sl b2 0 ins.length,.YJ ins.length,.YJ (a.1:Nat)],[(b2,⟨1,a.2.2.map aD⟩),(b1,⟨1,a.2.1.map aD⟩)])) (λa=>ins.length-a.1)
  (λa=>a.1<=ins.length/\a.2.1.length=ins.length/\a.2.2.length=ins.length/\(∀k:Nat,a.2.2[k]? =some true->a.2.1[k]? =some true)/\(∀k:Nat,a.2.1[k]? =some true->eu ins k)/\∀k,k<a.1->eu ins k) (0,List.replicate ins.length false,List.replicate ins.length false)
  ⟨Xq _,YF,YF,λk h=>h,E,λk h=>absurd h (XX _)⟩ YF (by simp[aD]) ?_
 rintro⟨a,g,s⟩ ⟨h1,h2,h3,Z,Y,S⟩ nx hnx;dsimp only at h1 h2 h3 Z Y S ⊢;refine vw ?_;rcases Nat.lt_or_ge a ins.length with h|h
 .have hd:=a8 h
  repeat' (first|refine sy ?_|refine s2 (λh=>?_) λh=>?_|intro)
  refine Sy hf h h2 h3 Z Q nx (λO L=>hq _ (eh λj=>O (j a h)) L) λT hw G=>?_
  have hT:eu ins (nU ins a T):=by
   rcases G with G|G
   .have B:=hw.lt;exact⟨0,.ev _ _ (mt B) λhs=>G ⟨_,mt B,hs⟩⟩
   .exact Y _ G
  have j:=G7 hf T hw.sil hT;refine hnx (a+1,nV g ins a T,nV s ins a T) ⟨h,by rw[kv,h2],by rw[kv,h3],λk B=>?_,λk B=>?_,λk B=>?_⟩ (by show ins.length-(a+1)<ins.length-a;omega)
  .have hkl:k<s.length:=by have:=(Xm.1 B).1;rwa [kv]at this
   rcases pV T B with D|D
   .exact pW YC T (.inl (Z k D))
   .exact pW YC T (.inr D)
  .rcases pV T B with D|⟨u,hu,D⟩
   .exact Y k D
   .rw[<-D];exact j u YC
  .rcases Fn k a with D|D
   .exact S k D
   .rw[show k=a by dsimp only at B;omega];exact j 0 (Nat.zero_le _)
 .have hd:=bq h
  repeat' (first|refine sy ?_|refine s2 ?_ ?_|intro)
  exact hq _ (fM λk B=>S k YC) _
end
section
structure wO(w:aK)(t n:Nat)(regs:Int)(k:Nat)(i:az):Prop where
 lo:1<=i.op
 hi:i.op<=28
 last:i.op=28↔k+1=n
 fin:i.op=28->i.site=-1
 sin:i.op≠28->inB i.site w.sites.length=true
 sth:i.op≠28->(w.sites.getD i.site.toNat default).thread=t
 regs:∀r∈aC i,0<=r/\r<regs
 obj:jh w i=true
 jmp:AH n i=true
structure rt(w:aK)(t:Nat)(c:eG):Prop where
 r0:0<=c.regs
 r32:c.regs<=32
 ne:0<c.ins.length
 ins:∀(k:Nat) (h:k<c.ins.length),wO w t c.ins.length c.regs k c.ins[k]
 lans:∀k,k<c.ins.length->eu c.ins k
theorem wO.fit{w:aK}{t:Nat}{c:eG}(hl:c.ins.length<2^48)(h:∀(k:Nat) (h:k<c.ins.length),wO w t c.ins.length c.regs k c.ins[k]):NA c.ins where
 len:=hl
 jmp:=λi j u=>by obtain⟨k,hk,rfl⟩:=List.mem_iff_getElem.1 j;have:=(h k hk).jmp;unfold AH at this;rw[if_pos u]at this;exact aw.1 this
 last:=λk i j=>by obtain⟨hk,rfl⟩:=Xm.1 j;exact(h k hk).last
theorem DW(i:az):(aC i).length<=3:=by
 unfold aC
 repeat' split
 all_goals simp
section
variable {w:aK} {t:Nat} {c:eG} {k:Nat} {i:az} (h0:0<=c.regs) (Q:R) (n45:W.Kn)
 (hno:¬wO w t c.ins.length c.regs k i->Q (.bool false) [])
 (hgo:(∀r∈aC i,0<=r/\r<c.regs)->jh w i=true->AH c.ins.length i=true->n45 [.YJ t,.pptr [w.enc] 0 0,.pptr [c.enc] 0 0,.lst (c.ins.map az.enc),.YJ c.ins.length,.YJ (k+1:Nat)] [])
 (hl:c.ins.length<2^48) (hk:k<c.ins.length)
include h0 hno hgo hl hk
theorem Sz(x:AV):nS Q n45 [.YJ t,.pptr [w.enc] 0 0,.pptr [c.enc] 0 0,x,.pptr [i.enc] 0 0,.lst (c.ins.map az.enc),.YJ c.ins.length,.YJ k] []:=by
 have hr:=EU i;have O:=ET w c.ins.length i;obtain⟨M,B⟩:=Xg h0;have Y:IntKind.i64.wrap ((k:Int)+1)=((k+1:Nat):Int):=ax hk YC;refine vw ?_
 repeat' (first|refine sy ?_|refine s2 (λh=>?_) λh=>?_|intro)
 refine cS (aC i).length (λj=>∀r∈(aC i).take j,0<=r/\r<c.regs) (λj=>[.YJ t,.pptr [w.enc] 0 0,.pptr [c.enc] 0 0,.pptr [i.enc] 0 0,.lst (c.ins.map az.enc),.YJ c.ins.length,.YJ k,.lst ((aC i).map ah),.YJ (aC i).length,.YJ j]) (by have:=DW i;omega) YF YF (λj D hd hi E S Z=>?_) (λj D hd E S=>?_)
 all_goals refine vw ?_
 .have hx:=aq (f:=ah) D;have G:=eW (aC i)[j] M;rw[<-B]at G;cases u:inB (aC i)[j] M with
  |false=>
   rw[u]at G;have:¬wO w t c.ins.length c.regs k i:=λh=>by have:=h.regs _ (WN D);rw[B,<-aw,u]at this;cases this
   repeat' (first|refine sy ?_|refine s2 ?_ ?_|intro)
   exact hno this
  |true=>
   rw[u]at G
   repeat' (first|refine sy ?_|refine s2 ?_ ?_|intro)
   refine Z (Az D E ?_);rw[B];exact aw.1 u
 .subst D;rw[XT]at E;cases u:(jh w i&&AH c.ins.length i)with
  |false=>
   rw[u]at O;have:¬wO w t c.ins.length c.regs k i:=λh=>by rw[h.obj,h.jmp]at u;cases u
   repeat' (first|refine sy ?_|refine s2 ?_ ?_|intro)
   exact hno this
  |true=>
   rw[u]at O;rw[WZ]at u
   repeat' (first|refine sy ?_|refine s2 ?_ ?_|intro)
   exact hgo E u.1 u.2
end
theorem AI(w:aK)(t:Nat)(c:eG)(hl:c.ins.length<2^48):ao Tryz.prog 56 [.agg w.enc,.YJ t,.agg c.enc] (.bool (iz (rt w t c))):=by
  refine nT _ _ _ _ _ ?_;refine vw ?_;generalize hQ:(λ(u:AV) (K:SH)=>u=AV.bool (iz (rt w t c))/\K=[])=Q;have M:∀b,iz (rt w t c)=b->Q (.bool b) []:=λb D=>by subst hQ;exact⟨by rw[D],rfl⟩
  clear hQ;by_cases h0:0<=c.regs/\c.regs<=32/\0<c.ins.length
  · obtain⟨h0,h32,hn0⟩:=h0
    have d1:decide (c.regs<0)=false:=by simpa using h0
    have d2:decide (c.regs > 32)=false:=by simpa using h32
    have d3:decide ((c.ins.length:Int)=0)=false:=decide_eq_false YC
    repeat' (first|refine sy ?_|refine s2 (λh=>?_) λh=>?_|intro)
    refine cS c.ins.length (λk=>∀j (h:j<c.ins.length),j<k->wO w t c.ins.length c.regs j c.ins[j]) (λk=>[.YJ t,.pptr [w.enc] 0 0,.pptr [c.enc] 0 0,.lst (c.ins.map az.enc),.YJ c.ins.length,.YJ k]) YC (λj h hj=>absurd hj (XX _)) YF (λk hk hd hi G nx hn=>?_) (λk hk hd G nx=>?_)
    all_goals refine vw ?_
    · have hx:=aq (f:=az.enc) hk
      have hno:¬wO w t c.ins.length c.regs k c.ins[k]->Q (.bool false) []:=λh=>M _ (eh λh2=>h (h2.ins k hk))
      have hgo:wO w t c.ins.length c.regs k c.ins[k]->nx [.YJ t,.pptr [w.enc] 0 0,.pptr [c.enc] 0 0,.lst (c.ins.map az.enc),.YJ c.ins.length,.YJ (k+1:Nat)] []:=λh=>hn λj hj hjk=>by
        rcases Fn j k with g|g
        · exact G j hj g
        · have e:j=k:=by omega
          subst e;exact h
      generalize c.ins[k]=i at hx hno hgo;have B:=λhgo x=>Sz (i:=i) (w:=w) (t:=t) (k:=k) h0 Q nx hno hgo hl hk x
      have hs1:IntKind.i64.wrap ((c.ins.length:Int)-1)=((c.ins.length-1:Nat):Int):=by rw[WY _ YC];omega
      have hw:=eW i.site w.sites.length;obtain⟨op,ia,ib,ic,m,E⟩:=i;have he:az.enc ⟨op,ia,ib,ic,m,E⟩=[.YJ op,.YJ ia,.YJ ib,.YJ ic,.YJ m,.YJ E]:=rfl;rw[he]at hx B;clear he;cases D:inB E w.sites.length with
      |false=>
        rw[D]at hw
        repeat' (first|with_reducible refine B (λZ Y S=>?_) _|refine sy ?_|refine s2 ?_ ?_|intro)
        all_goals first
        | (refine hno fun h9 => ?_
           have g1:=h9.lo;have g2:=h9.hi;have g3:=h9.last;have g4:=h9.fin;have g5:=h9.sin;have g6:=h9.sth
           clear h9 hno hgo hn G B M
           (simp only[D,W7,decide_eq_true_eq,decide_eq_false_iff_not,ne_eq,Decidable.not_not,decide_eq_decide,imp_false]at *)
           omega)
        | (refine hgo ⟨?_, ?_, ?_, ?_, fun h9 => ?_, fun h9 => ?_, Z, Y, S⟩
           all_goals clear hno hgo hn G B M Z Y S
           all_goals (simp only[D,W7,decide_eq_true_eq,decide_eq_false_iff_not,ne_eq,Decidable.not_not,decide_eq_decide,imp_false]at *)
           all_goals omega)
        |trace_state
      |true=>
        rw[D]at hw;obtain⟨ks,rfl⟩:=Xg (cT D);have O:ks<w.sites.length:=by have:=(aw.1 D).2;omega
        have hx2:=aq (f:=bM.enc) O;unfold bM.enc at hx2
        repeat' (first|with_reducible refine B (λZ Y S=>?_) _|refine sy ?_|refine s2 ?_ ?_|intro)
        all_goals first
        | (refine hno fun h9 => ?_
           have g1:=h9.lo;have g2:=h9.hi;have g3:=h9.last;have g4:=h9.fin;have g5:=h9.sin;have g6:=h9.sth
           clear h9 hno hgo hn G B M
           (simp only[Xx,XP,mt O,XU,D,imp_true_iff,decide_eq_true_eq,decide_eq_false_iff_not,ne_eq,Decidable.not_not,decide_eq_decide,imp_false]at *)
           omega)
        | (refine hgo ⟨?_, ?_, ?_, ?_, fun h9 => D, fun h9 => ?_, Z, Y, S⟩
           all_goals clear hno hgo hn G B M Z Y S
           all_goals (simp only[Xx,XP,mt O,XU,D,imp_true_iff,decide_eq_true_eq,decide_eq_false_iff_not,ne_eq,Decidable.not_not,decide_eq_decide,imp_false]at *)
           all_goals omega)
        |trace_state
    · have ha:=G9 (wO.fit hl λj h=>G j h YC)
      repeat' (first|refine sy ?_|refine s2 ?_ ?_|intro)
      refine M _ ?_;cases D:iz (∀k,k<c.ins.length->eu c.ins k)with
      |true=>exact fM ⟨h0,h32,hn0,λj h=>G j h YC,fo.1 D⟩
      |false=>exact eh λh=>by rw[fM h.lans]at D;cases D
  · have hno:=M _ (eh λh=>h0 ⟨h.r0,h.r32,h.ne⟩)
    repeat' (first|refine sy ?_|refine s2 ?_ ?_|intro)
    all_goals first
      |exact hno
      |(exfalso;refine h0 ?_;simp only[decide_eq_true_eq,decide_eq_false_iff_not]at *;omega)
end
def pX:RF:=nv (cg Tryz.prog Tryz.f133 [] [])
abbrev AJ(a:AV)(L:SH)(Q:R):Prop:=Pc pX 20 Q 0 [] [a] L
def yL(j:AV)(L:SH)(Q:R)(h:AJ j L Q):ac Tryz.prog 133 [j] L Q:=
 fv pX Tryz.func133 h
def sf:RF:=nv (cg Tryz.prog Tryz.f177 [] [])
abbrev Cy(a:AV)(L:SH)(Q:R):Prop:=Pc sf 20 Q 0 [] [a] L
def AK(j:AV)(L:SH)(Q:R)(h:Cy j L Q):ac Tryz.prog 177 [j] L Q:=
 fv sf Tryz.func177 h
def sg:RF:=nv (cg Tryz.prog Tryz.f135 [] [])
abbrev Cz(a:AV)(L:SH)(Q:R):Prop:=Pc sg 20 Q 0 [] [a] L
def AL(j:AV)(L:SH)(Q:R)(h:Cz j L Q):ac Tryz.prog 135 [j] L Q:=
 fv sg Tryz.func135 h
def mI:RF:=nv (cg Tryz.prog Tryz.f176 [] [])
abbrev wP(L:SH)(Q:R):Prop:=Pc mI 20 Q 0 [] [] L
def uO(L:SH)(Q:R)(h:wP L Q):ac Tryz.prog 176 [] L Q:=
 fv mI Tryz.func176 h
def lx:RF:=nv (cg Tryz.prog Tryz.f134 [(9,⟨[0,3,4],[],true,[]⟩)] [])
abbrev uP(a:AV)(L:SH)(Q:R):Prop:=Pc lx 20 Q 0 [] [a] L
def tw(j:AV)(L:SH)(Q:R)(h:uP j L Q):ac Tryz.prog 134 [j] L Q:=
 fv lx Tryz.func134 h
def pY:RF:=nv (cg Tryz.prog Tryz.f92 [(12,⟨[0,3],[],true,[]⟩)] [])
abbrev AM(a:AV)(L:SH)(Q:R):Prop:=Pc pY 20 Q 0 [] [a] L
def oI(j:AV)(L:SH)(Q:R)(h:AM j L Q):ac Tryz.prog 92 [j] L Q:=
 fv pY Tryz.func92 h
def mJ:RF:=nv (cg Tryz.prog Tryz.f195 [] [])
abbrev wQ(a:AV)(L:SH)(Q:R):Prop:=Pc mJ 20 Q 0 [] [a] L
def uQ(j:AV)(L:SH)(Q:R)(h:wQ j L Q):ac Tryz.prog 195 [j] L Q:=
 fv mJ Tryz.func195 h
def kw:RF:=nv (cg Tryz.prog Tryz.f178 [(15,⟨[1,4],[],true,[]⟩)] [(0,[1])])
abbrev tz(a:AV)(L:SH)(Q:R):Prop:=Pc kw 20 Q 0 [] [a] L
def ru(j:AV)(L:SH)(Q:R)(h:tz j L Q):ac Tryz.prog 178 [j] L Q:=
 fv kw Tryz.func178 h
def sh:RF:=nv (cg Tryz.prog Tryz.f179 [] [(0,[1])])
abbrev CA(a:AV)(L:SH)(Q:R):Prop:=Pc sh 20 Q 0 [] [a] L
def AN(j:AV)(L:SH)(Q:R)(h:CA j L Q):ac Tryz.prog 179 [j] L Q:=
 fv sh Tryz.func179 h
def cQ:RF:=nv (cg Tryz.prog Tryz.f136 [(3902,⟨[1],[],true,[]⟩),(3002,⟨[1],[],true,[]⟩),(2402,⟨[1],[],true,[]⟩),(1802,⟨[1],[],true,[]⟩),(902,⟨[1],[],true,[]⟩)] [(0,[1])])
abbrev rv(Q:R)(a:SH)(b:AV):Prop:=Pc cQ 15 Q 3902 [] [b] a
abbrev ry(Q:R)(a:SH)(b:AV):Prop:=Pc cQ 16 Q 3002 [] [b] a
abbrev rA(Q:R)(a:SH)(b:AV):Prop:=Pc cQ 17 Q 2402 [] [b] a
abbrev rB(Q:R)(a:SH)(b:AV):Prop:=Pc cQ 18 Q 1802 [] [b] a
abbrev rC(Q:R)(a:SH)(b:AV):Prop:=Pc cQ 19 Q 902 [] [b] a
abbrev tB(a:AV)(L:SH)(Q:R):Prop:=Pc cQ 20 Q 0 [] [a] L
def rD(j:AV)(L:SH)(Q:R)(h:tB j L Q):ac Tryz.prog 136 [j] L Q:=
 fv cQ Tryz.func136 h
def jM:RF:=nv (cg Tryz.prog Tryz.f93 [(6,⟨[0,3],[],true,[]⟩)] [])
abbrev rE(a:AV)(L:SH)(Q:R):Prop:=Pc jM 20 Q 0 [] [a] L
def pZ(j:AV)(L:SH)(Q:R)(h:rE j L Q):ac Tryz.prog 93 [j] L Q:=
 fv jM Tryz.func93 h
def fq:RF:=nv (cg Tryz.prog Tryz.f91 [(1502,⟨[1],[],true,[]⟩),(902,⟨[1],[],true,[]⟩)] [(0,[1])])
abbrev rF(Q:R)(a:SH)(b:AV):Prop:=Pc fq 18 Q 1502 [] [b] a
abbrev rG(Q:R)(a:SH)(b:AV):Prop:=Pc fq 19 Q 902 [] [b] a
abbrev tC(a:AV)(L:SH)(Q:R):Prop:=Pc fq 20 Q 0 [] [a] L
def rH(j:AV)(L:SH)(Q:R)(h:tC j L Q):ac Tryz.prog 91 [j] L Q:=
 fv fq Tryz.func91 h
def p7:RF:=nv (cg Tryz.prog Tryz.f46 [(33,⟨[1,4,5,6],[21],true,[]⟩),(21,⟨[1,4],[],true,[]⟩),(6,⟨[1,3],[],true,[]⟩)] [(0,[1]),(9,[5])])
abbrev AO(a:AV)(L:SH)(Q:R):Prop:=Pc p7 20 Q 0 [] [a] L
def yM(j:AV)(L:SH)(Q:R)(h:AO j L Q):ac Tryz.prog 46 [j] L Q:=
 fv p7 Tryz.func46 h
def AP:RF:=nv (cg Tryz.prog Tryz.f96 [(6,⟨[0,1,5],[],true,[]⟩)] [])
abbrev IU(a b:AV)(L:SH)(Q:R):Prop:=Pc AP 20 Q 0 [] [a,b] L
def p8(u j:AV)(L:SH)(Q:R)(h:IU u j L Q):ac Tryz.prog 96 [u,j] L Q:=
 fv AP Tryz.func96 h
def p9:RF:=nv (cg Tryz.prog Tryz.f94 [(6,⟨[0,1,5],[],true,[]⟩)] [])
abbrev AQ(a b:AV)(L:SH)(Q:R):Prop:=Pc p9 20 Q 0 [] [a,b] L
def yN(u j:AV)(L:SH)(Q:R)(h:AQ u j L Q):ac Tryz.prog 94 [u,j] L Q:=
 fv p9 Tryz.func94 h
def mK:RF:=nv (cg Tryz.prog Tryz.f95 [(6,⟨[0,1,5],[],true,[]⟩)] [])
abbrev wR(a b:AV)(L:SH)(Q:R):Prop:=Pc mK 20 Q 0 [] [a,b] L
def uR(u j:AV)(L:SH)(Q:R)(h:wR u j L Q):ac Tryz.prog 95 [u,j] L Q:=
 fv mK Tryz.func95 h
def qa:RF:=nv (cg Tryz.prog Tryz.f180 [(60055,⟨[3,7,56],[],true,[]⟩)] [(0,[3])])
abbrev AR(a b c:AV)(L:SH)(Q:R):Prop:=Pc qa 20 Q 0 [] [a,b,c] L
def yO(B u j:AV)(L:SH)(Q:R)(h:AR B u j L Q):ac Tryz.prog 180 [B,u,j] L Q:=
 fv qa Tryz.func180 h
def uS:RF:=nv (cg Tryz.prog Tryz.f139 [] [(0,[5])])
abbrev EY(a b c d e:AV)(L:SH)(Q:R):Prop:=Pc uS 20 Q 0 [] [a,b,c,d,e] L
def CB(E D B u j:AV)(L:SH)(Q:R)(h:EY E D B u j L Q):ac Tryz.prog 139 [E,D,B,u,j] L Q:=
 fv uS Tryz.func139 h
def sj:RF:=nv (cg Tryz.prog Tryz.f181 [(9,⟨[1,4,5,6],[],true,[]⟩)] [(0,[1])])
abbrev CC(a:AV)(L:SH)(Q:R):Prop:=Pc sj 20 Q 0 [] [a] L
def AS(j:AV)(L:SH)(Q:R)(h:CC j L Q):ac Tryz.prog 181 [j] L Q:=
 fv sj Tryz.func181 h
def lX:RF:=nv (cg Tryz.prog Tryz.f182 [(24,⟨[1,3,5,7,8],[],true,[]⟩),(24019,⟨[1,3,5,7],[],true,[]⟩)] [(0,[3,5])])
abbrev AT(Q:R):Vs->SH->Prop:=Jp lX 19 Q 24019 []
abbrev CD(a b c:AV)(L:SH)(Q:R):Prop:=Pc lX 20 Q 0 [] [a,b,c] L
def AU(B u j:AV)(L:SH)(Q:R)(h:CD B u j L Q):ac Tryz.prog 182 [B,u,j] L Q:=
 fv lX Tryz.func182 h
def uT:RF:=nv (cg Tryz.prog Tryz.f140 [] [(0,[3,5])])
abbrev EZ(a b c:AV)(L:SH)(Q:R):Prop:=Pc uT 20 Q 0 [] [a,b,c] L
def CE(B u j:AV)(L:SH)(Q:R)(h:EZ B u j L Q):ac Tryz.prog 140 [B,u,j] L Q:=
 fv uT Tryz.func140 h
def oJ:RF:=nv (cg Tryz.prog Tryz.f141 [] [])
abbrev yP(a:AV)(L:SH)(Q:R):Prop:=Pc oJ 20 Q 0 [] [a] L
def wS(j:AV)(L:SH)(Q:R)(h:yP j L Q):ac Tryz.prog 141 [j] L Q:=
 fv oJ Tryz.func141 h
def AW:RF:=nv (cg Tryz.prog Tryz.f138 [] [])
abbrev IV(a b:AV)(L:SH)(Q:R):Prop:=Pc AW 20 Q 0 [] [a,b] L
def Ha(u j:AV)(L:SH)(Q:R)(h:IV u j L Q):ac Tryz.prog 138 [u,j] L Q:=
 fv AW Tryz.func138 h
def sn:RF:=nv (cg Tryz.prog Tryz.f49 [(9,⟨[0,3,4],[],true,[]⟩)] [])
abbrev CF(a:AV)(L:SH)(Q:R):Prop:=Pc sn 20 Q 0 [] [a] L
def AX(j:AV)(L:SH)(Q:R)(h:CF j L Q):ac Tryz.prog 49 [j] L Q:=
 fv sn Tryz.func49 h
def iA(c:Int):Bool:=(decide (97<=c)&&decide (c<=122))||(decide (65<=c)&&decide (c<=90))
def wT(c:Int):Bool:=decide (48<=c)&&decide (c<=57)
def iX(c:Int):Bool:=iA c||wT c||decide (c=95)
def DX(c:Int):ao Tryz.prog 133 [.int .u8 c] (.bool (iA c)):=by
 refine yL _ _ _ ?_;refine vw ?_
 repeat' (first|refine sy ?_|refine s2 ?_ ?_|intro)
 all_goals (refine⟨?_,rfl⟩;simp_all[iA]<;>omega)
def NF(c:Int):ao Tryz.prog 177 [.int .u8 c] (.bool (wT c)):=by
 refine AK _ _ _ ?_;refine vw ?_
 repeat' (first|refine sy ?_|refine s2 ?_ ?_|intro)
 all_goals (refine⟨?_,rfl⟩;simp_all[wT]<;>omega)
def NG(c:Int):ao Tryz.prog 135 [.int .u8 c] (.bool (iX c)):=by
 refine AL _ _ _ ?_;refine vw ?_
 repeat' (first|refine sy ?_|(refine pf 133 ?_;refine pm (DX _) ?_)|(refine pf 177 ?_;refine pm (NF _) ?_)|refine s2 ?_ ?_|intro)
 all_goals (refine⟨?_,rfl⟩;simp_all[iX]<;>omega)
def oK:List aO:=[[118,97,114],[118,111,108,97,116,105,108,101],[109,117,116,101,120],[114,119,108,111,99,107],[99,111,110,100],[102,117,116,117,114,101],[116,104,114,101,97,100],[105,102],[101,108,115,101],[119,104,105,108,101],[108,111,99,107],[114,101,97,100],[119,114,105,116,101],[116,114,97,110,115,97,99,116,105,111,110],[97,116,111,109,105,99],[119,97,105,116],[110,111,116,105,102,121],[110,111,116,105,102,121,97,108,108],[115,112,97,119,110],[106,111,105,110],[115,101,116],[103,101,116]]
def P2:ao Tryz.prog 176 [] (.lst (oK.map av)):=by
 refine ac.fz (uO _ _ ?_);refine vw ?_
 repeat' (first|refine sy ?_|refine s2 ?_ ?_|intro)
 exact⟨_,[],aE.all (Fz.sls (l:=oK) (f:=av) rp rfl YG rfl),rfl,rfl⟩
def E0(s:aO):Bool:=oK.any λx=>decide (x=s)
def SA(s:aO):ao Tryz.prog 134 [.str s] (.bool (E0 s)):=by
 refine tw _ _ _ ?_;refine vw ?_
 repeat' (first|refine sy ?_|(refine pf 176 ?_;refine pm (P2) ?_)|refine s2 (λh=>?_) λh=>?_|intro)
 refine cF oK (λx=>decide (x=s)) (λi=>[.str s,.lst (oK.map av),.YJ i]) YG rfl (λi u E M j B D=>?_) (λi u E j B=>?_)
 all_goals refine vw ?_
 .have G:=aq (f:=av) u
  repeat' (first|refine sy ?_|refine s2 (λh=>?_) λh=>?_|intro)
  .exact⟨by rw[E0,Kg u h],rfl⟩
  .exact D h
 .repeat' (first|refine sy ?_|refine s2 ?_ ?_|intro)
  exact⟨by rw[E0,Nb j],rfl⟩
def cY(s:aO):Bool:=decide (1<=(s.length:Int))&&decide ((s.length:Int)<=12)&&iA (s.getD 0 0).toNat&&!E0 s&&s.all λc=>iX c.toNat
def ii(s:aO)(O:s.length<2^62):ao Tryz.prog 92 [.str s] (.bool (cY s)):=by
 refine oI _ _ _ ?_;refine vw ?_;generalize E:(λ(u:AV) (K:SH)=>u=AV.bool (cY s)/\K=[])=Q;have B:Q (.bool (cY s)) []:=by subst E;exact⟨rfl,rfl⟩
 clear E;by_cases Z:0<s.length
 .have d1:decide ((s.length:Int)<1)=false:=by simpa using(by omega:(1:Int)<=s.length)
  repeat' (first|refine sy ?_|refine Ro (i:=0) ?_ Z|(refine pf 133 ?_;refine pm (DX _) ?_)|(refine pf 134 ?_;refine pm (SA _) ?_)|refine s2 (λh=>?_) λh=>?_|intro)
  all_goals first
   |(refine Eq.mp (congrArg (λb=>Q (AV.bool b) []) ?_) B;simp_all[cY]<;>omega;done)
   |skip
  refine cF s (λc=>!iX c.toNat) (λi=>[.str s,.YJ i]) O rfl (λi D Y hi j G S=>?_) (λi D Y j G=>?_)
  all_goals refine vw ?_
  .repeat' (first|refine sy ?_|refine Ro ?_|(refine pf 135 ?_;refine pm (NG _) ?_)|refine s2 (λh=>?_) λh=>?_|intro)
   .refine Eq.mp (congrArg (λb=>Q (AV.bool b) []) ?_) B;have:(s.all λc=>iX c.toNat)=false:=pL D (by simpa[List.getD,D]using h);simp[cY,this]
   .exact S (by simpa[List.getD,D]using h)
  .repeat' (first|refine sy ?_|refine s2 ?_ ?_|intro)
   refine Eq.mp (congrArg (λb=>Q (AV.bool b) []) ?_) B;have:(s.all λc=>iX c.toNat)=true:=W2.2 λx M=>by simpa using j x M
   simp_all[cY]<;>omega
 .have d1:decide ((s.length:Int)<1)=true:=by simpa using(by omega:(s.length:Int)<1)
  repeat' (first|refine sy ?_|refine s2 ?_ ?_|intro)
  refine Eq.mp (congrArg (λb=>Q (AV.bool b) []) ?_) B;simp_all[cY]
structure tD(c:aH)(l:List aH):Prop where
 lo:1<=c.size
 hi:c.size<=4
 fits:c.size<=l.length
 eq:∀k:Nat,(k:Int)<c.size->l[k]? =some ⟨c.name,k,c.size,false,c.init⟩
inductive dT:List aH->List aO->Prop where
 |nil:dT [] []
 |one (c:aH) (l:List aH) (ns:List aO):c.size=0->c.index=0->dT l ns->dT (c::l) (c.name::ns)
 |arr (c:aH) (l:List aH) (ns:List aO):c.size≠0->tD c (c::l)->dT (l.drop (c.size.toNat-1)) ns->dT (c::l) (c.name::ns)
def dT.nil_iff{j:List aO}:dT [] j↔j=[]:=⟨λh=>by cases h;rfl,λh=>by subst h;exact .nil⟩
def dT.one_iff{c:aH}{l:List aH}{D:List aO}(E:c.size=0):dT (c::l) D↔c.index=0/\∃j,D=c.name::j/\dT l j:=by
 constructor
 .intro h;cases h with
  |one _ _ j _ B u=>exact⟨B,j,rfl,u⟩
  |arr _ _ j G=>exact absurd E G
 .rintro⟨B,j,rfl,u⟩;exact .one _ _ _ E B u
def dT.arr_iff{c:aH}{l:List aH}{D:List aO}(E:c.size≠0):dT (c::l) D↔tD c (c::l)/\∃j,D=c.name::j/\dT (l.drop (c.size.toNat-1)) j:=by
 constructor
 .intro h;cases h with
  |one _ _ j G=>exact absurd G E
  |arr _ _ j _ B u=>exact⟨B,j,rfl,u⟩
 .rintro⟨B,j,rfl,u⟩;exact .arr _ _ _ E B u
def gC(l:List aH)(i:Nat)(acc:List aO):Prop:=i<=l.length/\acc.length<=i/\∀ns,dT l ns↔∃n2,ns=acc++n2/\dT (l.drop i) n2
def gC.zero(l:List aH):gC l 0 []:=⟨Xq _,Fd _,λj=>by simp⟩
def gC.step{l:List aH}{i:Nat}{j:List aO}(h:gC l i j)(B:i<l.length)(D:l[i].size=0)(M:l[i].index=0):gC l (i+1) (j++[l[i].name]):=by
 refine⟨B,by have:=h.2.1;simp;omega,λE=>?_⟩;rw[h.2.2 E,X0 B];constructor
 .rintro⟨O,rfl,G⟩;obtain⟨_,n3,rfl,u⟩:=(dT.one_iff D).1 G;exact⟨n3,YF,u⟩
 .rintro⟨n3,rfl,u⟩;exact⟨l[i].name::n3,YF,(dT.one_iff D).2 ⟨M,n3,rfl,u⟩⟩
def gC.jump{l:List aH}{i:Nat}{j:List aO}(h:gC l i j)(G:i<l.length)(D:l[i].size≠0)(u:tD l[i] (l.drop i)):gC l (i+l[i].size.toNat) (j++[l[i].name]):=by
 have Y:=u.lo;have M:=u.fits;rw[Yh]at M;refine⟨YC,by have:=h.2.1;simp;omega,λE=>?_⟩;rw[h.2.2 E];rw[X0 G]at u ⊢;have e:(l.drop (i+1)).drop (l[i].size.toNat-1)=l.drop (i+l[i].size.toNat):=by rw[List.drop_drop];congr 1;omega
 constructor
 .rintro⟨S,rfl,O⟩;obtain⟨_,n3,rfl,B⟩:=(dT.arr_iff D).1 O;exact⟨n3,YF,e▸B⟩
 .rintro⟨n3,rfl,B⟩;exact⟨l[i].name::n3,YF,(dT.arr_iff D).2 ⟨u,n3,rfl,e▸B⟩⟩
def gC.done{l:List aH}{i:Nat}{j:List aO}(h:gC l i j)(u:l.length<=i):dT l j:=by rw[h.2.2 j,List.drop_eq_nil_of_le u];exact⟨[],YF,.nil⟩
def gC.no1{l:List aH}{i:Nat}{u:List aO}(h:gC l i u)(D:i<l.length)(M:l[i].size=0)(G:l[i].index≠0):∀j,¬dT l j:=λj B=>by rw[h.2.2 j,X0 D]at B;obtain⟨O,_,E⟩:=B;exact G ((dT.one_iff M).1 E).1
def gC.no2{l:List aH}{i:Nat}{B:List aO}(h:gC l i B)(E:i<l.length)(M:l[i].size≠0)(D:¬tD l[i] (l.drop i)):∀j,¬dT l j:=λj u=>by rw[h.2.2 j]at u;rw[X0 E]at u D;obtain⟨O,_,G⟩:=u;exact D ((dT.arr_iff M).1 G).1
def dT.uniq{l:List aH}{a b:List aO}(h:dT l a):dT l b->a=b:=by
 induction h generalizing b with
 |nil=>intro j;rw[dT.nil_iff.1 j]
 |one c l E D M _ u=>intro j;obtain⟨_,G,rfl,B⟩:=(dT.one_iff D).1 j;rw[u B]
 |arr c l E D M _ u=>intro j;obtain⟨_,G,rfl,B⟩:=(dT.arr_iff D).1 j;rw[u B]
def dT.len{l:List aH}{a:List aO}(h:dT l a):a.length<=l.length:=by
 induction h with
 |nil=>exact Fd _
 |one c l u D B _ j=>simpa using j
 |arr c l u D B _ j=>rw[Yh]at j;simp only[WO];omega
def eD(w:aK)(ns:List aO):List aO:=ns++w.locks.map bv.name++w.conds.map bO.name++w.futures++w.threads
def mL(n:Nat):Int->Int->List bM->Prop
 |_,_,[]=>True
 |t,x,s::l=>t<=s.thread/\s.thread<n/\s.stmt=(if t<s.thread then 0 else x)/\mL n s.thread (s.stmt+1) l
structure uU(w:aK):Prop where
 c12:w.cells.length<=12
 l4:w.locks.length<=4
 d2:w.conds.length<=2
 f2:w.futures.length<=2
 s60:w.sites.length<=60
 t1:1<=w.threads.length
 t4:w.threads.length<=4
 names:∃ns,dT w.cells ns/\(∀s∈eD w ns,cY s=true)/\(eD w ns).Nodup
 mtx:∀c∈w.conds,jB w c.mutex false=true
 sites:mL w.threads.length 0 0 w.sites
def vp:RF:=nv (cg Tryz.prog Tryz.f40 [(42,⟨[2,3,7],[],true,[]⟩),(27,⟨[2,3,6],[],true,[]⟩),(12,⟨[2,3,5],[],true,[]⟩)] [(0,[2,3])])
abbrev Fm(a b:AV)(L:SH)(Q:R):Prop:=Pc vp 20 Q 0 [] [a,b] L
def C2(u j:AV)(L:SH)(Q:R)(h:Fm u j L Q):ac Tryz.prog 40 [u,j] L Q:=
 fv vp Tryz.func40 h
def jx(l:List aO)(s:aO):Int:=iy (λx=>decide (x=s)) l 0
def oV(l:List aO)(s:aO)(E:l.length<2^62):ao Tryz.prog 96 [.lst (l.map av),.str s] (.YJ (jx l s)):=by
 refine p8 _ _ _ _ ?_;refine vw ?_;refine cF l (λx=>decide (x=s)) (λi=>[.lst (l.map av),.str s,.YJ i]) E rfl (λi u G O j B D=>?_) (λi u G j B=>?_)
 all_goals refine vw ?_
 .have M:=aq (f:=av) u
  repeat' (first|refine sy ?_|refine s2 (λh=>?_) λh=>?_|intro)
  .exact⟨by rw[jx,jg u j h],rfl⟩
  .exact D h
 .repeat' (first|refine sy ?_|refine s2 ?_ ?_|intro)
  exact⟨by rw[jx,eU j],rfl⟩
