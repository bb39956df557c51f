/- part -/
import Derived.Test.YtfckbjehkbhkgaaGreatQwT
import Derived.Test.YtfckbjehkbhkgaaGreatQwHb
import Derived.IntWalk
import Derived.Test.YtfckbjehkbhkgaaGreatProg
import Derived.KernelRfl
import Derived.LoopN
import Derived.MapKept
import Derived.Carry
import Derived.Lib.OthersKept
import Derived.Laws.RangeString
import Derived.Deep.AppendSrc
import Derived.Lib.Strings
import Derived.Laws.StructEq
import Derived.Laws.Cells
import Derived.Laws.CopyRow
import Derived.Laws.Entries
import Derived.Handy
import Derived.RowKit
import Derived.Calls
import Derived.Orders
import Derived.Below
import Derived.Laws.AppendOwn
import Derived.Laws.OwnMore
import Derived.Laws.MakeOwn
import Derived.OwnWalk
import Derived.Test.YtfckbjehkbhkgaaGreatRows
import Derived.WalkKit
import Derived.ProofKit
import Derived.OpenShut
import Derived.Outline
import Derived.Lib.Hide
import Derived.Deep.Slices
import Derived.Deep.Fields
import Derived.ChangeSame
import Derived.Deep.Draws
import Derived.WalkSpells
import Derived.Deep.DeepMust
import Derived.Sort.OwnSortedInts
import Derived.Shelf.Small.Wraps
import Derived.Shelf.Sort.Plain
import Derived.Shelf.Slices.Turned
import Derived.Ground.Names2Prog
import Derived.Shelf.Slices.Clone
import Derived.Shelf.Slices.CompactI
import Derived.Shelf.Slices.In.SortNone
import Derived.Ground.SlgnProg
import Derived.Shelf.SlicesE.Clone
set_option linter.all false
set_option maxRecDepth 100000
set_option maxHeartbeats 0
namespace Go.Proofs.YtfckbjehkbhkgaaGreat.Am
def xc{w:aG}{c d:aP}{t wake:Int}(h:c8 w c t wake=some d):d.order.length=c.order.length+1:=by
 unfold c8 at h;split at h
 .cases h;simp[uG]
 .cases h
def xd{w:aG}{c:aP}(H:eT w)(j:jK w c)(D:c.order.length<=1000):Sm c:=by have B:=cH.1 j.fit;have u:=H.world;have E:=H.len;exact⟨by rw[B.locks];have:=u.l4;omega,by rw[B.done];have:=u.f2;omega,by rw[B.threads];have:=u.t4;omega,λl h=>by have:=j.rd l h;omega,by rw[j.cells];have:=u.c12;omega,by rw[j.futures];have:=u.f2;omega,acN,by rw[j.fixed];omega,by rw[j.woke];omega⟩
def GG:Sm aP.zero:=⟨acR,acR,acR,nofun,acR,acR,acR,acR,acR⟩
section
open Go.RowKit
def Wj{g:FuncId}{args:List AV}{K L B:SH}{i:Nat}{R1:R}{E:AV->SH->List Nat->Prop}(h:ac Tryz.prog g args K R1)(hp:L.Perm (K++B))(G:∀v j,R1 v j->(j++B).names.Nodup->E v (j++B) L.names):W.dcallM Tryz.prog [] i g args L E:=
 qj (R1:=λv M=>∃j,R1 v j/\M=j++B/\M.names.Nodup) ((h.frame (R2:=λv M=>∃j,R1 v j/\M=j++B) hp λv j u=>⟨j,u,rfl⟩).monoN λv M D ⟨j,u,e⟩=>⟨j,u,e,D⟩) λv M ⟨j,u,e,D⟩=>by subst e;exact G v j u D
def Qh(c:aP):∀(i:Nat) (a:AV),([.agg c.enc,.agg c.enc]:List AV)[i]? =some a->bv a:=λi a h=>by
 match i with
 |0=>cases h;exact c.pure
 |1=>cases h;exact c.pure
 |i+2=>simp at h
def To(p u sc:List UInt8)(hp:p.length<2^63)(z y:Nat)(hz:z<256)(hy:y<256)(l:List aD)(ls:List Int)(hls:∀x∈ls,x<9223372036854775808):aq Tryz.prog 3 [.agg [.lst (p.map aY),.lst (u.map aY),.lst (sc.map aY),.int .u8 z,.int .u8 y],.lst (l.map aD.enc),.lst (ls.map aa)] (.bool true):=by
 refine L6 λQ hq=>sC _ _ _ _ _ ?_
 refine vw ?_;by_cases hl:60<l.length
 .have hd:decide ((60:Int)<(l.length:Int))=true:=decide_eq_true acN
  repeat' (first|refine sy ?_|refine s2 ?_ ?_|intro)
  exact hq _
 have hd:decide ((60:Int)<(l.length:Int))=false:=decide_eq_false acN;by_cases hl2:20<ls.length
 .have hd2:decide ((20:Int)<(ls.length:Int))=true:=decide_eq_true acN
  repeat' (first|refine sy ?_|refine s2 ?_ ?_|intro)
  exact hq _
 have hd2:decide ((20:Int)<(ls.length:Int))=false:=decide_eq_false acN;obtain⟨w,hv,H⟩:=l9 p u sc hp z y hz hy;have h19:=Dx H;have hms:=GC H;have haw:=gt;have hs0:=jc _ (xd H (kR H) (by show 0<=1000;omega));have hs0:aq Tryz.prog 14 [.agg (gr (bN w) .nils),.agg (bN w).enc] (.bool true):=ac.pre (ax.vals (.cons (Fz.aggs (m:=(bN w).enc) (.cons (.refl _) (.cons (.refl _) (.cons (.refl _) (.cons (.refl _) (.cons (.refl _) (.cons (.refl _) (.cons .nils (.cons (.refl _) (.cons (.refl _) .nil)))))))))) (.cons (.refl _) .nil))) hs0;have Z:=kf H;have hWP:=H.world;have hlw:=H.len;have lp:∀bc br:Nat,W.loop (sB Q) [.lst (l.map aD.enc),.lst (ls.map aa),.pptr [w.enc] 0 0,.ptr bc 0 0,.ptr br 0 0,.acU (0:Nat)] [(br,⟨9,[(bN w).enc]⟩),(bc,⟨9,[gr (bN w) .nils]⟩)]:=by
  intro bc br;refine aL l.length (λk (p:aP×Option Nat)=>([.lst (l.map aD.enc),.lst (ls.map aa),.pptr [w.enc] 0 0,.ptr bc 0 0,.ptr br 0 0,.acU k],(br,⟨9,[p.1.enc]⟩)::(bc,⟨9,[gr p.1 (my p.2 p.1.order.length)]⟩)::ab p.2 1 (p.1.order.map aa))) (λk p=>jK w p.1/\(p.2=none->p.1.order=[])/\p.1.order.length<=k/\∀b,p.2=some b->br≠b/\bc≠b) (bN w,none) ⟨kR H,λ_=>rfl,Nat.le_refl _,nofun⟩ (.refl _ _) ?_;rintro k ⟨c,o⟩ hk ⟨hC,ho,hok,hne⟩;dsimp only at hC ho hok hne ⊢;refine vw ?_;rcases Nat.lt_or_ge k l.length with g1|g1
  .have hd:=aS g1;have hx:=aj (f:=aD.enc) g1;generalize l[k]=ch at *;obtain⟨E,cw⟩:=ch;rw[show aD.enc ⟨E,cw⟩=[.acU E,.acU cw]from rfl]at hx;obtain⟨s1,s2,s3,s4,s5,s6,s7,s8,s9⟩:=N9 hWP hlw hC;have hov:=KM o c.order.length;have hnx0:=wP w c E hlw acN Z.thr;have hen0:=RD w c E Z acN (λl h=>by have:=s9 l h;omega);have hfx:=CS w c (my o c.order.length) hov E ls hlw acN hls (qR Z.cnt E) Z.ct;have hn19:=ku w c E hlw acN;have he19:=Ib w c E Z acN (λl h=>by have:=s9 l h;omega);have hf19:=oN w c E ls hlw acN hls (qR Z.cnt E);have O:=Dk w c E cw Z hWP hC o ho;have G:=yF w c E cw Z hWP hC;have hsz:=jc _ GG;have S:=λn=>rV (w:=w) (c:=c) (n:=n) (t:=E) (wake:=cw) hC
   have hsS:∀d,c8 w c E cw=some d->Sm d:=λd hd=>xd H (S d hd) (by rw[xc hd];omega)
   have hlen:∀d,c8 w c E cw=some d->d.order.length=c.order.length+1:=λd hd=>xc hd
   have fin:∀(d:aP) (q:Option Nat) (L:SH),jK w d->(q=none->d.order=[])->d.order.length<=k+1->(∀b,q=some b->br≠b/\bc≠b)->cO L ((br,(⟨9,[d.enc]⟩:Blk))::(bc,⟨9,[gr d (my q d.order.length)]⟩)::ab q 1 (d.order.map aa))->∃(j:Nat) (p:aP×Option Nat),k<j/\j<=l.length/\(jK w p.1/\(p.2=none->p.1.order=[])/\p.1.order.length<=j/\∀b,p.2=some b->br≠b/\bc≠b)/\ax [.lst (l.map aD.enc),.lst (ls.map aa),.pptr [w.enc] 0 0,.ptr bc 0 0,.ptr br 0 0,.acU (IntKind.i64.wrap ((k:Int)+1))] L [.lst (l.map aD.enc),.lst (ls.map aa),.pptr [w.enc] 0 0,.ptr bc 0 0,.ptr br 0 0,.acU j] ((br,⟨9,[p.1.enc]⟩)::(bc,⟨9,[gr p.1 (my p.2 p.1.order.length)]⟩)::ab p.2 1 (p.1.order.map aa)):=λd q L h1 h2 h3 h4 hL=>
    ⟨k+1,(d,q),acN,acN,⟨h1,h2,h3,h4⟩,by rw[av g1 acN];exact ax.pickE hL rfl rfl⟩
   generalize dK w c E=n at *;generalize u9 w c E=en at *;generalize eJ w c E ls=fx at *;have d1:decide (n≠n)=false:=decide_eq_false acQ;have d2:∀b:Bool,decide (b≠b)=false:=λb=>decide_eq_false acQ
   have d3:=d2 en;have d4:=d2 fx;have d5:=d2 true;have d6:=d2 false;have B:=Di (.int _ _) (rX w c E) hnx0 (w7 w c E o ho);have D:=Di (.bool _) (rX w c E) hen0 (w7 w c E o ho);unfold MD at O;clear hq hv h19 hms hs0 haw hnx0 hen0;cases hs:c8 w c E cw with
   |none=>
    rw[hs]at O G;unfold nH at G;dsimp only at O G;have fin:=λL=>fin c o L hC ho acN hne
    clear hsS hlen S;rw[bj]at *;simp only[cG,dG]at *;cases o with
    |none=>
     have M:=trivial;have N:=trivial;have nrb:=trivial;have ncb:=trivial;dsimp only[ab,my]at *
     repeat' (first|refine sy ?_|((with_reducible refine aN 15 ?_);(first|refine jC B ?_|(refine cQ B rp ?_;rintro _ _ ⟨rfl,rfl⟩)))|((with_reducible refine cy 15 ?_);first|refine b_dcall B ?_|(refine ee B rp (by(simp only[rm,rc,rz,W.free,co,↓reduceIte,Nat.reduceEqDiff,ai,dV,List.forall_mem_nil,List.forall_mem_cons,List.not_mem_nil,not_false_eq_true,implies_true,and_true,true_and,and_self,Bool.false_eq_true,reduceCtorEq,forall_const,false_implies,List.mem_singleton,forall_eq,List.append_nil,List.nil_append,List.mem_cons,or_false,false_or,forall_eq_or_imp,not_or])<;>(repeat' constructor)<;>first|assumption|(exact Ne.symm acO)|(intro Y;subst Y;simp[SH.names]at *;done)) ?_;rintro _ _ ⟨rfl,rfl⟩))|((with_reducible refine aN 17 ?_);(first|refine jC D ?_|(refine cQ D rp ?_;rintro _ _ ⟨rfl,rfl⟩)))|((with_reducible refine cy 17 ?_);first|refine b_dcall D ?_|(refine ee D rp (by(simp only[rm,rc,rz,W.free,co,↓reduceIte,Nat.reduceEqDiff,ai,dV,List.forall_mem_nil,List.forall_mem_cons,List.not_mem_nil,not_false_eq_true,implies_true,and_true,true_and,and_self,Bool.false_eq_true,reduceCtorEq,forall_const,false_implies,List.mem_singleton,forall_eq,List.append_nil,List.nil_append,List.mem_cons,or_false,false_or,forall_eq_or_imp,not_or])<;>(repeat' constructor)<;>first|assumption|(exact Ne.symm acO)|(intro Y;subst Y;simp[SH.names]at *;done)) ?_;rintro _ _ ⟨rfl,rfl⟩))|refine BL (oD (by simp[Cm.ev,Cm.nth,SH.names,rm,rc,rz,W.free,ai,dV,M,N,nrb,ncb]) ?_)|((with_reducible refine cy 21 ?_);(refine HO O nofun ?_;(rintro _ _ ⟨rfl,rfl⟩;dsimp only[List.cons_append,List.nil_append,List.append_nil])))|refine s2 ?_ ?_|intro)
     all_goals exact fin _ rp
    |some b=>
     obtain⟨M,N⟩:=hne b rfl;have nrb:=M.symm;have ncb:=N.symm;dsimp only[ab,my]at *
     repeat' (first|refine sy ?_|((with_reducible refine aN 15 ?_);(first|refine jC B ?_|(refine cQ B rp ?_;rintro _ _ ⟨rfl,rfl⟩)))|((with_reducible refine cy 15 ?_);first|refine b_dcall B ?_|(refine ee B rp (by(simp only[rm,rc,rz,W.free,co,↓reduceIte,Nat.reduceEqDiff,ai,dV,List.forall_mem_nil,List.forall_mem_cons,List.not_mem_nil,not_false_eq_true,implies_true,and_true,true_and,and_self,Bool.false_eq_true,reduceCtorEq,forall_const,false_implies,List.mem_singleton,forall_eq,List.append_nil,List.nil_append,List.mem_cons,or_false,false_or,forall_eq_or_imp,not_or])<;>(repeat' constructor)<;>first|assumption|(exact Ne.symm acO)|(intro Y;subst Y;simp[SH.names]at *;done)) ?_;rintro _ _ ⟨rfl,rfl⟩))|((with_reducible refine aN 17 ?_);(first|refine jC D ?_|(refine cQ D rp ?_;rintro _ _ ⟨rfl,rfl⟩)))|((with_reducible refine cy 17 ?_);first|refine b_dcall D ?_|(refine ee D rp (by(simp only[rm,rc,rz,W.free,co,↓reduceIte,Nat.reduceEqDiff,ai,dV,List.forall_mem_nil,List.forall_mem_cons,List.not_mem_nil,not_false_eq_true,implies_true,and_true,true_and,and_self,Bool.false_eq_true,reduceCtorEq,forall_const,false_implies,List.mem_singleton,forall_eq,List.append_nil,List.nil_append,List.mem_cons,or_false,false_or,forall_eq_or_imp,not_or])<;>(repeat' constructor)<;>first|assumption|(exact Ne.symm acO)|(intro Y;subst Y;simp[SH.names]at *;done)) ?_;rintro _ _ ⟨rfl,rfl⟩))|refine BL (oD (by simp[Cm.ev,Cm.nth,SH.names,rm,rc,rz,W.free,ai,dV,M,N,nrb,ncb]) ?_)|((with_reducible refine cy 21 ?_);(refine ee O rp nofun ?_;(rintro _ _ ⟨rfl,rfl⟩;dsimp only[List.cons_append,List.nil_append,List.append_nil])))|refine s2 ?_ ?_|intro)
     all_goals exact fin _ rp
   |some d=>
    rw[hs]at O G;unfold nH at G;dsimp only at O G;have hfz:∀bn:Nat,ax [.agg (gr d (.sl bn 0 d.order.length)),.agg d.enc] [(bn,(⟨1,d.order.map aa⟩:Blk))] [.agg d.enc,.agg d.enc] []:=λbn=>
     ax.drop (K:=[(bn,(⟨1,d.order.map aa⟩:Blk))]) (R:=[]) (.refl _) rfl (fy.at_ (.cons (Ob d bn (.head _)) (.cons (.refl _) .nil))).2
    have hsd:=λbn:Nat=>Di (.bool true) (Qh d) (jc d (hsS d hs)) (hfz bn)
    clear hfz;have fin:=λ(bn:Nat) (L:SH) (h1:¬bn=br) (h2:¬bn=bc)=>fin d (some bn) L (S d hs) nofun (by rw[hlen d hs];omega) (λb e=>by cases e;exact⟨λe=>h1 e.symm,λe=>h2 e.symm⟩);clear hsS hlen S hsz;rw[bj]at *;simp only[cG,dG]at *;cases o with
    |none=>
     have M:=trivial;have N:=trivial;have nrb:=trivial;have ncb:=trivial;dsimp only[ab,my]at *
     repeat' (first|refine sy ?_|((with_reducible refine aN 15 ?_);(first|refine jC B ?_|(refine cQ B rp ?_;rintro _ _ ⟨rfl,rfl⟩)))|((with_reducible refine cy 15 ?_);first|refine b_dcall B ?_|(refine ee B rp (by(simp only[rm,rc,rz,W.free,co,↓reduceIte,Nat.reduceEqDiff,ai,dV,List.forall_mem_nil,List.forall_mem_cons,List.not_mem_nil,not_false_eq_true,implies_true,and_true,true_and,and_self,Bool.false_eq_true,reduceCtorEq,forall_const,false_implies,List.mem_singleton,forall_eq,List.append_nil,List.nil_append,List.mem_cons,or_false,false_or,forall_eq_or_imp,not_or])<;>(repeat' constructor)<;>first|assumption|(exact Ne.symm acO)|(intro Y;subst Y;simp[SH.names]at *;done)) ?_;rintro _ _ ⟨rfl,rfl⟩))|((with_reducible refine aN 17 ?_);(first|refine jC D ?_|(refine cQ D rp ?_;rintro _ _ ⟨rfl,rfl⟩)))|((with_reducible refine cy 17 ?_);first|refine b_dcall D ?_|(refine ee D rp (by(simp only[rm,rc,rz,W.free,co,↓reduceIte,Nat.reduceEqDiff,ai,dV,List.forall_mem_nil,List.forall_mem_cons,List.not_mem_nil,not_false_eq_true,implies_true,and_true,true_and,and_self,Bool.false_eq_true,reduceCtorEq,forall_const,false_implies,List.mem_singleton,forall_eq,List.append_nil,List.nil_append,List.mem_cons,or_false,false_or,forall_eq_or_imp,not_or])<;>(repeat' constructor)<;>first|assumption|(exact Ne.symm acO)|(intro Y;subst Y;simp[SH.names]at *;done)) ?_;rintro _ _ ⟨rfl,rfl⟩))|refine BL (oD (by simp[Cm.ev,Cm.nth,SH.names,rm,rc,rz,W.free,ai,dV,M,N,nrb,ncb]) ?_)|((with_reducible refine aN 14 ?_);(refine cQ (hsd _) rp ?_;rintro _ _ ⟨rfl,rfl⟩))|((with_reducible refine cy 14 ?_);(refine ee (hsd _) rp (by(simp only[rm,rc,rz,W.free,co,↓reduceIte,Nat.reduceEqDiff,ai,dV,List.forall_mem_nil,List.forall_mem_cons,List.not_mem_nil,not_false_eq_true,implies_true,and_true,true_and,and_self,Bool.false_eq_true,reduceCtorEq,forall_const,false_implies,List.mem_singleton,forall_eq,List.append_nil,List.nil_append,List.mem_cons,or_false,false_or,forall_eq_or_imp,not_or])<;>(repeat' constructor)<;>first|assumption|(exact Ne.symm acO)|(intro Y;subst Y;simp[SH.names]at *;done)) ?_;rintro _ _ ⟨rfl,rfl⟩))|((with_reducible refine cy 21 ?_);(refine Wj O (.refl _) ?_;(rintro _ _ ⟨bn,rfl,rfl⟩ hnd;simp only[SH.names,List.cons_append,List.nil_append,List.map_cons,List.map_nil,List.nodup_cons,List.mem_cons,List.not_mem_nil,or_false,not_or]at hnd;dsimp only[List.cons_append,List.nil_append,List.append_nil])))|refine s2 ?_ ?_|intro)
     all_goals exact fin bn _ hnd.1.1 hnd.1.2 rp
    |some b=>
     obtain⟨M,N⟩:=hne b rfl;have nrb:=M.symm;have ncb:=N.symm;dsimp only[ab,my]at *
     repeat' (first|refine sy ?_|((with_reducible refine aN 15 ?_);(first|refine jC B ?_|(refine cQ B rp ?_;rintro _ _ ⟨rfl,rfl⟩)))|((with_reducible refine cy 15 ?_);first|refine b_dcall B ?_|(refine ee B rp (by(simp only[rm,rc,rz,W.free,co,↓reduceIte,Nat.reduceEqDiff,ai,dV,List.forall_mem_nil,List.forall_mem_cons,List.not_mem_nil,not_false_eq_true,implies_true,and_true,true_and,and_self,Bool.false_eq_true,reduceCtorEq,forall_const,false_implies,List.mem_singleton,forall_eq,List.append_nil,List.nil_append,List.mem_cons,or_false,false_or,forall_eq_or_imp,not_or])<;>(repeat' constructor)<;>first|assumption|(exact Ne.symm acO)|(intro Y;subst Y;simp[SH.names]at *;done)) ?_;rintro _ _ ⟨rfl,rfl⟩))|((with_reducible refine aN 17 ?_);(first|refine jC D ?_|(refine cQ D rp ?_;rintro _ _ ⟨rfl,rfl⟩)))|((with_reducible refine cy 17 ?_);first|refine b_dcall D ?_|(refine ee D rp (by(simp only[rm,rc,rz,W.free,co,↓reduceIte,Nat.reduceEqDiff,ai,dV,List.forall_mem_nil,List.forall_mem_cons,List.not_mem_nil,not_false_eq_true,implies_true,and_true,true_and,and_self,Bool.false_eq_true,reduceCtorEq,forall_const,false_implies,List.mem_singleton,forall_eq,List.append_nil,List.nil_append,List.mem_cons,or_false,false_or,forall_eq_or_imp,not_or])<;>(repeat' constructor)<;>first|assumption|(exact Ne.symm acO)|(intro Y;subst Y;simp[SH.names]at *;done)) ?_;rintro _ _ ⟨rfl,rfl⟩))|refine BL (oD (by simp[Cm.ev,Cm.nth,SH.names,rm,rc,rz,W.free,ai,dV,M,N,nrb,ncb]) ?_)|((with_reducible refine aN 14 ?_);(refine cQ (hsd _) rp ?_;rintro _ _ ⟨rfl,rfl⟩))|((with_reducible refine cy 14 ?_);(refine ee (hsd _) rp (by(simp only[rm,rc,rz,W.free,co,↓reduceIte,Nat.reduceEqDiff,ai,dV,List.forall_mem_nil,List.forall_mem_cons,List.not_mem_nil,not_false_eq_true,implies_true,and_true,true_and,and_self,Bool.false_eq_true,reduceCtorEq,forall_const,false_implies,List.mem_singleton,forall_eq,List.append_nil,List.nil_append,List.mem_cons,or_false,false_or,forall_eq_or_imp,not_or])<;>(repeat' constructor)<;>first|assumption|(exact Ne.symm acO)|(intro Y;subst Y;simp[SH.names]at *;done)) ?_;rintro _ _ ⟨rfl,rfl⟩))|((with_reducible refine cy 21 ?_);(refine Wj O (dF.perm rp) ?_;(rintro _ _ ⟨bn,rfl,rfl⟩ hnd;simp only[SH.names,List.cons_append,List.nil_append,List.map_cons,List.map_nil,List.nodup_cons,List.mem_cons,List.not_mem_nil,or_false,not_or]at hnd;dsimp only[List.cons_append,List.nil_append,List.append_nil])))|refine s2 ?_ ?_|intro)
     all_goals exact fin bn _ hnd.1.1 hnd.1.2 rp
  .have hd:=aW g1;clear hv h19 hms hs0;rw[bj,cG,dG]
   repeat' (first|refine sy ?_|refine s2 ?_ ?_|intro)
   exact hq _
 rw[cG,dG]at *;rw[bj]at *
 repeat' (first|refine sy ?_|refine s2 ?_ ?_|intro)
 all_goals exact lp _ _
end
