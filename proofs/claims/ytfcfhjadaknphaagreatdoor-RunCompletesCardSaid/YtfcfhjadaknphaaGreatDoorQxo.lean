/- part -/
import Derived.Test.YtfcfhjadaknphaaGreatDoorQxn
set_option linter.all false
set_option maxRecDepth 100000
set_option maxHeartbeats 0
namespace Go.Proofs.YtfcfhjadaknphaaGreatDoor.Am
section
theorem B0(o:Option Nat)(l:List bv)(x:aO)(h0:o=none->l=[])(S:l.length<2^62):
  ac Tryz.prog 98 [ai o l.length,.str x] (ab o 2 (l.map bv.enc)) λu K=>u=.YJ (cu l x)/\K=ab o 2 (l.map bv.enc):=by
 refine oZ _ _ _ _ ?_;refine vw ?_;generalize Z:ab o 2 (l.map bv.enc)=L;generalize O:(λ(u:AV) (K:SH)=>u=AV.YJ (cu l x)/\K=L)=Q;have E:∀r:Int,r=cu l x->Q (.YJ r) L:=λr h=>by subst O h;exact⟨rfl,rfl⟩
 clear O;subst Z;cases o with
 |none=>
  have:=h0 rfl;subst this;dsimp only[ab,ai,List.length_nil]at *;refine cS 0 (λ_=>True) (λi=>[.emp,.str x,.YJ i]) YC trivial rfl (λi B G Y _ D M=>by omega) (λi B G _ D=>?_);refine vw ?_
  repeat' (first|refine sy ?_|refine s2 ?_ ?_|intro)
  exact E _ rfl
 |some b1=>
  dsimp only[ab,ai]at *;refine cF l (λy=>decide (y.name=x)) (λi=>[.sl b1 0 l.length,.str x,.YJ i]) S rfl (λi B G Y j D M=>?_) (λi B G j D=>?_)
  all_goals refine vw ?_
  .have hx:=aq (f:=bv.enc) B
   repeat' (first|refine sy ?_|refine s2 (λh=>?_) λh=>?_|intro)
   .exact E _ (by rw[cu,jg B j h])
   .exact M h
  .repeat' (first|refine sy ?_|refine s2 ?_ ?_|intro)
   exact E _ (by rw[cu,eU j])
def Tj:List AV:=[.nils,.nils,.nils,.nils,.nils,.nils]
def Ck(b2 b6:Nat)(oc ol od of ot os:Option Nat)(w:aK):SH:=
 (b6,⟨6,[[ai oc w.cells.length,ai ol w.locks.length,ai od w.conds.length,ai of w.futures.length,ai ot w.threads.length,ai os w.sites.length]]⟩)::(b2,⟨6,[Tj]⟩) ::
  (ab oc 5 (w.cells.map aH.enc)++(ab ol 2 (w.locks.map bv.enc)++(ab od 2 (w.conds.map bO.enc)++(ab of 1 (w.futures.map av)++(ab ot 1 (w.threads.map av)++ab os 3 (w.sites.map bM.enc))))))
structure Dk(b6:Nat)(oc ol od of ot os:Option Nat)(w:aK):Prop where
 c:oc=none->w.cells=[]
 l:ol=none->w.locks=[]
 d:od=none->w.conds=[]
 f:of=none->w.futures=[]
 t:ot=none->w.threads=[]
 s:os=none->w.sites=[]
 n:∀b,ol=some b->b6≠b
def Rv(K:SH->Prop)(b2 b6:Nat)(w:aK):Prop:=∀(oc ol od of ot os:Option Nat) (L':SH) (v0 v1 v2 v3 v4 v5:AV) (r0 r1 r2 r3 r4 r5:List (List AV)),Dk b6 oc ol od of ot os w->
 dD L' ((b6,⟨6,[[v0,v1,v2,v3,v4,v5]]⟩)::(b2,⟨6,[Tj]⟩)::(ab oc 5 r0++(ab ol 2 r1++(ab od 2 r2++(ab of 1 r3++(ab ot 1 r4++ab os 3 r5))))))->
 [v0,v1,v2,v3,v4,v5]=[ai oc w.cells.length,ai ol w.locks.length,ai od w.conds.length,ai of w.futures.length,ai ot w.threads.length,ai os w.sites.length]->
 r0=w.cells.map aH.enc->r1=w.locks.map bv.enc->r2=w.conds.map bO.enc->r3=w.futures.map av->r4=w.threads.map av->r5=w.sites.map bM.enc->K L'
theorem Rv.of{K:SH->Prop}{b2 b6:Nat}{w:aK}(h:∀(oc ol od of ot os:Option Nat) (j:SH),Dk b6 oc ol od of ot os w->dD j (Ck b2 b6 oc ol od of ot os w)->K j):Rv K b2 b6 w:=by intro oc ol od of ot os j v0 v1 v2 v3 v4 Z r0 r1 r2 r3 r4 r5 D B u Y S O M G E;simp only[List.cons.injEq,and_true]at u;obtain⟨rfl,rfl,rfl,rfl,rfl,rfl⟩:=u;subst Y S O M G E;exact h oc ol od of ot os j D B
section
variable {n18:Kn} {b2 b6 i:Nat} {oc ol od of ot os:Option Nat} {w:aK} {rows tl:List (List AV)}
theorem Rw{E size D:Int}{B O:aO}{u:Int}(hk:u=1\/u=2)(hs:size<=1000)(hi1:IntKind.i64.wrap ((i:Int)+1)=((i+1:Nat):Int))(G:Dk b6 oc ol od of ot os w)(hlen:w.cells.length<2^30)
  (hn:Rv (n18 [.pptr [[.lst rows,.lst tl]] 0 0,.ptr b2 0 0,.ptr b6 0 0,.YJ ((i+1:Nat):Int)]) b2 b6 {w with cells:=w.cells++aA.celW ⟨u,E,B,size,D,O⟩}) :
  W.loop (BV n18) [.pptr [[.lst rows,.lst tl]] 0 0,.ptr b2 0 0,.ptr b6 0 0,.YJ i,.pptr [[.YJ u,.YJ E,.str B,.YJ size,.YJ D,.str O]] 0 0,.YJ 0] (Ck b2 b6 oc ol od of ot os w):=by
 generalize hN:(max size 1).toNat=N at *;have hN1:N<=1000:=by omega
 have hcl:aA.celW ⟨u,E,B,size,D,O⟩=(List.range N).map λk=>⟨B,(k:Nat),size,decide (u=2),D⟩:=by unfold aA.celW;rw[hN]
 rw[hcl]at hn;obtain⟨WK,M⟩:∃f:Nat->aK,f=λk=>{w with cells:=w.cells++(List.range k).map λk=>⟨B,(k:Nat),size,decide (u=2),D⟩}:=⟨_,rfl⟩
 refine bF (β:=Option Nat×Option Nat×Option Nat×Option Nat×Option Nat×Option Nat) N (λk q=>([.pptr [[.lst rows,.lst tl]] 0 0,.ptr b2 0 0,.ptr b6 0 0,.YJ i,.pptr [[.YJ u,.YJ E,.str B,.YJ size,.YJ D,.str O]] 0 0,.YJ k],Ck b2 b6 q.1 q.2.1 q.2.2.1 q.2.2.2.1 q.2.2.2.2.1 q.2.2.2.2.2 (WK k)))
  (λk q=>Dk b6 q.1 q.2.1 q.2.2.1 q.2.2.2.1 q.2.2.2.2.1 q.2.2.2.2.2 (WK k)) (oc,ol,od,of,ot,os) (by subst M;show Dk b6 oc ol od of ot os {w with cells:=w.cells++[]};rw[Xr];exact G) (by subst M;show aE _ _ _ (Ck b2 b6 oc ol od of ot os {w with cells:=w.cells++[]});rw[Xr];exact aE.refl _ _) ?_
 rintro k ⟨oc,ol,od,of,ot,os⟩ hk G;dsimp only at G ⊢;refine vw ?_;generalize Y:(λ(vs':List AV) (L':SH)=>∃j o',k<j/\j<=N/\_)=nx;rcases Nat.lt_or_ge k N with g1|g1
 .have hd:=a8 g1;have hk1:=ax g1 YC;have hrs:List.range (k+1)=List.range k++[k]:=List.range_succ;have hgo:Rv (nx [.pptr [[.lst rows,.lst tl]] 0 0,.ptr b2 0 0,.ptr b6 0 0,.YJ i,.pptr [[.YJ u,.YJ E,.str B,.YJ size,.YJ D,.str O]] 0 0,.YJ ((k+1:Nat):Int)]) b2 b6 {w with cells:=w.cells++(List.range k).map (λk=>(⟨B,(k:Nat),size,decide (u=2),D⟩:aH))++[⟨B,(k:Nat),size,decide (u=2),D⟩]}:=.of λoc2 ol2 od2 of2 ot2 os2 L' q1 q2=>by
   subst Y;subst M;have e:(λk=>({w with cells:=w.cells++(List.range k).map λk=>(⟨B,(k:Nat),size,decide (u=2),D⟩:aH)}:aK)) (k+1)={w with cells:=w.cells++(List.range k).map (λk=>(⟨B,(k:Nat),size,decide (u=2),D⟩:aH))++[⟨B,(k:Nat),size,decide (u=2),D⟩]}:=by show({w with cells:=w.cells++(List.range (k+1)).map (λk=>(⟨B,(k:Nat),size,decide (u=2),D⟩:aH))}:aK)=_;rw[hrs,WL,<-List.append_assoc];rfl
   exact⟨k+1,(oc2,ol2,od2,of2,ot2,os2),YC,YC,by rw[e];exact q1,by rw[e];exact aE.pick q2 rfl⟩
  clear Y;have hCl:(w.cells++(List.range k).map (λk=>(⟨B,(k:Nat),size,decide (u=2),D⟩:aH))).length<2^31:=by simp;omega
  obtain⟨wc,wl,wd,wf,wt,ws⟩:=w;subst M;dsimp only at *;generalize wc++(List.range k).map (λk=>(⟨B,(k:Nat),size,decide (u=2),D⟩:aH))=C at *;have hC0:oc=none->C.map aH.enc=[]:=λe=>by have hc:=G.c e;dsimp only at hc;rw[hc];rfl
  unfold Ck
  repeat' (first|rw[hN]|refine sx ?_|refine bG rp rp YF (λe=>by first|simp[hC0 e]) YE YF YH YH YE (λS Z=>?_)|refine Jt ?_|refine sb λS Z=>?_|refine s2 ?_ ?_|intro)
  exact hgo (some S) ol od of ot os _ _ _ _ _ _ _ _ _ _ _ _ _ ⟨nofun,G.l,G.d,G.f,G.t,G.s,G.n⟩ rp (by simp[ai]) (by rw[WL];rfl) rfl rfl rfl rfl rfl
 .have hd:=bq g1;have e:k=N:=by omega
  subst e;subst M;dsimp only at *;unfold Ck
  repeat' (first|rw[hN]|refine sy ?_|refine Jt ?_|refine s2 ?_ ?_|intro)
  exact hn oc ol od of ot os _ _ _ _ _ _ _ _ _ _ _ _ _ G rp rfl rfl rfl rfl rfl rfl rfl
theorem Qp{o:Option Nat}{l:List bv}{x:aO}{i:Nat}{us:List W.WR}{L j:SH}{B:AV->SH->List Nat->Prop}(S:o=none->l=[])(D:l.length<2^62)(h2:eZ o 2 (l.map bv.enc) L j)(G:∀z∈us,W.free z ⟨i,[],(ab o 2 (l.map bv.enc)).names,[],true,[]⟩)
  (E:B (.YJ (cu l x)) (ab o 2 (l.map bv.enc)++j) (ab o 2 (l.map bv.enc)).names):W.dcallM Tryz.prog us i 98 [ai o l.length,.str x] L B:=
 ⟨ab o 2 (l.map bv.enc),j,h2.perm,G,(B0 o l x S D).mono λu K ⟨O,M⟩=>by subst O M;exact E⟩
theorem Qq{o:Option Nat}{b6 n i j k:Nat}{rows:List (List AV)}(h:∀b,o=some b->b6≠b):∀z∈[rm i rz,rm j ⟨am (.ptr b6 0 n),[],[],[]⟩],W.free z ⟨k,[],(ab o 2 rows).names,[],true,[]⟩:=by
 intro z u;simp only[WX,Xv,or_false]at u;rcases u with rfl|rfl
 .exact⟨nofun,nofun,nofun,nofun,λ_=>rfl⟩
 .refine⟨nofun,?_,nofun,nofun,λ_=>rfl⟩;intro c B;have:c=b6:=by simpa[rm,am]using B
  subst this;cases o with
  |none=>simp[ab,SH.names]
  |some b=>have:=h b rfl;simpa[ab,SH.names]using this
theorem Tk{d:aA}(hr:rows[i]? =some d.enc)(hk:1<=d.kind/\d.kind<=6)(hs:d.size<=1000)(hi1:IntKind.i64.wrap ((i:Int)+1)=((i+1:Nat):Int))(u:Dk b6 oc ol od of ot os w)(h1:w.cells.length<2^30)(h2:w.locks.length<2^30)(h3:w.conds.length<2^30)(h4:w.futures.length<2^30)
  (S:Rv (n18 [.pptr [[.lst rows,.lst tl]] 0 0,.ptr b2 0 0,.ptr b6 0 0,.YJ ((i+1:Nat):Int)]) b2 b6 (dh w d)) :
  BW n18 (Ck b2 b6 oc ol od of ot os w) (.pptr [[.lst rows,.lst tl]] 0 0) (.YJ i) (.ptr b2 0 0) (.ptr b6 0 0):=by
 obtain⟨M,B,j,size,D,Y⟩:=d;have hr':rows[i]? =some [.YJ M,.YJ B,.str j,.YJ size,.YJ D,.str Y]:=hr;clear hr;dsimp only at hk hs;have hl0:ol=none->w.locks.map bv.enc=[]:=λe=>by rw[u.l e];rfl
 have hd0:od=none->w.conds.map bO.enc=[]:=λe=>by rw[u.d e];rfl
 have hf0:of=none->w.futures.map av=[]:=λe=>by rw[u.f e];rfl
 have hlk:=B0 ol w.locks Y u.l YC;have hc:M=1\/M=2\/M=3\/M=4\/M=5\/M=6:=by omega
 refine vw ?_;rcases hc with rfl|rfl|rfl|rfl|rfl|rfl
 .have O:dh w ⟨1,B,j,size,D,Y⟩={w with cells:=w.cells++aA.celW ⟨1,B,j,size,D,Y⟩}:=by unfold dh;rw[if_pos (.inl rfl)]
  rw[O]at S;have Z:=Rw (.inl rfl) hs hi1 u h1 S;unfold Ck at Z ⊢
  repeat' (first|exact Z|refine sy ?_|refine s2 ?_ ?_|intro)
 .have O:dh w ⟨2,B,j,size,D,Y⟩={w with cells:=w.cells++aA.celW ⟨2,B,j,size,D,Y⟩}:=by unfold dh;rw[if_pos (.inr rfl)]
  rw[O]at S;have Z:=Rw (.inr rfl) hs hi1 u h1 S;unfold Ck at Z ⊢
  repeat' (first|exact Z|refine sy ?_|refine s2 ?_ ?_|intro)
 .have O:dh w ⟨3,B,j,size,D,Y⟩={w with locks:=w.locks++[⟨j,decide ((3:Int)=4)⟩]}:=rfl;rw[O]at S;unfold Ck
  repeat' (first|refine sx ?_|refine bG rp rp YF (λe=>by first|simp[hl0 e]) YE YF YH YH YE (λG E=>?_)|refine sb λG E=>?_|refine s2 ?_ ?_|intro)
  exact S oc (some G) od of ot os _ _ _ _ _ _ _ _ _ _ _ _ _ ⟨u.c,nofun,u.d,u.f,u.t,u.s,λb e=>by cases e;rintro rfl;exact E (by simp[SH.names])⟩ rp (by simp[ai]) rfl (by rw[WL];rfl) rfl rfl rfl rfl
 .have O:dh w ⟨4,B,j,size,D,Y⟩={w with locks:=w.locks++[⟨j,decide ((4:Int)=4)⟩]}:=rfl;rw[O]at S;unfold Ck
  repeat' (first|refine sx ?_|refine bG rp rp YF (λe=>by first|simp[hl0 e]) YE YF YH YH YE (λG E=>?_)|refine sb λG E=>?_|refine s2 ?_ ?_|intro)
  exact S oc (some G) od of ot os _ _ _ _ _ _ _ _ _ _ _ _ _ ⟨u.c,nofun,u.d,u.f,u.t,u.s,λb e=>by cases e;rintro rfl;exact E (by simp[SH.names])⟩ rp (by simp[ai]) rfl (by rw[WL];rfl) rfl rfl rfl rfl
 .have O:dh w ⟨5,B,j,size,D,Y⟩={w with conds:=w.conds++[⟨j,cu w.locks Y⟩]}:=rfl;rw[O]at S;unfold Ck;rcases ol with _|bl_
  all_goals
   repeat' (first|refine sy ?_|refine bG rp rp YF (λe=>by first|simp[hd0 e]) YE YF YH YH YE (λG E=>?_)|((with_reducible refine dR 98 ?_);refine Qp u.l YC rp (Qq u.n) ?_;dsimp only[zF,zG,List.nil_append,List.cons_append])|refine s2 ?_ ?_|intro)
  .exact S oc none (some G) of ot os _ _ _ _ _ _ _ _ _ _ _ _ _ ⟨u.c,u.l,nofun,u.f,u.t,u.s,u.n⟩ rp (by simp[ai]) rfl rfl (by rw[WL];rfl) rfl rfl rfl
  .exact S oc (some bl_) (some G) of ot os _ _ _ _ _ _ _ _ _ _ _ _ _ ⟨u.c,u.l,nofun,u.f,u.t,u.s,u.n⟩ rp (by simp[ai]) rfl rfl (by rw[WL];rfl) rfl rfl rfl
 .have O:dh w ⟨6,B,j,size,D,Y⟩={w with futures:=w.futures++[j]}:=rfl;rw[O]at S;unfold Ck
  repeat' (first|refine sx ?_|refine bG rp rp YF (λe=>by first|simp[hf0 e]) YE YF YH YH YE (λG E=>?_)|refine sb λG E=>?_|refine s2 ?_ ?_|intro)
  exact S oc ol od (some G) ot os _ _ _ _ _ _ _ _ _ _ _ _ _ ⟨u.c,u.l,u.d,nofun,u.t,u.s,u.n⟩ rp (by simp[ai]) rfl rfl rfl (by rw[WL];rfl) rfl rfl
end
end
section
def TA(f:FuncId)(args:List AV)(w:aK)(loc:List aO)(add:List az):Prop:=∀(bg:Nat) (o:Option Nat) (out:List az) (site next:Int),(o=none->out=[])->out.length+add.length<2^30->
 ac Tryz.prog f (.ptr bg 0 0::args) ((bg,dY w loc (ai o out.length) site next)::ab o 6 (out.map az.enc)) λu K=>∃(v:AV) (o':Option Nat),u=v/\v=.tup []/\(o'=none->out++add.map (·.at_ site)=[])/\K=(bg,dY w loc (ai o' (out++add.map (·.at_ site)).length) site next)::ab o' 6 ((out++add.map (·.at_ site)).map az.enc)
section
variable {w:aK} {loc:List aO}
theorem iZ{f:FuncId}{args:List AV}{j:List az}{B:Nat}{o:Option Nat}{out:List az}{site next:Int}{L D L2:SH}{KL:R}(h:TA f args w loc j)(S:fQ B (dY w loc (ai o out.length) site next) L D)(h2:eZ o 6 (out.map az.enc) D L2)(Y:o=none->out=[])(G:out.length+j.length<2^30)
  (E:∀u:Option Nat,(u=none->out++j.map (·.at_ site)=[])->KL (.tup []) ((B,dY w loc (ai u (out++j.map (·.at_ site)).length) site next)::(L2++ab u 6 ((out++j.map (·.at_ site)).map az.enc)))):W.callM Tryz.prog f (.ptr B 0 0::args) L KL:=by
 refine qR (M:=L2) (h B o out site next Y G) (S.perm.trans (h2.perm.cons _)) ?_;rintro _ _ ⟨v,u,rfl,rfl,O,rfl⟩;exact⟨_,.cons _ W1,E u O⟩
inductive gy (w:aK) (loc:List aO):ae->Int->List az->Prop where
 |num (n:Int) (s:aO) (l:List ae) (d:Int):gy w loc (.mk 1 n s l) d [⟨1,d,0,0,n,0⟩]
 |loc (n:Int) (s:aO) (l:List ae) (d:Int):0<=jx loc s->gy w loc (.mk 2 n s l) d [⟨2,d,jx loc s,0,0,0⟩]
 |load (n:Int) (s:aO) (l:List ae) (d:Int):jx loc s<0->gy w loc (.mk 2 n s l) d [⟨6,d,eN w.cells s,0,0,0⟩]
 |index (n:Int) (s:aO) (a:ae) (d:Int) (c1:List az) (b:Nat) (hb:b<w.cells.length):gy w loc a d c1->eN w.cells s=b->gy w loc (.mk 3 n s [a]) d (c1++[⟨7,d,b,d,w.cells[b].size,0⟩])
 |un (op n:Int) (s:aO) (a:ae) (d:Int) (c1:List az):op≠1->op≠2->op≠3->gy w loc a d c1->gy w loc (.mk op n s [a]) d (c1++[⟨3,d,d,0,op,0⟩])
 |bin (op n:Int) (s:aO) (a b:ae) (d:Int) (c1 c2:List az):op≠1->op≠2->op≠3->IntKind.i64.wrap (d+1)=d+1->gy w loc a d c1->gy w loc b (d+1) c2->gy w loc (.mk op n s [a,b]) d (c1++c2++[⟨4,d,d,d+1,op,0⟩])
theorem ou{Q:R}{E:Nat}{out:List az}{site next:Int}{u:List az}
  (O:(λ(v:AV) (L:SH)=>∃D L2,aE [v] L [D] L2/\∃(v:AV) (B:Option Nat),D=v/\v=.tup []/\(B=none->out++u.map (·.at_ site)=[])/\L2=(E,dY w loc (ai B (out++u.map (·.at_ site)).length) site next)::ab B 6 ((out++u.map (·.at_ site)).map az.enc))=Q)
  (B:Option Nat) (j:List az) (L:SH) (h:dD L ((E,dY w loc (ai B j.length) site next)::ab B 6 (j.map az.enc))) (M:j=out++u.map (·.at_ site)) (G:B=none->j=[]):Q (.tup []) L:=by
 subst O M;exact⟨_,_,aE.pick h rfl,_,B,rfl,rfl,G,rfl⟩
theorem jw(hw:w.cells.length<2^40)(hlo:loc.length<2^40){e:ae}{d:Int}{c:List az}(h:gy w loc e d c):TA 146 [.agg e.row,.YJ d] w loc c:=by
 induction h with
 |num n s l d=>
  intro bg o G j u O D
  refine ac.fz (df _ _ _ _ _ ?_);unfold ae.row;refine vw ?_;generalize B:(λ(v:AV) (L:SH)=>∃E M,aE [v] L [E] M/\∃(v:AV) (Z:Option Nat),_)=Q;have fin:=ou B;clear B
  repeat' (first|refine sy ?_|((with_reducible refine aU 53 ?_);(refine dJ (i:=⟨1,d,0,0,n,0⟩) rp rp O (by simp at D;omega) (λY=>?_)))|refine s2 ?_ ?_|intro)
  exact fin _ _ _ (.one (.here _) (.slotl .last)) rfl nofun
 |load n s l d hs=>
  intro bg o G j u O D
  refine ac.fz (df _ _ _ _ _ ?_);unfold ae.row;refine vw ?_;generalize B:(λ(v:AV) (L:SH)=>∃E M,aE [v] L [E] M/\∃(v:AV) (Z:Option Nat),_)=Q;have fin:=ou B;clear B;have dn:decide (jx loc s>=0)=false:=by simp;omega
  have ha:=oV loc s YC;have hc:=qS w s YC
  repeat' (first|refine sy ?_|((with_reducible refine aU 53 ?_);(refine dJ (i:=⟨6,d,eN w.cells s,0,0,0⟩) rp rp O (by simp at D;omega) (λY=>?_)))|((with_reducible refine dR 53 ?_);refine iF ?_;refine dJ (i:=⟨6,d,eN w.cells s,0,0,0⟩) rp rp O (by simp at D;omega) (λY ks_=>?_))|refine s2 ?_ ?_|intro)
  exact fin _ _ _ (.one (.here _) (.slotl .last)) rfl nofun
 |loc n s l d hs=>
  intro bg o G j u O D
  refine ac.fz (df _ _ _ _ _ ?_);unfold ae.row;refine vw ?_;generalize B:(λ(v:AV) (L:SH)=>∃E M,aE [v] L [E] M/\∃(v:AV) (Z:Option Nat),_)=Q;have fin:=ou B;clear B;have dn:decide (jx loc s>=0)=true:=by simp;omega
  have ha:=oV loc s YC
  repeat' (first|refine sy ?_|((with_reducible refine aU 53 ?_);(refine dJ (i:=⟨2,d,jx loc s,0,0,0⟩) rp rp O (by simp at D;omega) (λY=>?_)))|refine s2 ?_ ?_|intro)
  exact fin _ _ _ (.one (.here _) (.slotl .last)) rfl nofun
 |un op n s a d c1 n1 n2 n3 hv ih=>
  intro bg o G j u O D
  refine ac.fz (df _ _ _ _ _ ?_);unfold ae.row;refine vw ?_;generalize B:(λ(v:AV) (L:SH)=>∃E M,aE [v] L [E] M/\∃(v:AV) (Z:Option Nat),_)=Q;have fin:=ou B;clear B;simp only[LT,WO,WT]at D;have d1:decide (op=1)=false:=by simpa using n1
  have d2:decide (op=2)=false:=by simpa using n2
  have d3:decide (op=3)=false:=by simpa using n3
  have hx:([a].map ae.enc)[0]? =some a.row:=by simp[ae.enc_row]
  repeat' (first|refine sy ?_|((with_reducible refine aU 146 ?_);(refine iZ ih rp rp O YC (λo_ S=>?_)))|((with_reducible refine aU 53 ?_);(refine dJ (i:=⟨3,d,d,0,op,0⟩) rp rp YD YH (λY=>?_)))|refine s2 ?_ ?_|intro)
  exact fin _ _ _ (.one (.here _) (.slotl .last)) (by simp[WU]) nofun
 |bin op n s a b d c1 c2 n1 n2 n3 hd hv hv2 ih ih2=>
  intro bg o G j u O D
  refine ac.fz (df _ _ _ _ _ ?_);unfold ae.row;refine vw ?_;generalize B:(λ(v:AV) (L:SH)=>∃E M,aE [v] L [E] M/\∃(v:AV) (Z:Option Nat),_)=Q;have fin:=ou B;clear B;simp only[LT,WO,WT]at D;have d1:decide (op=1)=false:=by simpa using n1
  have d2:decide (op=2)=false:=by simpa using n2
  have d3:decide (op=3)=false:=by simpa using n3
  have hx:([a,b].map ae.enc)[0]? =some a.row:=by simp[ae.enc_row]
  have hx2:([a,b].map ae.enc)[1]? =some b.row:=by simp[ae.enc_row]
  repeat' (first|refine ep (dw ?_ hd)|refine sy ?_|((with_reducible refine aU 146 ?_);(refine iZ ih rp rp YD YH (λo_ S=>?_)))|((with_reducible refine aU 146 ?_);(refine iZ ih2 rp rp YD YH (λo_ S=>?_)))|((with_reducible refine aU 53 ?_);(refine dJ (i:=⟨4,d,d,d+1,op,0⟩) rp rp YD YH (λY=>?_)))|refine s2 ?_ ?_|intro)
  exact fin _ _ _ (.one (.here _) (.slotl .last)) (by simp[WU]) nofun
 |index n s a d c1 b hb hv hcb ih=>
  intro bg o G j u O D
  refine ac.fz (df _ _ _ _ _ ?_);unfold ae.row;refine vw ?_;generalize B:(λ(v:AV) (L:SH)=>∃E M,aE [v] L [E] M/\∃(v:AV) (Z:Option Nat),_)=Q;have fin:=ou B;clear B;simp only[LT,WO,WT]at D;have hx:([a].map ae.enc)[0]? =some a.row:=by simp[ae.enc_row]
  have hc:=qS w s YC;rw[hcb]at hc;have hxc:=aq (f:=aH.enc) hb
  repeat' (first|refine sy ?_|((with_reducible refine aU 146 ?_);(refine iZ ih rp rp YD YH (λo_ S=>?_)))|((with_reducible refine aU 53 ?_);(refine dJ (i:=⟨7,d,b,d,w.cells[b].size,0⟩) rp rp YD YH (λY=>?_)))|refine s2 ?_ ?_|intro)
  exact fin _ _ _ (.one (.here _) (.slotl .last)) (by simp[WU]) nofun
end
end
section
section
variable {w:aK} {loc:List aO}
inductive FL (w:aK) (loc:List aO):aa->List az->Prop where
 |idx (op line:Int) (s arg:aO) (i e:ae) (rest:List ae) (body els:List aa) (c1 c2:List az) (b:Nat) (hb:b<w.cells.length):gy w loc i loc.length c1->gy w loc e ((loc.length:Int)+1) c2->eN w.cells s=b->FL w loc (.mk op line s arg (i::rest) e body els) (c1++c2++[⟨9,b,(loc.length:Int)+1,loc.length,w.cells[b].size,0⟩])
 |loc (op line:Int) (s arg:aO) (e:ae) (body els:List aa) (c:List az):gy w loc e loc.length c->0<=jx loc s->FL w loc (.mk op line s arg [] e body els) (c++[⟨2,jx loc s,loc.length,0,0,0⟩])
 |store (op line:Int) (s arg:aO) (e:ae) (body els:List aa) (c:List az):gy w loc e loc.length c->jx loc s<0->FL w loc (.mk op line s arg [] e body els) (c++[⟨8,eN w.cells s,loc.length,0,0,0⟩])
theorem TB(S:w.cells.length<2^40)(j:loc.length<2^40){x:aa}{c:List az}(h:FL w loc x c):TA 142 [.agg x.row] w loc c:=by
 intro bg o out site next h0 hl
 have hk:IntKind.i64.wrap ((loc.length:Int)+1)=(loc.length:Int)+1:=by rw[WY _ YC]
 refine ac.fz (rT _ _ _ _ ?_);unfold aa.row;refine vw ?_;generalize hQ:(λ(v:AV) (L:SH)=>∃Y L2,aE [v] L [Y] L2/\∃(v:AV) (o':Option Nat),_)=Q;have fin:=ou hQ;clear hQ;cases h with
 |idx op B s O i e u D M c1 c2 b hb hv1 hv2 hcb=>
  have G:=jw S j hv1;have Y:=jw S j hv2;simp only[LT,WO,WT]at hl;have dl:decide ((0:Int)<((i::u).length:Int))=true:=by simp
  have hx:((i::u).map ae.enc)[0]? =some i.row:=by simp[ae.enc_row]
  have hc:=qS w s YC;rw[hcb]at hc;have hxc:=aq (f:=aH.enc) hb
  repeat' (first|refine ep (dw ?_ hk)|refine sy ?_|((with_reducible refine aU 146 ?_);(refine iZ G rp rp YD YH (λZ E=>?_)))|((with_reducible refine aU 146 ?_);(refine iZ Y rp rp YD YH (λZ E=>?_)))|((with_reducible refine aU 53 ?_);(refine dJ (i:=⟨9,b,(loc.length:Int)+1,loc.length,w.cells[b].size,0⟩) rp rp YD YH (λb_=>?_)))|intro)
  exact fin _ _ _ (.one (.here _) (.slotl .last)) (by simp[WU]) nofun
 |loc op B s O e D M c hv hs=>
  have G:=jw S j hv;simp only[LT,WO,WT]at hl;have dn:decide (jx loc s>=0)=true:=by simp;omega
  have ha:=oV loc s YC
  repeat' (first|refine sy ?_|((with_reducible refine aU 146 ?_);(refine iZ G rp rp YD YC (λZ E=>?_)))|((with_reducible refine aU 53 ?_);(refine dJ (i:=⟨2,jx loc s,loc.length,0,0,0⟩) rp rp YD YH (λb_=>?_)))|intro)
  exact fin _ _ _ (.one (.here _) (.slotl .last)) (by simp[WU]) nofun
 |store op B s O e D M c hv hs=>
  have G:=jw S j hv;simp only[LT,WO,WT]at hl;have dn:decide (jx loc s>=0)=false:=by simp;omega
  have ha:=oV loc s YC;have hc:=qS w s YC
  repeat' (first|refine sy ?_|((with_reducible refine aU 146 ?_);(refine iZ G rp rp YD YC (λZ E=>?_)))|((with_reducible refine dR 53 ?_);refine iF ?_;refine dJ (i:=⟨8,eN w.cells s,loc.length,0,0,0⟩) rp rp YD YH (λb_ ks_=>?_))|intro)
  exact fin _ _ _ (.one (.here _) (.slotl .last)) (by simp[WU]) nofun
end
end
def FM(B:Nat)(w:aK)(loc:List aO)(v:AV)(site next:Int)(s:aO)(M:w.conds.length<2^62):
  ac Tryz.prog 145 [.ptr B 0 0,.str s] [(B,dY w loc v site next)] λu K=>u=.YJ (fL w.conds s)/\K=[(B,dY w loc v site next)]:=by
 refine vP _ _ _ _ ?_;refine vw ?_;refine cF w.conds (λx=>decide (x.name=s)) (λi=>[.ptr B 0 0,.str s,.YJ i]) M rfl (λi D O Y j E G=>?_) (λi D O j E=>?_)
 all_goals refine vw ?_
 .have S:=aq (f:=bO.enc) D;unfold dY at *
  repeat' (first|refine sy ?_|refine s2 (λh=>?_) λh=>?_|intro)
  .exact⟨by rw[fL,jg D j h],rfl⟩
  .exact G h
 .unfold dY at *
  repeat' (first|refine sy ?_|refine s2 ?_ ?_|intro)
  exact⟨by rw[fL,eU j],rfl⟩
section
def aN(c:List az)(s:Nat):List az:=c.map (·.at_ (s:Int))
def Ia(w:aK)(op:Int)(s:aO):Option (Int×Int×Int):=
 if op=4 then some (11,12,cu w.locks s)else
 if op=5 then some (13,14,cu w.locks s)else
 if op=6 then some (15,16,cu w.locks s)else
 if op=7 then some (17,18,0)else
 if op=8 then some (19,20,0)else none
def OH(w:aK)(loc:List aO)(op:Int)(s arg:aO):Option az:=
 if op=9 then some ⟨21,fL w.conds s,0,0,0,0⟩else
 if op=10 then some ⟨22,fL w.conds s,0,0,0,0⟩else
 if op=11 then some ⟨23,fL w.conds s,0,0,0,0⟩else
 if op=12 then some ⟨24,jx w.threads s,0,0,0,0⟩else
 if op=13 then some ⟨25,jx w.threads s,0,0,0,0⟩else
 if op=15 then some ⟨27,jx loc s,jx w.futures arg,0,0,0⟩else none
mutual
inductive JA (w:aK) (loc:List aO):aa->Nat->Nat->List az->Nat->Prop where
 |asg (line:Int) (s arg:aO) (ix:List ae) (e:ae) (body els:List aa) (c:List az) (n b:Nat):FL w loc (.mk 1 line s arg ix e body els) c->JA w loc (.mk 1 line s arg ix e body els) n b (aN c n) (n+1)
 |if1 (line:Int) (s arg:aO) (ix:List ae) (e:ae) (body:List aa) (ce cb:List az) (n b n2:Nat):gy w loc e loc.length ce->StsC w loc body (n+1) (b+ce.length+1) cb n2->JA w loc (.mk 2 line s arg ix e body []) n b (aN (ce++[⟨10,loc.length,((b+ce.length+1+cb.length:Nat):Int),0,0,0⟩]) n++cb) n2
 | if2 (line:Int) (s arg:aO) (ix:List ae) (e:ae) (body:List aa) (y:aa) (els:List aa) (ce cb cl:List az) (n b n2 n3:Nat):gy w loc e loc.length ce->StsC w loc body (n+1) (b+ce.length+1) cb n2->StsC w loc (y::els) n2 (b+ce.length+1+cb.length+1) cl n3->
   JA w loc (.mk 2 line s arg ix e body (y::els)) n b (aN (ce++[⟨10,loc.length,((b+ce.length+1+cb.length+1:Nat):Int),0,0,0⟩]) n++cb++aN [⟨5,((b+ce.length+1+cb.length+1+cl.length:Nat):Int),0,0,0,0⟩] n++cl) n3
 |while (line:Int) (s arg:aO) (ix:List ae) (e:ae) (body els:List aa) (ce cb:List az) (n b n2:Nat):gy w loc e loc.length ce->StsC w loc body (n+1) (b+ce.length+1) cb n2->JA w loc (.mk 3 line s arg ix e body els) n b (aN (ce++[⟨10,loc.length,((b+ce.length+1+cb.length+1:Nat):Int),0,0,0⟩]) n++cb++aN [⟨5,(b:Int),0,0,0,0⟩] n) n2
 |arnd (op line:Int) (s arg:aO) (ix:List ae) (e:ae) (body els:List aa) (f l ob:Int) (cb:List az) (n b n2:Nat):Ia w op s=some (f,l,ob)->StsC w loc body (n+1) (b+1) cb n2->JA w loc (.mk op line s arg ix e body els) n b (aN [⟨f,ob,0,0,0,0⟩] n++cb++aN [⟨l,ob,0,0,0,0⟩] n) n2
 |one (op line:Int) (s arg:aO) (ix:List ae) (e:ae) (body els:List aa) (i:az) (n b:Nat):OH w loc op s arg=some i->JA w loc (.mk op line s arg ix e body els) n b (aN [i] n) (n+1)
 |set (line:Int) (s arg:aO) (ix:List ae) (e:ae) (body els:List aa) (ce:List az) (n b:Nat):gy w loc e loc.length ce->JA w loc (.mk 14 line s arg ix e body els) n b (aN (ce++[⟨26,jx w.futures s,loc.length,0,0,0⟩]) n) (n+1)
inductive StsC (w:aK) (loc:List aO):List aa->Nat->Nat->List az->Nat->Prop where
 |nil (n b:Nat):StsC w loc [] n b [] n
 |cons (x:aa) (l:List aa) (c1 c2:List az) (n b n1 n2:Nat):JA w loc x n b c1 n1->StsC w loc l n1 (b+c1.length) c2 n2->StsC w loc (x::l) n b (c1++c2) n2
end
section
variable {w:aK} {loc:List aO}
theorem FN {M1 : aa -> Nat -> Nat -> List az -> Nat -> Prop} {M2 : List aa -> Nat -> Nat -> List az -> Nat -> Prop}
    (asg:∀(u:Int) (s D:aO) (O:List ae) (e:ae) (j E:List aa) (c:List az) (n b:Nat),FL w loc (.mk 1 u s D O e j E) c->M1 (.mk 1 u s D O e j E) n b (aN c n) (n+1))
    (if1:∀(u:Int) (s D:aO) (O:List ae) (e:ae) (j:List aa) (G M:List az) (n b B:Nat),gy w loc e loc.length G->StsC w loc j (n+1) (b+G.length+1) M B->M2 j (n+1) (b+G.length+1) M B->M1 (.mk 2 u s D O e j []) n b (aN (G++[⟨10,loc.length,((b+G.length+1+M.length:Nat):Int),0,0,0⟩]) n++M) B)
    (if2:∀(u:Int) (s D:aO) (O:List ae) (e:ae) (j:List aa) (y:aa) (E:List aa) (G M cl:List az) (n b B n3:Nat),gy w loc e loc.length G->StsC w loc j (n+1) (b+G.length+1) M B->StsC w loc (y::E) B (b+G.length+1+M.length+1) cl n3->M2 j (n+1) (b+G.length+1) M B->M2 (y::E) B (b+G.length+1+M.length+1) cl n3->
      M1 (.mk 2 u s D O e j (y::E)) n b (aN (G++[⟨10,loc.length,((b+G.length+1+M.length+1:Nat):Int),0,0,0⟩]) n++M++aN [⟨5,((b+G.length+1+M.length+1+cl.length:Nat):Int),0,0,0,0⟩] n++cl) n3)
    (Z:∀(u:Int) (s D:aO) (O:List ae) (e:ae) (j E:List aa) (G M:List az) (n b B:Nat),gy w loc e loc.length G->StsC w loc j (n+1) (b+G.length+1) M B->M2 j (n+1) (b+G.length+1) M B->M1 (.mk 3 u s D O e j E) n b (aN (G++[⟨10,loc.length,((b+G.length+1+M.length+1:Nat):Int),0,0,0⟩]) n++M++aN [⟨5,(b:Int),0,0,0,0⟩] n) B)
    (Y:∀(op u:Int) (s D:aO) (O:List ae) (e:ae) (j E:List aa) (f l ob:Int) (M:List az) (n b B:Nat),Ia w op s=some (f,l,ob)->StsC w loc j (n+1) (b+1) M B->M2 j (n+1) (b+1) M B->M1 (.mk op u s D O e j E) n b (aN [⟨f,ob,0,0,0,0⟩] n++M++aN [⟨l,ob,0,0,0,0⟩] n) B)
    (one:∀(op u:Int) (s D:aO) (O:List ae) (e:ae) (j E:List aa) (i:az) (n b:Nat),OH w loc op s D=some i->M1 (.mk op u s D O e j E) n b (aN [i] n) (n+1))
    (set:∀(u:Int) (s D:aO) (O:List ae) (e:ae) (j E:List aa) (G:List az) (n b:Nat),gy w loc e loc.length G->M1 (.mk 14 u s D O e j E) n b (aN (G++[⟨26,jx w.futures s,loc.length,0,0,0⟩]) n) (n+1))
    (nil:∀(n b:Nat),M2 [] n b [] n)
    (S:∀(x:aa) (l:List aa) (c1 c2:List az) (n b n1 B:Nat),JA w loc x n b c1 n1->StsC w loc l n1 (b+c1.length) c2 B->M1 x n b c1 n1->M2 l n1 (b+c1.length) c2 B->M2 (x::l) n b (c1++c2) B) :
    (∀{x n b c B},JA w loc x n b c B->M1 x n b c B)/\∀{l n b c B},StsC w loc l n b c B->M2 l n b c B:=
  ⟨λh=>JA.rec (motive_1:=λx n b c B _=>M1 x n b c B) (motive_2:=λx n b c B _=>M2 x n b c B) asg if1 if2 Z Y one set nil S h,
   λh=>StsC.rec (motive_1:=λx n b c B _=>M1 x n b c B) (motive_2:=λx n b c B _=>M2 x n b c B) asg if1 if2 Z Y one set nil S h⟩
end
end
section
def fC(f:FuncId)(args:List AV)(w:aK)(loc:List aO)(n b:Nat)(c:List az)(n2:Nat):Prop:=∀(bg:Nat) (o:Option Nat) (out:List az) (site:Int),(o=none->out=[])->out.length=b->b+c.length<2^30->n2<2^30->
 ac Tryz.prog f (.ptr bg 0 0::args) ((bg,dY w loc (ai o out.length) site n)::ab o 6 (out.map az.enc)) λu K=>∃(v:AV) (o':Option Nat) (site':Int),u=v/\v=.tup []/\(o'=none->out++c=[])/\K=(bg,dY w loc (ai o' (out++c).length) site' n2)::ab o' 6 ((out++c).map az.enc)
section
variable {w:aK} {loc:List aO}
theorem tZ{f:FuncId}{args:List AV}{c:List az}{B b n D:Nat}{o:Option Nat}{out:List az}{site:Int}{L E L2:SH}{KL:R}(h:fC f args w loc n b c D)(h1:fQ B (dY w loc (ai o out.length) site n) L E)(h2:eZ o 6 (out.map az.enc) E L2)(h0:o=none->out=[])(Y:out.length=b)(S:b+c.length<2^30)(O:D<2^30)
  (G:∀(u:Option Nat) (j:Int),(u=none->out++c=[])->KL (.tup []) ((B,dY w loc (ai u (out++c).length) j D)::(L2++ab u 6 ((out++c).map az.enc)))):W.callM Tryz.prog f (.ptr B 0 0::args) L KL:=by
 refine qR (M:=L2) (h B o out site h0 Y S O) (h1.perm.trans (h2.perm.cons _)) ?_;rintro _ _ ⟨v,u,j,rfl,rfl,Z,rfl⟩;exact⟨_,.cons _ W1,G u j Z⟩
theorem dQ{Q:R}{G:Nat}{out:List az}{c:List az}{E:Nat}
  (S:(λ(v:AV) (L:SH)=>∃D L2,aE [v] L [D] L2/\∃(v:AV) (B:Option Nat) (j:Int),D=v/\v=.tup []/\(B=none->out++c=[])/\L2=(G,dY w loc (ai B (out++c).length) j E)::ab B 6 ((out++c).map az.enc))=Q)
  (B:Option Nat) (u:List az) (j:Int) (L:SH) (h:dD L ((G,dY w loc (ai B u.length) j E)::ab B 6 (u.map az.enc))) (O:u=out++c) (M:B=none->u=[]):Q (.tup []) L:=by
 subst S O;exact⟨_,_,aE.pick h rfl,_,B,j,rfl,rfl,M,rfl⟩
theorem nq(Y:Nat)(o:Option Nat)(out:List az)(n m O:Nat)(op E:Int)(s Z:aO)(ix:List ae)(e:ae)(D S:List aa)(f l B:Int)(G:List az)(h0:o=none->out=[])(hB:fC 52 [.lst (D.map aa.enc)] w loc m (out.length+1) G O)(hl:out.length+1+G.length+1<2^30)(hn:O<2^30):
  ac Tryz.prog 144 [.ptr Y 0 0,.agg (aa.mk op E s Z ix e D S).row,.YJ f,.YJ l,.YJ B] ((Y,dY w loc (ai o out.length) n m)::ab o 6 (out.map az.enc)) λu K=>∃(v:AV) (M:Option Nat) (j:Int),u=v/\v=.tup []/\(M=none->out++(aN [⟨f,B,0,0,0,0⟩] n++G++aN [⟨l,B,0,0,0,0⟩] n)=[])/\K=(Y,dY w loc (ai M (out++(aN [⟨f,B,0,0,0,0⟩] n++G++aN [⟨l,B,0,0,0,0⟩] n)).length) j O)::ab M 6 ((out++(aN [⟨f,B,0,0,0,0⟩] n++G++aN [⟨l,B,0,0,0,0⟩] n)).map az.enc):=by
 refine ac.fz (rU _ _ _ _ _ _ _ ?_);unfold aa.row;refine vw ?_;generalize hQ:(λ(v:AV) (L:SH)=>∃v2 L2,aE [v] L [v2] L2/\∃(v:AV) (M:Option Nat) (j:Int),_)=Q;have fin:=dQ hQ;clear hQ
 repeat' (first|refine sy ?_|((with_reducible refine aU 53 ?_);(first|(refine dJ (i:=⟨f,B,0,0,0,0⟩) (site:=(n:Int)) (next:=(m:Int)) rp rp h0 YC (λb_=>?_))|(refine dJ (i:=⟨l,B,0,0,0,0⟩) rp rp YD YH (λb_=>?_))|fail))|((with_reducible refine aU 52 ?_);(refine tZ hB rp rp (λe_=>by cases e_) YF YC hn (λo_ s_ ho_=>?_)))|intro)
 exact fin _ _ _ _ (.one (.here _) (.slotl .last)) (by simp[aN,WU]) nofun
end
end
section
theorem zJ{b N D m G:Nat}{O:IntKind}{k:Nat}{out u A B:List az}{i j:az}{v:AV}{L:SH}{g:Nat×Blk}{E:SH->Fp->Prop}
  (e1:out=A++[i]++B) (e2:u=A++[j]++B) (Z:k=A.length) (hL:L=(g::ab (some b) 6 (out.map az.enc))) (hN:N=out.length) (he:i.enc.set D v=j.enc) (Y:D<6) (S:v.cells? =some [v]) (h1:v.one=true)
  (M:∀r,E (g::ab (some b) 6 (u.map az.enc)) r):di [] m 6 (ai (some b) N) (.int O (k:Int)) L λx r=>W.faddr D x λy=>ds [] G 1 y v L E:=by
 subst e1 e2 Z hN hL;refine Sf (EI (eQ (tg (wi (UK (EI ?_))) ) (by simp only[LT,WO,WT];omega) (.tail _ (.head _)) rfl));refine xR (x:=⟨6,(A++[i]++B).map az.enc⟩) (r:=i.enc) (x':=⟨6,(A++[j]++B).map az.enc⟩) (.there _ (.here _)) ?_ S h1 (by simpa[az.enc]using Y) ?_ (tg (M _))
 .rw[W6,WU,WQ (Fd _),X9];rfl
 .congr 1;rw[Xn,he,WL,WL,WL,WL,WU,WU,Ys _ _ YF,Xd,X9];rfl
section
variable {w:aK} {loc:List aO}
theorem Qv{f:FuncId}{args:List AV}{c:List az}{D b n B k:Nat}{o:Option Nat}{out:List az}{site:Int}{L E L2:SH}{KL:R}(h:fC f args w loc n b c B)(Z:fQ D (dY w loc (ai o k) site n) L E)(h2:eZ o 6 (out.map az.enc) E L2)(S:k=out.length)(h0:o=none->out=[])(Y:out.length=b)(O:b+c.length<2^30)(M:B<2^30)
  (G:∀(u:Option Nat) (j:Int),(u=none->out++c=[])->KL (.tup []) ((D,dY w loc (ai u (out++c).length) j B)::(L2++ab u 6 ((out++c).map az.enc)))):W.callM Tryz.prog f (.ptr D 0 0::args) L KL:=by
 subst S;exact tZ h Z h2 h0 Y O M G
theorem OI(hw:w.cells.length<2^40)(hlo:loc.length<2^40)(bg:Nat)(o:Option Nat)(out:List az)(n m n2:Nat)(S:Int)(s arg:aO)(ix:List ae)(e:ae)(O els:List aa)(G M:List az)(h0:o=none->out=[])(hv:gy w loc e loc.length G)(hB:fC 52 [.lst (O.map aa.enc)] w loc m (out.length+G.length+1) M n2)(hl:out.length+G.length+1+M.length+1<2^30)(hn:n2<2^30){Q:R}
  (fin:∀(E:Option Nat) (u:List az) (D:Int) (L:SH),dD L ((bg,dY w loc (ai E u.length) D n2)::ab E 6 (u.map az.enc))->u=out++(aN (G++[⟨10,loc.length,((out.length+G.length+1+M.length+1:Nat):Int),0,0,0⟩]) n++M++aN [⟨5,(out.length:Int),0,0,0,0⟩] n)->(E=none->u=[])->Q (.tup []) L) :
  dB (.ptr bg 0 0) (.agg (aa.mk 3 S s arg ix e O els).row) ((bg,dY w loc (ai o out.length) n m)::ab o 6 (out.map az.enc)) Q:=by
 have v1:=jw hw hlo hv;have Z:∀(E:Option Nat) (u:List az) (D:Int) (k:Nat) (L:SH),dD L ((bg,dY w loc (ai E k) D n2)::ab E 6 (u.map az.enc))->k=u.length->u=out++(aN (G++[⟨10,loc.length,((out.length+G.length+1+M.length+1:Nat):Int),0,0,0⟩]) n++M++aN [⟨5,(out.length:Int),0,0,0,0⟩] n)->(E=none->u=[])->Q (.tup []) L:=λE u D k L h1 h2 h3 h4=>by subst h2;exact fin E u D L h1 h3 h4
 clear fin;unfold aa.row;refine vw ?_
 repeat' (first|(with_reducible refine zJ (A:=out++G.map (λx=>x.at_ (n:Int))) (i:=az.at_ ⟨10,loc.length,0,0,0,0⟩ n) (B:=M++[az.at_ ⟨5,out.length,0,0,0,0⟩ n]) (j:=az.at_ ⟨10,loc.length,((out.length+G.length+1+M.length+1:Nat):Int),0,0,0⟩ n) YF rfl YF rfl rfl (by simp[az.enc,az.at_];omega) YG rfl rfl (λr_=>?_))|refine sy ?_|refine qQ ?_ (λe_=>by first|(rw[h0 e_];rfl)|(rw[Y e_];rfl)|(cases e_;done)|fail)|((with_reducible refine dR 146 ?_);refine iF ?_;refine iZ v1 (site:=(n:Int)) (next:=(m:Int)) rp rp h0 YC (λo_ Y ks_=>?_))|((with_reducible refine aU 53 ?_);(first|(refine dJ (i:=⟨10,loc.length,0,0,0,0⟩) rp rp YD YH (λb_=>?_))|(refine dJ (i:=⟨5,out.length,0,0,0,0⟩) rp rp YD YH (λb_=>?_))|fail))|((with_reducible refine aU 52 ?_);(refine tZ hB rp rp (λe_=>by cases e_) YH YC hn (λo_ s_ Y=>?_)))|intro)
 exact Z _ _ _ _ _ (.one (.here _) (.slotl .last)) YF (by simp[aN,WU]) nofun
theorem TC(hw:w.cells.length<2^40)(hlo:loc.length<2^40)(bg:Nat)(o:Option Nat)(out:List az)(n m n2:Nat)(Y:Int)(s arg:aO)(ix:List ae)(e:ae)(O:List aa)(G M:List az)(h0:o=none->out=[])(hv:gy w loc e loc.length G)(hB:fC 52 [.lst (O.map aa.enc)] w loc m (out.length+G.length+1) M n2)(hl:out.length+G.length+1+M.length<2^30)(hn:n2<2^30){Q:R}
  (fin:∀(E:Option Nat) (u:List az) (D:Int) (L:SH),dD L ((bg,dY w loc (ai E u.length) D n2)::ab E 6 (u.map az.enc))->u=out++(aN (G++[⟨10,loc.length,((out.length+G.length+1+M.length:Nat):Int),0,0,0⟩]) n++M)->(E=none->u=[])->Q (.tup []) L) :
  dB (.ptr bg 0 0) (.agg (aa.mk 2 Y s arg ix e O []).row) ((bg,dY w loc (ai o out.length) n m)::ab o 6 (out.map az.enc)) Q:=by
 have v1:=jw hw hlo hv;have de:decide (((([]:List aa).length:Nat):Int)=0)=true:=by decide
 have Z:∀(E:Option Nat) (u:List az) (D:Int) (k:Nat) (L:SH),dD L ((bg,dY w loc (ai E k) D n2)::ab E 6 (u.map az.enc))->k=u.length->u=out++(aN (G++[⟨10,loc.length,((out.length+G.length+1+M.length:Nat):Int),0,0,0⟩]) n++M)->(E=none->u=[])->Q (.tup []) L:=λE u D k L h1 h2 h3 h4=>by subst h2;exact fin E u D L h1 h3 h4
 clear fin;unfold aa.row;refine vw ?_
 repeat' (first|(with_reducible refine zJ (A:=out++G.map (λx=>x.at_ (n:Int))) (i:=az.at_ ⟨10,loc.length,0,0,0,0⟩ n) (B:=M) (j:=az.at_ ⟨10,loc.length,((out.length+G.length+1+M.length:Nat):Int),0,0,0⟩ n) YF rfl YF rfl rfl (by simp[az.enc,az.at_];omega) YG rfl rfl (λr_=>?_))|refine sy ?_|refine qQ ?_ (λe_=>by first|(rw[h0 e_];rfl)|(rw[S e_];rfl)|(cases e_;done)|fail)|((with_reducible refine dR 146 ?_);refine iF ?_;refine iZ v1 (site:=(n:Int)) (next:=(m:Int)) rp rp h0 YC (λo_ S ks_=>?_))|((with_reducible refine aU 53 ?_);(refine dJ (i:=⟨10,loc.length,0,0,0,0⟩) rp rp YD YH (λb_=>?_)))|((with_reducible refine aU 52 ?_);(refine tZ hB rp rp (λe_=>by cases e_) YH YC hn (λo_ s_ S=>?_);rcases o_ with _|bq_;(exact absurd (S rfl) YF);skip))|intro)
 exact Z _ _ _ _ _ (.one (.here _) (.slotl .last)) YF (by simp[aN,WU]) nofun
theorem TD(hw:w.cells.length<2^40)(hlo:loc.length<2^40)(bg:Nat)(o:Option Nat)(out:List az)(n m n2 n3:Nat)(line:Int)(s arg:aO)(ix:List ae)(e:ae)(Y:List aa)(y:aa)(Z:List aa)(E G S:List az)(h0:o=none->out=[])(hv:gy w loc e loc.length E)(hB:fC 52 [.lst (Y.map aa.enc)] w loc m (out.length+E.length+1) G n2)(hB2:fC 52 [.lst ((y::Z).map aa.enc)] w loc n2 (out.length+E.length+1+G.length+1) S n3)(hl:out.length+E.length+1+G.length+1+S.length<2^30)(hn:n2<2^30)(hn3:n3<2^30){Q:R}
  (fin:∀(M:Option Nat) (u:List az) (D:Int) (L:SH),dD L ((bg,dY w loc (ai M u.length) D n3)::ab M 6 (u.map az.enc))->u=out++(aN (E++[⟨10,loc.length,((out.length+E.length+1+G.length+1:Nat):Int),0,0,0⟩]) n++G++aN [⟨5,((out.length+E.length+1+G.length+1+S.length:Nat):Int),0,0,0,0⟩] n++S)->(M=none->u=[])->Q (.tup []) L) :
  dB (.ptr bg 0 0) (.agg (aa.mk 2 line s arg ix e Y (y::Z)).row) ((bg,dY w loc (ai o out.length) n m)::ab o 6 (out.map az.enc)) Q:=by
 have v1:=jw hw hlo hv;have de:decide ((((y::Z).length:Nat):Int)=0)=false:=by simp;omega
 have fin2:∀(M:Option Nat) (u:List az) (D:Int) (k:Nat) (L:SH),dD L ((bg,dY w loc (ai M k) D n3)::ab M 6 (u.map az.enc))->k=u.length->u=out++(aN (E++[⟨10,loc.length,((out.length+E.length+1+G.length+1:Nat):Int),0,0,0⟩]) n++G++aN [⟨5,((out.length+E.length+1+G.length+1+S.length:Nat):Int),0,0,0,0⟩] n++S)->(M=none->u=[])->Q (.tup []) L:=λM u D k L h1 h2 h3 h4=>by subst h2;exact fin M u D L h1 h3 h4
 clear fin;unfold aa.row;refine vw ?_
 repeat' (first|(with_reducible refine zJ (A:=out++E.map (λx=>x.at_ (n:Int))) (i:=az.at_ ⟨10,loc.length,0,0,0,0⟩ n) (B:=G++[az.at_ ⟨5,0,0,0,0,0⟩ n]) (j:=az.at_ ⟨10,loc.length,((out.length+E.length+1+G.length+1:Nat):Int),0,0,0⟩ n) YF rfl YF rfl rfl (by simp[az.enc,az.at_];omega) YG rfl rfl (λr_=>?_))|(with_reducible refine zJ (A:=out++E.map (λx=>x.at_ (n:Int))++[az.at_ ⟨10,loc.length,((out.length+E.length+1+G.length+1:Nat):Int),0,0,0⟩ n]++G) (i:=az.at_ ⟨5,0,0,0,0,0⟩ n) (B:=S) (j:=az.at_ ⟨5,((out.length+E.length+1+G.length+1+S.length:Nat):Int),0,0,0,0⟩ n) YF rfl YF rfl rfl (by simp[az.enc,az.at_];omega) YG rfl rfl (λr_=>?_))|refine sy ?_|refine qQ ?_ (λe_=>by first|(rw[h0 e_];rfl)|(rw[O e_];rfl)|(cases e_;done)|fail)|((with_reducible refine dR 146 ?_);refine iF ?_;refine iZ v1 (site:=(n:Int)) (next:=(m:Int)) rp rp h0 YC (λo_ O ks_=>?_))|((with_reducible refine aU 53 ?_);(first|(refine dJ (i:=⟨10,loc.length,0,0,0,0⟩) rp rp YD YH (λb_=>?_))|(refine dJ (i:=⟨5,0,0,0,0,0⟩) rp rp YD YH (λb_=>?_))|fail))|((with_reducible refine aU 52 ?_);(first|(refine tZ hB rp rp (λe_=>by cases e_) YH YC hn (λo_ s_ O=>?_))|(refine Qv hB2 rp rp YF (λe_=>by cases e_) YH YC hn3 (λo_ s_ O=>?_);rcases o_ with _|bq_;(exact absurd (O rfl) YF);skip)|fail))|intro)
 exact fin2 _ _ _ _ _ (.one (.here _) (.slotl .last)) YF (by simp[aN,WU]) nofun
end
end
section
section
variable {w:aK} {loc:List aO}
theorem i8:(∀{x n b c j},JA w loc x n b c j->n<j)/\∀{l n b c j},StsC w loc l n b c j->n<=j:=by
 refine FN (M1:=λx n b c j=>n<j) (M2:=λl n b c j=>n<=j) ?_ ?_ ?_ ?_ ?_ ?_ ?_ ?_ ?_
 all_goals (intros;omega)
inductive sY (w:aK) (loc:List aO):List aa->Nat->Nat->List az->Nat->Prop where
 |nil (n b:Nat):sY w loc [] n b [] n
 |cons {x:aa} {l:List aa} {c1 c2:List az} {n b n1 n2:Nat}:fC 100 [.agg x.row] w loc n b c1 n1->n<=n1->sY w loc l n1 (b+c1.length) c2 n2->sY w loc (x::l) n b (c1++c2) n2
theorem sY.mono{l:List aa}{n b j:Nat}{c:List az}(h:sY w loc l n b c j):n<=j:=by
 induction h with
 |nil=>exact Fd _
 |cons _ B _ u=>omega
theorem nr{l:List aa}{n b Z:Nat}{c:List az}(h:sY w loc l n b c Z)(hll:l.length<2^40):fC 52 [.lst (l.map aa.enc)] w loc n b c Z:=by
 intro bg o B Y h0 hb hl hn;refine ac.fz (tY _ _ _ _ ?_);refine vw ?_;generalize hQ:(λ(v:AV) (L:SH)=>∃v2 L2,aE [v] L [v2] L2/\∃(v:AV) (G:Option Nat) (site':Int),_)=Q;have fin:=dQ hQ;clear hQ;refine bF l.length (λi (q:Option Nat×Int×List az×Nat)=>([.ptr bg 0 0,.lst (l.map aa.enc),.YJ i],(bg,dY w loc (ai q.1 (B++q.2.2.1).length) q.2.1 q.2.2.2)::ab q.1 6 ((B++q.2.2.1).map az.enc)))
  (λi q=>(q.1=none->B++q.2.2.1=[])/\∃u,c=q.2.2.1++u/\sY w loc (l.drop i) q.2.2.2 (b+q.2.2.1.length) u Z) (o,Y,[],n) ⟨by simpa using h0,c,rfl,by simpa using h⟩ (by simpa using aE.refl _ _) ?_
 rintro i ⟨o1,site1,M,m⟩ hi ⟨hG,u,hc,D⟩;dsimp only at hG hc D ⊢;refine vw ?_;generalize hnx:(λ(vs':List AV) (L':SH)=>∃j G,i<j/\j<=l.length/\_)=nx;rcases Nat.lt_or_ge i l.length with S|S
 .have hd:=a8 S;have hi1:=ax S YC;have hx:=DI S;rw[<-List.getElem_cons_drop S]at D;have hmono:=D.mono;obtain⟨E,c2,O,hK,hle,hC,rfl⟩:∃E c2 O,fC 100 [.agg l[i].row] w loc m (b+M.length) E O/\m<=O/\sY w loc (l.drop (i+1)) O (b+M.length+E.length) c2 Z/\u=E++c2:=by
   cases D with
   |cons h1 h2 h3=>exact⟨_,_,_,h1,h2,h3,rfl⟩
  have hm1:=hC.mono;subst hc;simp only[LT]at hl;have hn:∀(G:Option Nat) (s':Int),(G=none->B++M++E=[])->nx [.ptr bg 0 0,.lst (l.map aa.enc),.YJ ((i+1:Nat):Int)] ((bg,dY w loc (ai G (B++M++E).length) s' O)::([]++ab G 6 ((B++M++E).map az.enc))):=by intro G s' h;subst hnx;refine⟨i+1,(G,s',M++E,O),YC,YC,⟨by simpa[WU]using h,c2,YF,by simpa[XG]using hC⟩,?_⟩;rw[WU];exact .refl _ _
  clear hnx;generalize l[i]=x at *
  repeat' (first|refine sy ?_|((with_reducible refine aU 100 ?_);(refine tZ hK rp rp hG YH YC YC (λo_ s_ ho_=>?_)))|refine s2 ?_ ?_|intro)
  exact hn o_ s_ ho_
 .have hd:=bq S;have e:i=l.length:=by omega
  subst e;rw[List.drop_length]at D;obtain⟨rfl,rfl⟩:u=[]/\m=Z:=by cases D;exact⟨rfl,rfl⟩
  rw[Xr]at hc;subst hc
  repeat' (first|refine sy ?_|refine s2 ?_ ?_|intro)
  exact fin _ _ _ _ (.one (.here _) (.slotl .last)) rfl hG
theorem TE(hw:w.cells.length<2^40)(M:loc.length<2^40)(j:Int)(s D:aO)(O:List ae)(e:ae)(u B:List aa){c:List az}{n b:Nat}(ha:FL w loc (.mk 1 j s D O e u B) c):
  fC 100 [.agg (aa.mk 1 j s D O e u B).row] w loc n b (aN c n) (n+1):=by
 intro bg o out site h0 hb hl hn;refine ac.fz (aX _ _ _ _ ?_);unfold aa.row;refine vw ?_;generalize S:(λ(v:AV) (L:SH)=>∃Y L2,aE [v] L [Y] L2/\∃(v:AV) (o':Option Nat) (E:Int),_)=Q;have fin:=dQ S;clear S;have e1:IntKind.i64.wrap ((n:Int)+1)=((n+1:Nat):Int):=by rw[WY _ YC];omega
 have Z:=TB hw M ha;simp only[aN,Xd]at hl
 repeat' (first|refine ep (dw ?_ e1)|refine sy ?_|((with_reducible refine aU 142 ?_);(refine iZ Z (site:=(n:Int)) (next:=((n+1:Nat):Int)) rp rp h0 YC (λo_ G=>?_)))|intro)
 exact fin _ _ _ _ (.one (.here _) (.slotl .last)) (by simp[aN,WU]) G
theorem Qw(hw:w.conds.length<2^40)(hf:w.futures.length<2^40)(ht:w.threads.length<2^40)(Y:loc.length<2^40)(j:Int)(s G:aO)(S:List ae)(e:ae)(u E:List aa){n b:Nat}:
  fC 100 [.agg (aa.mk 9 j s G S e u E).row] w loc n b (aN [⟨21,fL w.conds s,0,0,0,0⟩] n) (n+1):=by
 intro bg o D site h0 hb Z hn;refine ac.fz (aX _ _ _ _ ?_);unfold aa.row;refine vw ?_;generalize M:(λ(v:AV) (L:SH)=>∃O L2,aE [v] L [O] L2/\∃(v:AV) (o':Option Nat) (B:Int),_)=Q;have fin:=dQ M;clear M;have e1:IntKind.i64.wrap ((n:Int)+1)=((n+1:Nat):Int):=by rw[WY _ YC];omega
 simp only[aN,Xd,WO,WT]at Z
 repeat' (first|refine ep (dw ?_ e1)|refine sy ?_|((with_reducible refine aU 145 ?_);(refine gq (FM bg w loc (ai o D.length) n ((n+1:Nat):Int) s YC) rp ?_;rintro _ _ ⟨rfl,rfl⟩;dsimp only[List.cons_append,List.nil_append]))|((with_reducible refine aU 53 ?_);(refine dJ (i:=⟨21,fL w.conds s,0,0,0,0⟩) (site:=(n:Int)) (next:=((n+1:Nat):Int)) rp rp YD YH (λb_=>?_)))|intro)
 exact fin _ _ _ _ (.one (.here _) (.slotl .last)) (by simp[aN,WU]) nofun
theorem OJ(hw:w.conds.length<2^40)(hf:w.futures.length<2^40)(ht:w.threads.length<2^40)(Y:loc.length<2^40)(j:Int)(s G:aO)(S:List ae)(e:ae)(u E:List aa){n b:Nat}:
  fC 100 [.agg (aa.mk 10 j s G S e u E).row] w loc n b (aN [⟨22,fL w.conds s,0,0,0,0⟩] n) (n+1):=by
 intro bg o D site h0 hb Z hn;refine ac.fz (aX _ _ _ _ ?_);unfold aa.row;refine vw ?_;generalize M:(λ(v:AV) (L:SH)=>∃O L2,aE [v] L [O] L2/\∃(v:AV) (o':Option Nat) (B:Int),_)=Q;have fin:=dQ M;clear M;have e1:IntKind.i64.wrap ((n:Int)+1)=((n+1:Nat):Int):=by rw[WY _ YC];omega
 simp only[aN,Xd,WO,WT]at Z
 repeat' (first|refine ep (dw ?_ e1)|refine sy ?_|((with_reducible refine aU 145 ?_);(refine gq (FM bg w loc (ai o D.length) n ((n+1:Nat):Int) s YC) rp ?_;rintro _ _ ⟨rfl,rfl⟩;dsimp only[List.cons_append,List.nil_append]))|((with_reducible refine aU 53 ?_);(refine dJ (i:=⟨22,fL w.conds s,0,0,0,0⟩) (site:=(n:Int)) (next:=((n+1:Nat):Int)) rp rp YD YH (λb_=>?_)))|intro)
 exact fin _ _ _ _ (.one (.here _) (.slotl .last)) (by simp[aN,WU]) nofun
theorem OK(hw:w.conds.length<2^40)(hf:w.futures.length<2^40)(ht:w.threads.length<2^40)(Y:loc.length<2^40)(j:Int)(s G:aO)(S:List ae)(e:ae)(u E:List aa){n b:Nat}:
  fC 100 [.agg (aa.mk 11 j s G S e u E).row] w loc n b (aN [⟨23,fL w.conds s,0,0,0,0⟩] n) (n+1):=by
 intro bg o D site h0 hb Z hn;refine ac.fz (aX _ _ _ _ ?_);unfold aa.row;refine vw ?_;generalize M:(λ(v:AV) (L:SH)=>∃O L2,aE [v] L [O] L2/\∃(v:AV) (o':Option Nat) (B:Int),_)=Q;have fin:=dQ M;clear M;have e1:IntKind.i64.wrap ((n:Int)+1)=((n+1:Nat):Int):=by rw[WY _ YC];omega
 simp only[aN,Xd,WO,WT]at Z
 repeat' (first|refine ep (dw ?_ e1)|refine sy ?_|((with_reducible refine aU 145 ?_);(refine gq (FM bg w loc (ai o D.length) n ((n+1:Nat):Int) s YC) rp ?_;rintro _ _ ⟨rfl,rfl⟩;dsimp only[List.cons_append,List.nil_append]))|((with_reducible refine aU 53 ?_);(refine dJ (i:=⟨23,fL w.conds s,0,0,0,0⟩) (site:=(n:Int)) (next:=((n+1:Nat):Int)) rp rp YD YH (λb_=>?_)))|intro)
 exact fin _ _ _ _ (.one (.here _) (.slotl .last)) (by simp[aN,WU]) nofun
theorem OL(hw:w.conds.length<2^40)(hf:w.futures.length<2^40)(ht:w.threads.length<2^40)(Z:loc.length<2^40)(j:Int)(s E:aO)(Y:List ae)(e:ae)(u D:List aa){n b:Nat}:
  fC 100 [.agg (aa.mk 12 j s E Y e u D).row] w loc n b (aN [⟨24,jx w.threads s,0,0,0,0⟩] n) (n+1):=by
 intro bg o O site h0 hb hl hn;refine ac.fz (aX _ _ _ _ ?_);unfold aa.row;refine vw ?_;generalize G:(λ(v:AV) (L:SH)=>∃M L2,aE [v] L [M] L2/\∃(v:AV) (o':Option Nat) (B:Int),_)=Q;have fin:=dQ G;clear G;have e1:IntKind.i64.wrap ((n:Int)+1)=((n+1:Nat):Int):=by rw[WY _ YC];omega
 simp only[aN,Xd,WO,WT]at hl
 repeat' (first|refine ep (dw ?_ e1)|refine sy ?_|(refine pf 96 ?_;refine pm (oV w.threads s YC) ?_)|((with_reducible refine dR 53 ?_);refine iF ?_;refine dJ (i:=⟨24,jx w.threads s,0,0,0,0⟩) (site:=(n:Int)) (next:=((n+1:Nat):Int)) rp rp YD YH (λb_ S=>?_))|intro)
 exact fin _ _ _ _ (.one (.here _) (.slotl .last)) (by simp[aN,WU]) nofun
theorem OM(hw:w.conds.length<2^40)(hf:w.futures.length<2^40)(ht:w.threads.length<2^40)(Z:loc.length<2^40)(j:Int)(s E:aO)(Y:List ae)(e:ae)(u D:List aa){n b:Nat}:
  fC 100 [.agg (aa.mk 13 j s E Y e u D).row] w loc n b (aN [⟨25,jx w.threads s,0,0,0,0⟩] n) (n+1):=by
 intro bg o O site h0 hb hl hn;refine ac.fz (aX _ _ _ _ ?_);unfold aa.row;refine vw ?_;generalize G:(λ(v:AV) (L:SH)=>∃M L2,aE [v] L [M] L2/\∃(v:AV) (o':Option Nat) (B:Int),_)=Q;have fin:=dQ G;clear G;have e1:IntKind.i64.wrap ((n:Int)+1)=((n+1:Nat):Int):=by rw[WY _ YC];omega
 simp only[aN,Xd,WO,WT]at hl
 repeat' (first|refine ep (dw ?_ e1)|refine sy ?_|(refine pf 96 ?_;refine pm (oV w.threads s YC) ?_)|((with_reducible refine dR 53 ?_);refine iF ?_;refine dJ (i:=⟨25,jx w.threads s,0,0,0,0⟩) (site:=(n:Int)) (next:=((n+1:Nat):Int)) rp rp YD YH (λb_ S=>?_))|intro)
 exact fin _ _ _ _ (.one (.here _) (.slotl .last)) (by simp[aN,WU]) nofun
theorem ON(hw:w.conds.length<2^40)(hf:w.futures.length<2^40)(ht:w.threads.length<2^40)(Z:loc.length<2^40)(u:Int)(s j:aO)(Y:List ae)(e:ae)(B E:List aa){n b:Nat}:
  fC 100 [.agg (aa.mk 15 u s j Y e B E).row] w loc n b (aN [⟨27,jx loc s,jx w.futures j,0,0,0⟩] n) (n+1):=by
 intro bg o O site h0 hb hl hn;refine ac.fz (aX _ _ _ _ ?_);unfold aa.row;refine vw ?_;generalize G:(λ(v:AV) (L:SH)=>∃M L2,aE [v] L [M] L2/\∃(v:AV) (o':Option Nat) (D:Int),_)=Q;have fin:=dQ G;clear G;have e1:IntKind.i64.wrap ((n:Int)+1)=((n+1:Nat):Int):=by rw[WY _ YC];omega
 simp only[aN,Xd,WO,WT]at hl
 repeat' (first|refine ep (dw ?_ e1)|refine sy ?_|(refine pf 96 ?_;refine pm (oV loc s YC) ?_)|(refine pf 96 ?_;refine pm (oV w.futures j YC) ?_)|((with_reducible refine dR 53 ?_);refine iF ?_;refine dJ (i:=⟨27,jx loc s,jx w.futures j,0,0,0⟩) (site:=(n:Int)) (next:=((n+1:Nat):Int)) rp rp YD YH (λb_ S=>?_))|intro)
 exact fin _ _ _ _ (.one (.here _) (.slotl .last)) (by simp[aN,WU]) nofun
theorem TF(hw:w.cells.length<2^40)(D:loc.length<2^40)(hf:w.futures.length<2^40)(j:Int)(s G:aO)(ix:List ae)(e:ae)(u E:List aa){O:List az}{n b:Nat}(hv:gy w loc e loc.length O):
  fC 100 [.agg (aa.mk 14 j s G ix e u E).row] w loc n b (aN (O++[⟨26,jx w.futures s,loc.length,0,0,0⟩]) n) (n+1):=by
 intro bg o Z site h0 hb hl hn;refine ac.fz (aX _ _ _ _ ?_);unfold aa.row;refine vw ?_;generalize M:(λ(v:AV) (L:SH)=>∃S L2,aE [v] L [S] L2/\∃(v:AV) (o':Option Nat) (B:Int),_)=Q;have fin:=dQ M;clear M;have e1:IntKind.i64.wrap ((n:Int)+1)=((n+1:Nat):Int):=by rw[WY _ YC];omega
 have Y:=jw hw D hv;simp only[aN,Xd,LT,WO,WT]at hl
 repeat' (first|refine ep (dw ?_ e1)|refine sy ?_|((with_reducible refine aU 146 ?_);(refine iZ Y (site:=(n:Int)) (next:=((n+1:Nat):Int)) rp rp h0 YC (λo_ ho_=>?_)))|(refine pf 96 ?_;refine pm (oV w.futures s YC) ?_)|((with_reducible refine dR 53 ?_);refine iF ?_;refine dJ (i:=⟨26,jx w.futures s,loc.length,0,0,0⟩) (site:=(n:Int)) (next:=((n+1:Nat):Int)) rp rp YD YH (λb_ ks_=>?_))|intro)
 exact fin _ _ _ _ (.one (.here _) (.slotl .last)) (by simp[aN,WU]) nofun
theorem OO(hk:w.locks.length<2^40)(u:Int)(s D:aO)(Z:List ae)(e:ae)(j B:List aa){S:List az}{n b E:Nat}(hB:fC 52 [.lst (j.map aa.enc)] w loc (n+1) (b+1) S E)(hm:n+1<=E):
  fC 100 [.agg (aa.mk 4 u s D Z e j B).row] w loc n b (aN [⟨11,(cu w.locks s),0,0,0,0⟩] n++S++aN [⟨12,(cu w.locks s),0,0,0,0⟩] n) E:=by
 intro bg o M Y h0 hb hl hn;refine ac.fz (aX _ _ _ _ ?_);unfold aa.row;refine vw ?_;generalize hQ:(λ(v:AV) (L:SH)=>∃v2 L2,aE [v] L [v2] L2/\∃(v:AV) (o':Option Nat) (G:Int),_)=Q;have fin:=dQ hQ;clear hQ;have e1:IntKind.i64.wrap ((n:Int)+1)=((n+1:Nat):Int):=by rw[WY _ YC];omega
 simp only[aN,Xd,LT,WO,WT]at hl
 repeat' (first|refine ep (dw ?_ e1)|refine sy ?_|(refine pf 98 ?_;refine pm (xD w.locks s YC) ?_)|((with_reducible refine dR 144 ?_);refine iF ?_;refine dK (nq bg o M n (n+1) E 4 u s D Z e j B 11 12 (cu w.locks s) S h0 (by rw[hb];exact hB) YC hn) ?_;rintro _ _ ⟨v_,o_,s_,rfl,rfl,O,rfl⟩ ks_)|intro)
 exact fin _ _ _ _ (.one (.here _) (.slotl .last)) rfl O
theorem OP(hk:w.locks.length<2^40)(u:Int)(s D:aO)(Z:List ae)(e:ae)(j B:List aa){S:List az}{n b E:Nat}(hB:fC 52 [.lst (j.map aa.enc)] w loc (n+1) (b+1) S E)(hm:n+1<=E):
  fC 100 [.agg (aa.mk 5 u s D Z e j B).row] w loc n b (aN [⟨13,(cu w.locks s),0,0,0,0⟩] n++S++aN [⟨14,(cu w.locks s),0,0,0,0⟩] n) E:=by
 intro bg o M Y h0 hb hl hn;refine ac.fz (aX _ _ _ _ ?_);unfold aa.row;refine vw ?_;generalize hQ:(λ(v:AV) (L:SH)=>∃v2 L2,aE [v] L [v2] L2/\∃(v:AV) (o':Option Nat) (G:Int),_)=Q;have fin:=dQ hQ;clear hQ;have e1:IntKind.i64.wrap ((n:Int)+1)=((n+1:Nat):Int):=by rw[WY _ YC];omega
 simp only[aN,Xd,LT,WO,WT]at hl
 repeat' (first|refine ep (dw ?_ e1)|refine sy ?_|(refine pf 98 ?_;refine pm (xD w.locks s YC) ?_)|((with_reducible refine dR 144 ?_);refine iF ?_;refine dK (nq bg o M n (n+1) E 5 u s D Z e j B 13 14 (cu w.locks s) S h0 (by rw[hb];exact hB) YC hn) ?_;rintro _ _ ⟨v_,o_,s_,rfl,rfl,O,rfl⟩ ks_)|intro)
 exact fin _ _ _ _ (.one (.here _) (.slotl .last)) rfl O
theorem OQ(hk:w.locks.length<2^40)(u:Int)(s D:aO)(Z:List ae)(e:ae)(j B:List aa){S:List az}{n b E:Nat}(hB:fC 52 [.lst (j.map aa.enc)] w loc (n+1) (b+1) S E)(hm:n+1<=E):
  fC 100 [.agg (aa.mk 6 u s D Z e j B).row] w loc n b (aN [⟨15,(cu w.locks s),0,0,0,0⟩] n++S++aN [⟨16,(cu w.locks s),0,0,0,0⟩] n) E:=by
 intro bg o M Y h0 hb hl hn;refine ac.fz (aX _ _ _ _ ?_);unfold aa.row;refine vw ?_;generalize hQ:(λ(v:AV) (L:SH)=>∃v2 L2,aE [v] L [v2] L2/\∃(v:AV) (o':Option Nat) (G:Int),_)=Q;have fin:=dQ hQ;clear hQ;have e1:IntKind.i64.wrap ((n:Int)+1)=((n+1:Nat):Int):=by rw[WY _ YC];omega
 simp only[aN,Xd,LT,WO,WT]at hl
 repeat' (first|refine ep (dw ?_ e1)|refine sy ?_|(refine pf 98 ?_;refine pm (xD w.locks s YC) ?_)|((with_reducible refine dR 144 ?_);refine iF ?_;refine dK (nq bg o M n (n+1) E 6 u s D Z e j B 15 16 (cu w.locks s) S h0 (by rw[hb];exact hB) YC hn) ?_;rintro _ _ ⟨v_,o_,s_,rfl,rfl,O,rfl⟩ ks_)|intro)
 exact fin _ _ _ _ (.one (.here _) (.slotl .last)) rfl O
theorem OR(hk:w.locks.length<2^40)(u:Int)(s D:aO)(Z:List ae)(e:ae)(j B:List aa){S:List az}{n b E:Nat}(hB:fC 52 [.lst (j.map aa.enc)] w loc (n+1) (b+1) S E)(hm:n+1<=E):
  fC 100 [.agg (aa.mk 7 u s D Z e j B).row] w loc n b (aN [⟨17,0,0,0,0,0⟩] n++S++aN [⟨18,0,0,0,0,0⟩] n) E:=by
 intro bg o M Y h0 hb hl hn;refine ac.fz (aX _ _ _ _ ?_);unfold aa.row;refine vw ?_;generalize hQ:(λ(v:AV) (L:SH)=>∃v2 L2,aE [v] L [v2] L2/\∃(v:AV) (o':Option Nat) (G:Int),_)=Q;have fin:=dQ hQ;clear hQ;have e1:IntKind.i64.wrap ((n:Int)+1)=((n+1:Nat):Int):=by rw[WY _ YC];omega
 simp only[aN,Xd,LT,WO,WT]at hl
 repeat' (first|refine ep (dw ?_ e1)|refine sy ?_|((with_reducible refine aU 144 ?_);(refine dK (nq bg o M n (n+1) E 7 u s D Z e j B 17 18 0 S h0 (by rw[hb];exact hB) YC hn) ?_;rintro _ _ ⟨v_,o_,s_,rfl,rfl,O,rfl⟩))|intro)
 exact fin _ _ _ _ (.one (.here _) (.slotl .last)) rfl O
theorem OS(hk:w.locks.length<2^40)(u:Int)(s D:aO)(Z:List ae)(e:ae)(j B:List aa){S:List az}{n b E:Nat}(hB:fC 52 [.lst (j.map aa.enc)] w loc (n+1) (b+1) S E)(hm:n+1<=E):
  fC 100 [.agg (aa.mk 8 u s D Z e j B).row] w loc n b (aN [⟨19,0,0,0,0,0⟩] n++S++aN [⟨20,0,0,0,0,0⟩] n) E:=by
 intro bg o M Y h0 hb hl hn;refine ac.fz (aX _ _ _ _ ?_);unfold aa.row;refine vw ?_;generalize hQ:(λ(v:AV) (L:SH)=>∃v2 L2,aE [v] L [v2] L2/\∃(v:AV) (o':Option Nat) (G:Int),_)=Q;have fin:=dQ hQ;clear hQ;have e1:IntKind.i64.wrap ((n:Int)+1)=((n+1:Nat):Int):=by rw[WY _ YC];omega
 simp only[aN,Xd,LT,WO,WT]at hl
 repeat' (first|refine ep (dw ?_ e1)|refine sy ?_|((with_reducible refine aU 144 ?_);(refine dK (nq bg o M n (n+1) E 8 u s D Z e j B 19 20 0 S h0 (by rw[hb];exact hB) YC hn) ?_;rintro _ _ ⟨v_,o_,s_,rfl,rfl,O,rfl⟩))|intro)
 exact fin _ _ _ _ (.one (.here _) (.slotl .last)) rfl O
theorem OT{E:Nat}{x:AV}{out:List az}{c:List az}{G:Nat}{L:SH}
  (h:∀(Q:R),(∀(D:Option Nat) (B:List az) (j:Int) (L:SH),dD L ((E,dY w loc (ai D B.length) j G)::ab D 6 (B.map az.enc))->B=out++c->(D=none->B=[])->Q (.tup []) L)->dB (.ptr E 0 0) x L Q) :
  ac Tryz.prog 143 [.ptr E 0 0,x] L λu K=>∃(v:AV) (D:Option Nat) (j:Int),u=v/\v=.tup []/\(D=none->out++c=[])/\K=(E,dY w loc (ai D (out++c).length) j G)::ab D 6 ((out++c).map az.enc):=by
 refine ac.fz (pp _ _ _ _ ?_);generalize O:(λ(v:AV) (L:SH)=>∃M S,aE [v] L [M] S/\∃(v:AV) (D:Option Nat) (j:Int),_)=Q;exact h Q (dQ O)
theorem OU(hw:w.cells.length<2^40)(hlo:loc.length<2^40)(u:Int)(s G:aO)(ix:List ae)(e:ae)(j:List aa)(D:List aa){E O:List az}{n b M:Nat}(hv:gy w loc e loc.length E)(hB:fC 52 [.lst (j.map aa.enc)] w loc (n+1) (b+E.length+1) O M)(hm:n+1<=M):
  fC 100 [.agg (aa.mk 3 u s G ix e j D).row] w loc n b (aN (E++[⟨10,loc.length,((b+E.length+1+O.length+1:Nat):Int),0,0,0⟩]) n++O++aN [⟨5,(b:Int),0,0,0,0⟩] n) M:=by
 intro bg o Y site h0 hb hl hn;refine ac.fz (aX _ _ _ _ ?_);unfold aa.row;refine vw ?_;generalize hQ:(λ(v:AV) (L:SH)=>∃v2 L2,aE [v] L [v2] L2/\∃(v:AV) (o':Option Nat) (S:Int),_)=Q;have fin:=dQ hQ;clear hQ;have e1:IntKind.i64.wrap ((n:Int)+1)=((n+1:Nat):Int):=by rw[WY _ YC];omega
 simp only[aN,Xd,LT,WO,WT]at hl;subst hb
 repeat' (first|refine ep (dw ?_ e1)|refine sy ?_|((with_reducible refine aU 143 ?_);(refine dK (OT (λQ_ B=>OI hw hlo bg o Y n (n+1) M u s G ix e j D E O h0 hv hB YC hn B)) ?_;rintro _ _ ⟨v_,o_,s_,rfl,rfl,Z,rfl⟩))|intro)
 exact fin _ _ _ _ (.one (.here _) (.slotl .last)) rfl Z
theorem TG(hw:w.cells.length<2^40)(Z:loc.length<2^40)(u:Int)(s E:aO)(ix:List ae)(e:ae)(j:List aa){D M:List az}{n b G:Nat}(hv:gy w loc e loc.length D)(hB:fC 52 [.lst (j.map aa.enc)] w loc (n+1) (b+D.length+1) M G)(hm:n+1<=G):
  fC 100 [.agg (aa.mk 2 u s E ix e j []).row] w loc n b (aN (D++[⟨10,loc.length,((b+D.length+1+M.length:Nat):Int),0,0,0⟩]) n++M) G:=by
 intro bg o S site h0 hb hl hn;refine ac.fz (aX _ _ _ _ ?_);unfold aa.row;refine vw ?_;generalize hQ:(λ(v:AV) (L:SH)=>∃v2 L2,aE [v] L [v2] L2/\∃(v:AV) (o':Option Nat) (O:Int),_)=Q;have fin:=dQ hQ;clear hQ;have e1:IntKind.i64.wrap ((n:Int)+1)=((n+1:Nat):Int):=by rw[WY _ YC];omega
 simp only[aN,Xd,LT,WO,WT]at hl;subst hb
 repeat' (first|refine ep (dw ?_ e1)|refine sy ?_|((with_reducible refine aU 143 ?_);(refine dK (OT (λQ_ B=>TC hw Z bg o S n (n+1) G u s E ix e j D M h0 hv hB YC hn B)) ?_;rintro _ _ ⟨v_,o_,s_,rfl,rfl,Y,rfl⟩))|intro)
 exact fin _ _ _ _ (.one (.here _) (.slotl .last)) rfl Y
theorem TH(hw:w.cells.length<2^40)(hlo:loc.length<2^40)(u:Int)(s O:aO)(ix:List ae)(e:ae)(j:List aa)(y:aa)(B:List aa){D E S:List az}{n b G n3:Nat}(hv:gy w loc e loc.length D)(hB:fC 52 [.lst (j.map aa.enc)] w loc (n+1) (b+D.length+1) E G)(hm:n+1<=G)(hB2:fC 52 [.lst ((y::B).map aa.enc)] w loc G (b+D.length+1+E.length+1) S n3)(hn2:G<=n3):
  fC 100 [.agg (aa.mk 2 u s O ix e j (y::B)).row] w loc n b (aN (D++[⟨10,loc.length,((b+D.length+1+E.length+1:Nat):Int),0,0,0⟩]) n++E++aN [⟨5,((b+D.length+1+E.length+1+S.length:Nat):Int),0,0,0,0⟩] n++S) n3:=by
 intro bg o Z site h0 hb hl hn;refine ac.fz (aX _ _ _ _ ?_);unfold aa.row;refine vw ?_;generalize hQ:(λ(v:AV) (L:SH)=>∃v2 L2,aE [v] L [v2] L2/\∃(v:AV) (o':Option Nat) (Y:Int),_)=Q;have fin:=dQ hQ;clear hQ;have e1:IntKind.i64.wrap ((n:Int)+1)=((n+1:Nat):Int):=by rw[WY _ YC];omega
 simp only[aN,Xd,LT,WO,WT]at hl;subst hb
 repeat' (first|refine ep (dw ?_ e1)|refine sy ?_|((with_reducible refine aU 143 ?_);(refine dK (OT (λQ_ M=>TD hw hlo bg o Z n (n+1) G n3 u s O ix e j y B D E S h0 hv hB hB2 YC YC hn M)) ?_;rintro _ _ ⟨v_,o_,s_,rfl,rfl,ho_,rfl⟩))|intro)
 exact fin _ _ _ _ (.one (.here _) (.slotl .last)) rfl ho_
structure JB(w:aK)(loc:List aO):Prop where
 cells:w.cells.length<2^40
 locks:w.locks.length<2^40
 conds:w.conds.length<2^40
 futs:w.futures.length<2^40
 thr:w.threads.length<2^40
 loc:loc.length<2^40
mutual
def aa.short:aa->Prop
 |.mk _ _ _ _ _ _ body els=>aa.shorts body/\body.length<2^40/\aa.shorts els/\els.length<2^40
def aa.shorts:List aa->Prop
 |[]=>True
 |x::l=>x.short/\aa.shorts l
end
mutual
theorem aa.short_wt:∀x:aa,x.wt<2^40->x.short
 | .mk a b c d e f body els=>λh=>by
  have u:=aa.wts_len body;have j:=aa.wts_len els
  simp only[aa.wt]at h;exact⟨aa.shorts_wt body YC,YC,aa.shorts_wt els YC,YC⟩
theorem aa.shorts_wt:∀l:List aa,aa.wts l<2^40->aa.shorts l
 |[]=>λ_=>trivial
 |x::l=>λh=>by simp only[aa.wts]at h;exact⟨aa.short_wt x YC,aa.shorts_wt l YC⟩
end
theorem OV(O:JB w loc):(∀{x n b c M},JA w loc x n b c M->x.short->fC 100 [.agg x.row] w loc n b c M)/\∀{l n b c M},StsC w loc l n b c M->aa.shorts l->sY w loc l n b c M:=by
 obtain⟨h1,h2,h3,h4,h5,S⟩:=O;refine FN (M1:=λx n b c M=>x.short->fC 100 [.agg x.row] w loc n b c M) (M2:=λl n b c M=>aa.shorts l->sY w loc l n b c M) ?_ ?_ ?_ ?_ ?_ ?_ ?_ ?_ ?_
 .intro j s B E e u D c n b ha _;exact TE h1 S j s B E e u D ha
 .intro j s B E e u ce cb n b M hv O Z G;exact TG h1 S j s B E e u hv (nr (Z G.1) G.2.1) (i8.2 O)
 .intro j s B E e u y D ce cb cl n b M n3 hv O hs2 Z Y G;exact TH h1 S j s B E e u y D hv (nr (Z G.1) G.2.1) (i8.2 O) (nr (Y G.2.2.1) G.2.2.2) (i8.2 hs2)
 .intro j s B E e u D ce cb n b M hv O Z G;exact OU h1 S j s B E e u D hv (nr (Z G.1) G.2.1) (i8.2 O)
 .intro op j s B E e u D f l ob cb n b M ha O Z G;have hB:=nr (Z G.1) G.2.1;unfold Ia at ha
  repeat' split at ha
  all_goals first|(exfalso;cases ha;done)|(rename_i hop;subst hop;cases ha)
  .exact OO h2 j s B E e u D hB (i8.2 O)
  .exact OP h2 j s B E e u D hB (i8.2 O)
  .exact OQ h2 j s B E e u D hB (i8.2 O)
  .exact OR h2 j s B E e u D hB (i8.2 O)
  .exact OS h2 j s B E e u D hB (i8.2 O)
 .intro op j s B E e u D i n b ho _;unfold OH at ho
  repeat' split at ho
  all_goals first|(exfalso;cases ho;done)|(rename_i hop;subst hop;cases ho)
  .exact Qw h3 h4 h5 S j s B E e u D
  .exact OJ h3 h4 h5 S j s B E e u D
  .exact OK h3 h4 h5 S j s B E e u D
  .exact OL h3 h4 h5 S j s B E e u D
  .exact OM h3 h4 h5 S j s B E e u D
  .exact ON h3 h4 h5 S j s B E e u D
 .intro j s B E e u D ce n b hv _;exact TF h1 S h4 j s B E e u D hv
 .intro n b _;exact .nil n b
 .intro x l c1 c2 n b n1 M h1 h2 ih1 Y G;exact .cons (ih1 G.1) (Nat.le_of_lt (i8.1 h1)) (Y G.2)
end
end
def Qx(op:Int):Int:=if op=1\/op=2 then 0 else if 3<=op/\op<=5 then 1 else if 6<=op/\op<=18 then 2 else -1
def Ic(op:Int):ao Tryz.prog 195 [.YJ op] (.YJ (Qx op)):=by
 refine uQ _ _ _ ?_;refine vw ?_
 repeat' (first|refine sy ?_|refine s2 ?_ ?_|intro)
 all_goals (refine⟨?_,rfl⟩;simp_all[Qx]<;>(repeat' split)<;>first|rfl|omega)
def OX(op n:Int)(name:aO)(k:Nat):Bool:=decide (Qx op=(k:Int))&&(decide (op=2\/op=3)==decide (name≠[]))&&(!decide (op=2\/op=3)||cY name)&&decide (0<=n)&&(decide (op=1)||decide (n=0))
mutual
def Cl:ae->Bool
 |.mk op n name l=>OX op n name l.length&&shEs l
def shEs:List ae->Bool
 |[]=>true
 |x::l=>Cl x&&shEs l
end
def KH:∀l:List ae,shEs l=l.all Cl
 |[]=>rfl
 |x::l=>by rw[shEs,KH l];rfl
def JC(x:ae):Cl x=(OX x.op x.n x.name x.l.length&&x.l.all Cl):=by cases x;rw[Cl,KH];rfl
def mc:∀(k:Nat) (x:ae),x.wt<=k->k<2^40->ao Tryz.prog 178 [.agg x.row] (.bool (Cl x)):=by
 intro k
 induction k with
 |zero=>intro x h;have:=x.wt_eq;omega
 |succ k M=>
  intro x hk hb;have hw:=x.wt_eq;have S:=ii x.name YC;refine ru _ _ _ ?_;refine vw ?_;generalize E:(λ(u:AV) (K:SH)=>u=AV.bool (Cl x)/\K=[])=Q;have D:Q (.bool (Cl x)) []:=by subst E;exact⟨rfl,rfl⟩
  clear E
  repeat' (first|refine sy ?_|(refine pf 195 ?_;refine pm (Ic _) ?_)|refine s2 (λh=>?_) λh=>?_|intro)
  all_goals try simp only[show Cm.bys []=([]:aO)from rfl]at *
  all_goals first
   |(refine Eq.mp (congrArg (λb=>Q (AV.bool b) []) ?_) D;rw[JC];simp_all[OX,Cm.bys]<;>omega;done)
   |skip
  all_goals
   refine cF x.l (λy=>!Cl y) (λi=>[.pptr [x.row] 0 0,.YJ i]) (by have:=x.len;omega) rfl (λi B Z hi j G Y=>?_) (λi B Z j G=>?_)
   all_goals refine vw ?_
   .have hx:=GO B;have hc:=M x.l[i] (by have:=x.kid B;omega) YC
    repeat' (first|refine sy ?_|refine s2 (λh=>?_) λh=>?_|intro)
    .refine Eq.mp (congrArg (λb=>Q (AV.bool b) []) ?_) D;have:x.l.all Cl=false:=pL B (by simpa using h);simp[JC,this]
    .exact Y h
   .repeat' (first|refine sy ?_|refine s2 ?_ ?_|intro)
    refine Eq.mp (congrArg (λb=>Q (AV.bool b) []) ?_) D;have:x.l.all Cl=true:=W2.2 λy O=>by simpa using j y O
    rw[JC];simp_all[OX,Cm.bys]<;>omega
section
def hD(ins c:List az)(b:Nat):Prop:=∀(k:Nat) (i:az),c[k]? =some i->ins[b+k]? =some i
theorem hD.left{j B D:List az}{b:Nat}(h:hD j (B++D) b):hD j B b:=λk i u=>h k i (by rw[WW];exact u;exact(Xm.1 u).1)
theorem hD.right{j u B:List az}{b:Nat}(h:hD j (u++B) b):hD j B (b+u.length):=λk i D=>by have:=h (u.length+k) i (by rw[WQ YC];simpa using D);rw[<-this];congr 1;omega
theorem hD.one{j:List az}{i:az}{b:Nat}(h:hD j [i] b):j[b]? =some i:=h 0 i rfl
theorem O9{j c:List az}{b:Nat}(M:hD j c b)(S:∀i∈c,i.op≠5)(O:eu j (b+c.length)):∀d k,k+d=c.length->eu j (b+k):=by
 intro d
 induction d with
 |zero=>intro k h;rw[show k=c.length by omega];exact O
 |succ d E=>
  intro k h;have B:k<c.length:=by omega
  have D:=M k c[k] (mt B);obtain⟨m,G⟩:=E (k+1) YC;by_cases u:c[k].sil
  .exact⟨m+1,.go _ _ _ D u (S _ (WN B)) G⟩
  .exact⟨0,.ev _ _ D u⟩
def pq(ins:List az)(b n:Nat):Prop:=∀k,b<=k->k<=b+n->eu ins k
theorem nz{j c:List az}{b:Nat}(u:hD j c b)(D:∀i∈c,i.op≠5)(B:eu j (b+c.length)):pq j b c.length:=λk G E=>by
 have:=O9 u D B (b+c.length-k) (k-b) YC
 rwa [show b+(k-b)=k by omega]at this
theorem pq.app{j:List az}{b n m:Nat}(B:pq j b n)(h2:pq j (b+n) m):pq j b (n+m):=λk u D=>by
 by_cases h:k<=b+n
 .exact B k u h
 .exact h2 k YC YC
theorem pq.one{j:List az}{b:Nat}(u:eu j b)(h2:eu j (b+1)):pq j b 1:=λk D B=>by
 have:k=b\/k=b+1:=by omega
 rcases this with rfl|rfl
 .exact u
 .exact h2
theorem qW{j:List az}{b:Nat}{i:az}(h:j[b]? =some i)(u:5<i.op):eu j b:=⟨0,.ev _ _ h (λg=>by have:=g.2;omega)⟩
section
variable {w:aK} {loc:List aO}
theorem gy.ops{e:ae}{d:Int}{c:List az}(h:gy w loc e d c):∀i∈c,i.op≠5:=by
 induction h with
 |num=>simp
 |loc=>simp
 |load=>simp
 |index n s a d E b Z D Y j=>intro i u;rcases WM.1 u with h|h;exact j i h;simp at h;subst h;simp
 |un op n s a d E S O M D j=>intro i u;rcases WM.1 u with h|h;exact j i h;simp at h;subst h;simp
 |bin op n s a b d E c2 S O M h4 D G j B=>
  intro i u;rcases WM.1 u with h|h
  .rcases WM.1 h with h|h
   .exact j i h
   .exact B i h
  .simp at h;subst h;simp
theorem FL.ops{x:aa}{c:List az}(h:FL w loc x c):∀i∈c,i.op≠5:=by
 cases h with
 |idx op j s G i e O u E c1 Z b S D M Y=>
  intro i B;rcases WM.1 B with h|h
  .rcases WM.1 h with h|h
   .exact D.ops i h
   .exact M.ops i h
  .simp at h;subst h;simp
 |loc op j s G e u E c D M=>intro i B;rcases WM.1 B with h|h;exact D.ops i h;simp at h;subst h;simp
 |store op j s G e u E c D M=>intro i B;rcases WM.1 B with h|h;exact D.ops i h;simp at h;subst h;simp
theorem j5{c:List az}{n:Nat}(h:∀i∈c,i.op≠5):∀i∈aN c n,i.op≠5:=λi B=>by obtain⟨j,u,rfl⟩:=Xi.1 B;exact h j u
theorem aW(c:List az)(n:Nat):(aN c n).length=c.length:=by simp[aN]
theorem eY(c d:List az)(n:Nat):aN (c++d) n=aN c n++aN d n:=by simp[aN]
theorem Pa{op:Int}{s:aO}{f l j:Int}(h:Ia w op s=some (f,l,j)):5<f/\5<l:=by
 unfold Ia at h
 repeat' split at h
 all_goals first|(cases h;omega)|cases h
theorem QH{op:Int}{s j:aO}{i:az}(h:OH w loc op s j=some i):5<i.op:=by
 unfold OH at h
 repeat' split at h
 all_goals first|(cases h;simp;done)|cases h
theorem TV:(∀{x n b c n2},JA w loc x n b c n2->∀{j:List az},hD j c b->eu j (b+c.length)->pq j b c.length)/\∀{l n b c n2},StsC w loc l n b c n2->∀{j:List az},hD j c b->eu j (b+c.length)->pq j b c.length:=by
 refine FN (M1:=λx n b c n2=>∀{j:List az},hD j c b->eu j (b+c.length)->pq j b c.length) (M2:=λx n b c n2=>∀{j:List az},hD j c b->eu j (b+c.length)->pq j b c.length) ?_ ?_ ?_ ?_ ?_ ?_ ?_ ?_ ?_
 .intro M s S ix e O Z c n b ha j D E;exact nz D (j5 ha.ops) E
 .intro M s S ix e O u B n b n2 hv hs ih j D E;rw[eY]at D E ⊢;have Y:=D.left.right.one;have G:=D.right;have l1:=qW Y (by show(5:Int)<10;decide);have a1:=nz D.left.left (j5 hv.ops) l1;simp only[LT,aW,WO,WT,Xn]at *;rw[show b+(u.length+1)=b+u.length+1 by omega]at G;rw[show b+(u.length+1+B.length)=b+u.length+1+B.length by omega]at E;have h2:=ih G E;have:=(a1.app (pq.one l1 (h2 _ (Fd _) YC))).app (m:=B.length) (by rwa [show b+(u.length+1)=b+u.length+1 by omega]);simpa using this
 .intro M s S ix e O y Z u B cl n b n2 n3 hv hs hs2 ih ih2 j D E;rw[eY]at D E ⊢;have Y:=D.left.left.left.right.one;have hj:=D.left.right.one;have l1:=qW Y (by show(5:Int)<10;decide);have a1:=nz D.left.left.left.left (j5 hv.ops) l1;have G:=D.left.left.right;have hl3:=D.right;simp only[LT,aW,WO,WT,Xn]at *;rw[show b+(u.length+1)=b+u.length+1 by omega]at G;rw[show b+(u.length+1+B.length+1)=b+u.length+1+B.length+1 by omega]at hl3;rw[show b+(u.length+1+B.length)=b+u.length+1+B.length by omega]at hj;rw[show b+(u.length+1+B.length+1+cl.length)=b+u.length+1+B.length+1+cl.length by omega]at E;have g3:=ih2 hl3 E;obtain⟨m,hm⟩:=E;have lj:eu j (b+u.length+1+B.length):=⟨m+1,.jump _ _ (b+u.length+1+B.length+1+cl.length) _ hj rfl rfl hm⟩;have g2:=ih G lj;have t1:=a1.app (pq.one l1 (g2 _ (Fd _) YC));have t2:=t1.app (m:=B.length) (by rwa [show b+(u.length+1)=b+u.length+1 by omega]);have t3:=t2.app (m:=1) (by rw[show b+(u.length+1+B.length)=b+u.length+1+B.length by omega];exact pq.one lj (g3 _ (Fd _) YC));exact t3.app (m:=cl.length) (by rwa [show b+(u.length+1+B.length+1)=b+u.length+1+B.length+1 by omega])
 .intro M s S ix e O Z u B n b n2 hv hs ih j D E;rw[eY]at D E ⊢;have Y:=D.left.left.right.one;have hj:=D.right.one;have l1:=qW Y (by show(5:Int)<10;decide);have a1:=nz D.left.left.left (j5 hv.ops) l1;have G:=D.left.right;simp only[LT,aW,WO,WT,Xn]at *;rw[show b+(u.length+1)=b+u.length+1 by omega]at G;rw[show b+(u.length+1+B.length)=b+u.length+1+B.length by omega]at hj;obtain⟨m,hm⟩:=a1 b (Fd _) YC;have lj:eu j (b+u.length+1+B.length):=⟨m+1,.jump _ _ b _ hj rfl rfl hm⟩;have g2:=ih G lj;have t1:=a1.app (pq.one l1 (g2 _ (Fd _) YC));have t2:=t1.app (m:=B.length) (by rwa [show b+(u.length+1)=b+u.length+1 by omega]);exact t2.app (m:=1) (by rw[show b+(u.length+1+B.length)=b+u.length+1+B.length by omega];exact pq.one lj (by rwa [show b+(u.length+1+B.length+1)=b+u.length+1+B.length+1 by omega]at E))
 .intro op M s S ix e O Z f l ob B n b n2 ha hs ih j D E;have ho:=Pa ha;have hf:=D.left.left.one;have hj:=D.right.one;have G:=D.left.right;simp only[LT,aW,WO,WT,Xn]at *;rw[show b+(1+B.length)=b+1+B.length by omega]at hj;have lj:eu j (b+1+B.length):=qW hj ho.2;have g2:=ih G lj;have t1:=(pq.one (qW hf ho.1) (g2 _ (Fd _) YC)).app g2;exact t1.app (m:=1) (by rw[show b+(1+B.length)=b+1+B.length by omega];exact pq.one lj (by rwa [show b+(1+B.length+1)=b+1+B.length+1 by omega]at E))
 .intro op M s S ix e O Z i n b ho j D E;exact nz D (j5 (by simp;have:=QH ho;omega)) E
 .intro M s S ix e O Z u n b hv j D E;exact nz D (j5 (λi hi=>by rcases WM.1 hi with h|h;exact hv.ops i h;simp at h;subst h;simp)) E
 .intro n b j D E k h1 h2;have:k=b:=by simp at h2;omega
  subst this;exact E
 .intro x l c1 c2 n b n1 n2 h1 h2 ih1 ih2 j D E;rw[LT]at E ⊢;have g2:=ih2 D.right (by rwa [<-Nat.add_assoc]at E);have g1:=ih1 D.left (g2 _ (Fd _) YC);exact g1.app g2
end
end
