/- part -/
import Derived.Test.YtfckbjehkbhkgaaGreatQwT
import Derived.Test.YtfckbjehkbhkgaaGreatQwGc
import Derived.Test.YtfckbjehkbhkgaaGreatRows
set_option linter.all false
set_option maxRecDepth 100000
set_option maxHeartbeats 0
namespace Go.Proofs.YtfckbjehkbhkgaaGreat.Am
def IS(p u sc:List UInt8)(hp:p.length<2^63)(z y:Nat)(hz:z<256)(hy:y<256)(l:List UInt8)(a b:Nat)(ha:a<256)(hb:b<256):aq Tryz.prog 8 [.agg [.lst (p.map aY),.lst (u.map aY),.lst (sc.map aY),.int .u8 z,.int .u8 y],.lst (l.map aY),.int .u8 a,.int .u8 b] (.bool true):=by
 refine L6 λQ N=>mV _ _ _ _ _ _ ?_
 refine vw ?_;by_cases hl:40<l.length
 .have hd:decide ((40:Int)<(l.length:Int))=true:=decide_eq_true acN
  repeat' (first|refine sy ?_|refine s2 ?_ ?_|intro)
  exact N _
 .have hd:decide ((40:Int)<(l.length:Int))=false:=decide_eq_false acN;obtain⟨w,hv,H⟩:=l9 p u sc hp z y hz hy;obtain⟨pa,c,hwk,hr,hpl,hC,hol⟩:=nN H l acN;have hnum:=gG l acN;have haw:=gt;have ht1:=H.world.t1;have ht4:=H.world.t4;have dn:decide (((w.w.threads.length:Nat):Int)=0)=false:=decide_eq_false acN;have Y:(IntKind.i64.wrap (a:Int)).tmod (w.w.threads.length:Int)=((a % w.w.threads.length:Nat):Int):=by rw[show IntKind.i64.wrap (a:Int)=(a:Int)from abg _ acN];rfl
  have S:(IntKind.i64.wrap (b:Int)).tmod (w.w.threads.length:Int)=((b % w.w.threads.length:Nat):Int):=by rw[show IntKind.i64.wrap (b:Int)=(b:Int)from abg _ acN];rfl
  generalize a % w.w.threads.length=t at *;generalize b % w.w.threads.length=u at *;have hna:=ku w c t H.len acN;have hnb:=ku w c u H.len acN;have sa:=kq w c t;have Z:=kq w c u;have hw0:=H;by_cases htu:t=u
  .have d1:decide ((t:Int)=(u:Int))=true:=decide_eq_true acN;clear sa Z;rw[bj,cG]at *
   repeat' (first|refine sy ?_|rw[Y]|rw[S]|refine s2 ?_ ?_|intro)
   all_goals exact N _
  have d1:decide ((t:Int)=(u:Int))=false:=decide_eq_false acN;rcases sa with⟨e1,_⟩|⟨i,hi,e1,hti,_⟩
  .rw[e1]at hna;clear Z;rw[bj,cG]at *
   repeat' (first|refine sy ?_|rw[Y]|rw[S]|refine s2 ?_ ?_|intro)
   all_goals exact N _
  rcases Z with⟨e2,_⟩|⟨k,hk,e2,htk,_⟩
  .rw[e1]at hna;rw[e2]at hnb;rw[bj,cG]at *
   repeat' (first|refine sy ?_|rw[Y]|rw[S]|refine s2 ?_ ?_|intro)
   all_goals exact N _
  rw[e1]at hna;rw[e2]at hnb;have hxa:=xA w.ev[i];have hxb:=xA w.ev[k];have hcf:=Tn w.ev[i] w.ev[k];have h0i:decide ((i:Int)<0)=false:=decide_eq_false acN;have h0k:decide ((k:Int)<0)=false:=decide_eq_false acN;have hxi:=qS hi;have hxk:=qS hk;by_cases O:uN w.ev[i]=true/\uN w.ev[k]=true/\Pu w.ev[i] w.ev[k]=false
  .obtain⟨q1,q2,q3⟩:=O;rw[q1]at hxa;rw[q2]at hxb;rw[q3]at hcf;have B:=jm H (pa++[⟨t,-1⟩,⟨u,-1⟩]) acS;have j:=jm H (pa++[⟨u,-1⟩,⟨t,-1⟩]) acS;have G:∀(x:List aD) (d:aP),x.length=2->dE w c x=some d->Sm d:=λx d hx hd=>xd H (Bb x hC hd) (by rw[Dy x hd];omega)
   have hsw:=swap (x:=-1) (y:=-1) hi hk e1 e2 hti htk acN q1 q2 q3;rw[run_app pa _ hr]at B j;have r1:pa.map aD.enc++[[.acU (t:Int),.acU (-1)],[.acU (u:Int),.acU (-1)]]=(pa++([⟨t,-1⟩,⟨u,-1⟩]:List aD)).map aD.enc:=by rw[ST];rfl
   have r2:pa.map aD.enc++[[.acU (u:Int),.acU (-1)],[.acU (t:Int),.acU (-1)]]=(pa++([⟨u,-1⟩,⟨t,-1⟩]:List aD)).map aD.enc:=by rw[ST];rfl
   rcases hsw with⟨s1,M⟩|⟨P,Q',s1,M,hx⟩
   .rw[s1]at B;rw[M]at j;unfold nH at B j;dsimp only at B j;generalize aP.zero=d0 at *;rw[bj]at *;simp only[cG]at *;rw[eH]at *
    repeat' (first|refine sy ?_|rw[Y]|rw[S]|((with_reducible refine aN 26 ?_);first|(refine zJ B rp ?_ acQ ?_;exact r1)|(refine zJ j rp ?_ acQ ?_;exact r2))|((with_reducible refine cy 26 ?_);first|(refine zI B rp ?_ acQ ?_;exact r1)|(refine zI j rp ?_ acQ ?_;exact r2))|refine dJ rp (λ_=>rfl) acP acS acS (λ_=>rfl) (λnb_ E=>?_)|refine Ba rp rp acQ acP acQ acS acS acP (λnb_ E=>?_)|refine s2 ?_ ?_|intro)
    all_goals exact N _
   .have hS:=jc P (G _ P rfl s1);have hod:=(G _ P rfl s1).od;have hqe:Q'.enc=[.lst (P.sync.locks.map LockD.enc),.acU P.sync.tx,.lst (P.sync.done.map au),.lst (P.sync.threads.map ThrD.enc),.lst (P.cells.map eu.enc),.lst (P.futures.map eu.enc),.lst (Q'.order.map aa),.lst (P.fixed.map au),.lst (P.woke.map aa)]:=by rw[cG,hx.sync,hx.cells,hx.futures,hx.fixed,hx.woke]
    have hsame:∀(nb n:Nat) (L:SH) (D:List (List AV)),(nb,(⟨1,D⟩:Blk))∈L->D=P.order.map aa->n=P.order.length->ax [.agg P.enc,.agg [.lst (P.sync.locks.map LockD.enc),.acU P.sync.tx,.lst (P.sync.done.map au),.lst (P.sync.threads.map ThrD.enc),.lst (P.cells.map eu.enc),.lst (P.futures.map eu.enc),.sl nb 0 n,.lst (P.fixed.map au),.lst (P.woke.map aa)]] L [.agg P.enc,.agg P.enc] []:=λnb n L D hm hr hn=>
     ax.drop (K:=L) (R:=[]) acQ rfl (fy.at_ (.cons (.refl _) (.cons (Fz.aggs (m:=P.enc) (.cons (.refl _) (.cons (.refl _) (.cons (.refl _) (.cons (.refl _) (.cons (.refl _) (.cons (.refl _) (.cons (Fz.sls hm hr acR hn) (.cons (.refl _) (.cons (.refl _) .nil)))))))))) .nil))).2
    rw[s1]at B;rw[M]at j;unfold nH at B j;dsimp only at B j;rw[hqe]at j;clear hqe G hx hC s1 M;rw[bj]at *;simp only[cG]at *;rw[eH]at *
    repeat' (first|refine sy ?_|rw[Y]|rw[S]|((with_reducible refine aN 26 ?_);first|(refine zJ B rp ?_ acQ ?_;exact r1)|(refine zJ j rp ?_ acQ ?_;exact r2))|((with_reducible refine cy 26 ?_);first|(refine zI B rp ?_ acQ ?_;exact r1)|(refine zI j rp ?_ acQ ?_;exact r2))|refine dJ rp (λ_=>rfl) acP acS acS (λ_=>rfl) (λnb_ E=>?_)|refine Ba rp rp acQ acP acQ acS acS acP (λnb_ E=>?_)|refine aO rp acP acP acP acP (by simp[aR]) ?_|((with_reducible refine aN 14 ?_);(refine yM hS (hsame _ _ _ _ mm acQ acQ) ?_))|refine s2 ?_ ?_|intro)
    all_goals exact N _
  .generalize uN w.ev[i]=x1 at *;generalize uN w.ev[k]=x2 at *;generalize Pu w.ev[i] w.ev[k]=x3 at *;rw[bj,cG]at *;rw[eH]at *;cases x1
   .repeat' (first|refine sy ?_|rw[Y]|rw[S]|refine s2 ?_ ?_|intro)
    all_goals exact N _
   cases x2
   .repeat' (first|refine sy ?_|rw[Y]|rw[S]|refine s2 ?_ ?_|intro)
    all_goals exact N _
   cases x3
   .exact absurd ⟨rfl,rfl,rfl⟩ O
   repeat' (first|refine sy ?_|rw[Y]|rw[S]|refine s2 ?_ ?_|intro)
   all_goals exact N _
