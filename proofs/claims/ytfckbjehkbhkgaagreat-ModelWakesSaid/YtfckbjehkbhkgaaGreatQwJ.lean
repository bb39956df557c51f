/- part -/
import Derived.Test.YtfckbjehkbhkgaaGreatQwC
set_option linter.all false
set_option maxRecDepth 100000
set_option maxHeartbeats 0
namespace Go.Proofs.YtfckbjehkbhkgaaGreat.Am
def Lb(f:FuncId)(args:List AV)(P:Prop):Prop:=∃b:Bool,aq Tryz.prog f args (.bool b)/\(b=true->P)
def SC{f:FuncId}{args:List AV}{P:Prop}(h:ac Tryz.prog f args [] λv L=>∃b:Bool,v=.bool b/\L=[]/\(b=true->P))(B:∀a∈args,bv a):Lb f args P:=by obtain⟨v,K,⟨b,rfl,_,j⟩,hp⟩:=h.pure B (λu K ⟨b,h,_⟩=>by rw[h];exact .bool b);exact⟨b,hp,j⟩
def Ox(i:Int)(n:Nat):aq Tryz.prog 119 [.acU i,.acU n] (.bool (inB i n)):=by
 refine JX _ _ _ _ ?_;refine vw ?_;generalize j:(λ(u:AV) (K:SH)=>u=AV.bool (inB i n)/\K=[])=Q
 repeat' (first|refine sy ?_|refine s2 ?_ ?_|intro)
 all_goals
  subst j;refine⟨?_,rfl⟩;simp_all[inB]<;>omega
def Lc(w:aG)(Y:w.init.count.length<2^40):Lb 96 [.agg w.enc] True:=by
 refine SC ?_ (aA w.pure dS);refine ac.fz (Ac _ _ _ ?_);refine vw ?_;generalize E:(λ(v:AV) (L:SH)=>∃B G,ax [v] L [B] G/\∃b:Bool,B=.bool b/\G=[]/\(b=true->True))=Q;have D:∀b L,Q (.bool b) L:=λb L=>by subst E;exact⟨_,[],ax.all (.refl _),b,rfl,rfl,λ_=>trivial⟩
 clear E;have M:W.loop (Ab Q) [.pptr [w.enc] 0 0,.acU (0:Nat),.acU (0:Nat)] []:=by
  refine aL w.init.count.length (λk (m:Int)=>([.pptr [w.enc] 0 0,.acU m,.acU k],[])) (λ_ _=>True) 0 trivial (.refl _ _) ?_;intro k m N _;dsimp only;refine vw ?_;rcases Nat.lt_or_ge k w.init.count.length with u|u
  .have O:=aS u;have S:(w.init.count.map aa)[k]? =some [.acU w.init.count[k]]:=aj (f:=aa) u;have fin:∀m:Int,∃(j:Nat) (o:Int),k<j/\j<=w.init.count.length/\True/\ax [.pptr [w.enc] 0 0,.acU m,.acU (IntKind.i64.wrap ((k:Int)+1))] [] [.pptr [w.enc] 0 0,.acU o,.acU j] []:=λm=>⟨k+1,m,acN,acN,trivial,by rw[av u acN];exact .refl _ _⟩
   generalize w.init.count[k]=c at *;rw[bj]at *
   repeat' (first|refine sy ?_|refine s2 ?_ ?_|intro)
   all_goals first
    |exact D _ _
    |exact fin _
  .have O:=aW u;rw[bj]at *;clear N
   repeat' (first|refine sy ?_|refine s2 ?_ ?_|intro)
   all_goals exact D _ _
 rw[bj]at *
 repeat' (first|refine sy ?_|refine s2 ?_ ?_|intro)
 exact M
def FO(w:aG)(hl:w.init.sync.threads.length<=w.init.count.length)(h4:w.init.sync.threads.length<2^40):Lb 97 [.agg w.enc] True:=by
 refine SC ?_ (aA w.pure dS);refine ac.fz (wo _ _ _ ?_);refine vw ?_;generalize M:(λ(v:AV) (L:SH)=>∃u O,ax [v] L [u] O/\∃b:Bool,u=.bool b/\O=[]/\(b=true->True))=Q;have G:∀b L,Q (.bool b) L:=λb L=>by subst M;exact⟨_,[],ax.all (.refl _),b,rfl,rfl,λ_=>trivial⟩
 clear M;have Y:W.loop (wm Q) [.pptr [w.enc] 0 0,.lst (w.init.sync.threads.map ThrD.enc),.acU (0:Nat)] []:=by
  refine cT w.init.sync.threads.length (λ_=>True) (λk=>[.pptr [w.enc] 0 0,.lst (w.init.sync.threads.map ThrD.enc),.acU k]) acN trivial rfl (λk N hd hk _ S j=>?_) (λk N hd _ S=>?_)
  all_goals refine vw ?_
  .have hx:(w.init.count.map aa)[k]? =some [.acU (w.init.count[k]'acN)]:=aj (f:=aa) acN;have Z:=aj (f:=ThrD.enc) N;have j:=j trivial;generalize w.init.count[k]'acN=c at *;generalize w.init.sync.threads[k]=t at *;obtain⟨E,D,B⟩:=t;rw[show ThrD.enc ⟨E,D,B⟩=[.acU E,.acU D,.bool B]from rfl]at Z;rw[bj]at *
   repeat' (first|refine sy ?_|(refine pf 119 ?_;refine pm (Ox _ _) ?_)|refine s2 ?_ ?_|intro)
   all_goals first
    |exact G _ _
    |exact j
  .rw[bj]at *
   repeat' (first|refine sy ?_|refine s2 ?_ ?_|intro)
   all_goals exact G _ _
 rw[bj]at *
 repeat' (first|refine sy ?_|refine s2 ?_ ?_|intro)
 exact Y
def MY(w:aG)(t:Int)(N:w.init.count.length<2^40):aq Tryz.prog 120 [.agg w.enc,.acU t] (.bool (inB t w.init.count.length&&decide (1<=aT w.init t))):=by
 refine NQ AV.bool λQ u=>Cp _ _ _ _ ?_
 refine vw ?_;have D:=Ox t w.init.count.length;cases j:inB t w.init.count.length with
 |false=>
  rw[j]at D;have B:=λL=>u false L (by rw[j];rfl)
  clear u;rw[bj]
  repeat' (first|refine sy ?_|refine s2 ?_ ?_|intro)
  exact B _
 |true=>
  rw[j]at D;have M:=CR j;obtain⟨G,E⟩:=ao.1 j;have B:=λL=>u _ L (by rw[j,acB])
  clear u;generalize aT w.init t=c at *;rw[bj]
  repeat' (first|refine aw G E rp acO ?_|refine sy ?_|refine s2 ?_ ?_|intro)
  exact B _
section
theorem X1(o:Option Nat)(l:List bU)(k:Nat)(R:SH)(x:bU)(Y:o=none->l=[])(N:k<=l.length)(hl:k<2^62):
  ac Tryz.prog 118 [af o k,.str x] (ab o 1 (l.map ay)++R) λu K=>∃r:Int,u=.acU r/\K=ab o 1 (l.map ay)++R:=by
 refine lM _ _ _ _ ?_;refine vw ?_;generalize S:ab o 1 (l.map ay)++R=L;generalize M:(λ(u:AV) (K:SH)=>∃r:Int,u=AV.acU r/\K=L)=Q;have B:∀r:Int,Q (.acU r) L:=λr=>by subst M;exact⟨r,rfl,rfl⟩
 clear M;subst S;cases o with
 |none=>
  have:=Y rfl;subst this;obtain rfl:k=0:=by simpa using N
  dsimp only[ab,af,List.nil_append]at *;refine cT 0 (λ_=>True) (λi=>[.emp,.str x,.acU i]) acN trivial rfl (λi E D O _ j G=>by omega) (λi E D _ j=>?_);refine vw ?_
  repeat' (first|refine sy ?_|refine s2 ?_ ?_|intro)
  exact B _
 |some Z=>
  dsimp only[ab,af,List.cons_append,List.nil_append]at *;refine cT k (λ_=>True) (λi=>[.sl Z 0 k,.str x,.acU i]) acN trivial rfl (λi E D O _ j G=>?_) (λi E D _ j=>?_)
  all_goals refine vw ?_
  .have hx:=aj (f:=ay) (l:=l) (i:=i) acN
   repeat' (first|refine sy ?_|refine s2 ?_ ?_|intro)
   all_goals first
    |exact B _
    |exact G trivial
  .repeat' (first|refine sy ?_|refine s2 ?_ ?_|intro)
   exact B _
def bV(bt:Nat)(th le:Int)(se tx at_ lo:Bool)(o:Option Nat)(k:Nat):Blk:=nQ bt (.acU th) (.acU le) (.bool se) (.bool tx) (.bool at_) (.bool lo) (af o k)
def Yu(f:FuncId)(args:List AV)(d:Nat)(good:AV->Prop):Prop:=∀(bm bt:Nat) (t:List UInt8) (a:Nat) (th le:Int) (se tx at_ lo:Bool) (o:Option Nat) (ar:List bU) (k:Nat),t.length<2^63->a<=t.length->(o=none->ar=[])->k<=ar.length->k+d<=900->
 ac Tryz.prog f (.ptr bm 0 0::args) ((bm,bV bt th le se tx at_ lo o k)::(bt,az t a)::ab o 1 (ar.map ay)) λu K=>∃(v:AV) (a':Nat) (th' le':Int) (se' tx' at' lo':Bool) (o':Option Nat) (ar':List bU),u=v/\good v/\a'<=t.length/\(o'=none->ar'=[])/\k<=ar'.length/\K=(bm,bV bt th' le' se' tx' at' lo' o' k)::(bt,az t a')::ab o' 1 (ar'.map ay)
theorem nY{j b2:Nat}{x1 x2:Blk}{o:Option Nat}{n:Nat}{rows:List (List AV)}{L L1 L2 L3:SH}(B:dF j x1 L L1)(h2:dF b2 x2 L1 L2)(u:eG o n rows L2 L3):L.Perm (((j,x1)::(b2,x2)::ab o n rows)++L3):=
 B.perm.trans ((h2.perm.trans ((u.perm).cons _)).cons _)
section
variable {f:FuncId} {args:List AV} {d:Nat} {good:AV->Prop} {bm bt:Nat} {t:List UInt8} {a:Nat} {th le:Int} {se tx at_ lo:Bool} {o:Option Nat} {ar:List bU} {k:Nat} {L L1 L2 L3:SH}
theorem OA{KL:R}(h:Yu f args d good)(h1:dF bm (bV bt th le se tx at_ lo o k) L L1)(h2:dF bt (az t a) L1 L2)(h3:eG o 1 (ar.map ay) L2 L3)(ht:t.length<2^63)(ha:a<=t.length)(ho:o=none->ar=[])(hk:k<=ar.length)(hd:k+d<=900)
  (hq:∀(v:AV) (O:Nat) (B G:Int) (D u M E:Bool) (N:Option Nat) (j:List bU),good v->O<=t.length->(N=none->j=[])->k<=j.length->KL v ((bm,bV bt B G D u M E N k)::(bt,az t O)::(ab N 1 (j.map ay)++L3))):W.callM Tryz.prog f (.ptr bm 0 0::args) L KL:=by
 refine Hm (h bm bt t a th le se tx at_ lo o ar k ht ha ho hk hd) (nY h1 h2 h3) ?_;rintro _ _ ⟨v,O,B,G,D,u,M,E,N,j,rfl,q1,Z,Y,S,rfl⟩;exact hq _ O B G D u M E N j q1 Z Y S
theorem S0{i:Nat}{us:List W.WR}{S:AV->SH->List Nat->Prop}(h:Yu f args d good)(h1:dF bm (bV bt th le se tx at_ lo o k) L L1)(h2:dF bt (az t a) L1 L2)(h3:eG o 1 (ar.map ay) L2 L3)(ht:t.length<2^63)(ha:a<=t.length)(ho:o=none->ar=[])(hk:k<=ar.length)(hd:k+d<=900)
  (hf:∀y∈us,W.free y ⟨i,[],SH.names ((bm,bV bt th le se tx at_ lo o k)::(bt,az t a)::ab o 1 (ar.map ay)),[],true,[]⟩)
  (hq:∀(v:AV) (O:Nat) (B G:Int) (D u M E:Bool) (N:Option Nat) (j:List bU) (ks:List Nat),good v->O<=t.length->(N=none->j=[])->k<=j.length->S v ((bm,bV bt B G D u M E N k)::(bt,az t O)::(ab N 1 (j.map ay)++L3)) ks):W.dcallM Tryz.prog us i f (.ptr bm 0 0::args) L S:=by
 refine⟨_,L3,nY h1 h2 h3,hf,(h bm bt t a th le se tx at_ lo o ar k ht ha ho hk hd).mono ?_⟩;rintro _ _ ⟨v,O,B,G,D,u,M,E,N,j,rfl,q1,q2,Z,Y,rfl⟩;exact hq _ O B G D u M E N j _ q1 q2 Z Y
theorem D6{v v2:AV}{x1 x2:Blk}{rows:List (List AV)}(D:dF bm x1 L L1)(h2:dF bt x2 L1 L2)(B:eG o 1 rows L2 L3)(u:Fz L3 v v2):ax [v] L [v2] ((bm,x1)::(bt,x2)::ab o 1 rows):=by
 refine .drop (K:=L3) ((nY D h2 B).trans aar) rfl λi a G j E=>?_
 match i with
 |0=>cases j;cases E;exact u
 |i+1=>simp at j
end
def dw(d:Nat):Nat:=100*10^d
def S1(d:Nat)(v:AV):Prop:=∃x:ae,v=.agg x.row/\x.wt<=dw d
def D7(n:Nat)(v:AV):Prop:=∃l:List ae,v=.lst (l.map ae.enc)/\ae.wts l<=n
def S2(d:Nat):Prop:=Yu 161 [.acU (d:Int)] d (S1 d)
def S3(d:Nat):Prop:=∀n:Nat,n<=10->Yu 129 [.acU (d:Int),.acU (n:Int)] d (D7 (n*dw d))
def X2(d:Nat):Prop:=∀s:bU,Yu 191 [.str s,.acU (d:Int)] (d+1) (D7 (2*dw d))
theorem D8(l:List ae)(x:ae):ae.wts (l++[x])=ae.wts l+x.wt:=by
 induction l with
 |nil=>simp[ae.wts]
 |cons y l j=>simp only[abX,ae.wts,j];omega
def eY(d:Nat):Prop:=∀n:Nat,n<=10->∀(bm bt:Nat) (t:List UInt8) (a:Nat) (th le:Int) (se tx at_ lo:Bool) (o:Option Nat) (ar:List bU) (k:Nat),t.length<2^63->a<=t.length->(o=none->ar=[])->k<=ar.length->k+d<=900->
 ac Tryz.prog 129 [.ptr bm 0 0,.acU (d:Int),.acU (n:Int)] ((bm,bV bt th le se tx at_ lo o k)::(bt,az t a)::ab o 1 (ar.map ay)) λu K=>∃(a':Nat) (th' le':Int) (se' tx' at' lo':Bool) (o':Option Nat) (ar':List bU) (l:List ae) (ol:Option Nat),u=af ol l.length/\(ol=none->l=[])/\ae.wts l<=n*dw d/\a'<=t.length/\(o'=none->ar'=[])/\k<=ar'.length/\K=(bm,bV bt th' le' se' tx' at' lo' o' k)::(bt,az t a')::(ab o' 1 (ar'.map ay)++ab ol 11 (l.map ae.enc))
theorem IK(d:Nat)(hS:S2 d):eY d:=by
  intro n hn bm bt t a th le se tx at_ lo o ar k ht ha ho hk hd;refine sS _ _ _ _ _ ?_;refine vw ?_;generalize hQ:(λ(u:AV) (K:SH)=>∃(a':Nat) (G O:Int) (M E S N:Bool) (Y:Option Nat) (j:List bU) (l:List ae) (B:Option Nat),u=af B l.length/\(B=none->l=[])/\ae.wts l<=n*dw d/\a'<=t.length/\(Y=none->j=[])/\k<=j.length/\K=(bm,bV bt G O M E S N Y k)::(bt,az t a')::(ab Y 1 (j.map ay)++ab B 11 (l.map ae.enc)))=Q;have hq:∀(l:List ae) (B:Option Nat) (a':Nat) (G O:Int) (M E S N:Bool) (Y:Option Nat) (j:List bU),(B=none->l=[])->ae.wts l<=n*dw d->a'<=t.length->(Y=none->j=[])->k<=j.length->Q (af B l.length) ((bm,bV bt G O M E S N Y k)::(bt,az t a')::(ab Y 1 (j.map ay)++ab B 11 (l.map ae.enc))):=λl B a' G O M E S N Y j h4 h5 h6 h7 h8=>by subst hQ;exact⟨a',G,O,M,E,S,N,Y,j,l,B,rfl,h4,h5,h6,h7,h8,rfl⟩
  clear hQ;refine aL (β:=Nat×Int×Int×Bool×Bool×Bool×Bool×Option Nat×List bU×Option Nat×List ae) n (λi ⟨a,th,le,se,tx,at_,lo,o,ar,B,xs⟩=>([.ptr bm 0 0,.acU d,.acU n,af B i,.acU i],(bm,bV bt th le se tx at_ lo o k)::(bt,az t a)::(ab o 1 (ar.map ay)++ab B 11 (xs.map ae.enc))))
    (λi ⟨a,th,le,se,tx,at_,lo,o,ar,B,xs⟩=>a<=t.length/\(o=none->ar=[])/\k<=ar.length/\(B=none->xs=[])/\xs.length=i/\ae.wts xs<=i*dw d) ⟨a,th,le,se,tx,at_,lo,o,ar,none,[]⟩ ⟨ha,ho,hk,λ_=>rfl,rfl,by simp[ae.wts]⟩ ?_ ?_
  · exact ax.vals (.cons (.refl _) (.cons (.refl _) (.cons (.refl _) (.cons .nile (.cons (.refl _) .nil))))) |> λh=>by simpa[af,ab]using h
  · rintro i ⟨a,th,le,se,tx,at_,lo,o,ar,B,xs⟩ hi ⟨ha,ho,hk,hol,hxl,hxw⟩
    dsimp only at ha ho hk hol hxl hxw ⊢;refine vw ?_;generalize hnx:(λ(vs':List AV) (L':SH)=>_)=nx;have hn:∀(a:Nat) (th le:Int) (se tx at_ lo:Bool) (o:Option Nat) (ar:List bU) (nb:Nat) (x:ae) (L':SH),i<n->cO L' ((bm,bV bt th le se tx at_ lo o k)::(bt,az t a)::(ab o 1 (ar.map ay)++ab (some nb) 11 ((xs++[x]).map ae.enc)))->a<=t.length->(o=none->ar=[])->k<=ar.length->x.wt<=dw d->nx [.ptr bm 0 0,.acU d,.acU n,.sl nb 0 (i+1),.acU ((i+1:Nat):Int)] L':=by intro a th le se tx at_ lo o ar nb x L' q0 q1 q2 q3 q4 q5;subst hnx;refine⟨i+1,⟨a,th,le,se,tx,at_,lo,o,ar,some nb,xs++[x]⟩,acN,acN,⟨q2,q3,q4,nofun,acS,?_⟩,ax.pick q1 rfl⟩;dsimp only;rw[D8,Nat.add_mul,Nat.one_mul];omega
    clear hnx;subst hxl;have D:∀(L:SH) (v:AV),L=(bm,bV bt th le se tx at_ lo o k)::(bt,az t a)::(ab o 1 (ar.map ay)++ab B 11 (xs.map ae.enc))->v=af B xs.length->Q v L:=by rintro _ _ rfl rfl;exact hq xs B a th le se tx at_ lo o ar hol (abe hxw (abl _ hi)) ha ho hk
    rcases LE xs.length n with g|g
    · have hd1:=aS g
      have hi1:=av g acN;unfold bV nQ at D ⊢
      repeat' (first|refine sx ?_|((with_reducible refine aN 161 ?_);(refine OA hS rp rp rp ht acO acO acO hd ?_;rintro _ a_ th_ le_ se_ tx_ at_ lo_ o_ ar_ ⟨x_,rfl,hx_⟩ ha_ ho_ hk_))|refine aM rp rp acQ (λe=>by first|simp[hol e]) acP acQ acS acS acP (λZ hnb_=>?_)|refine sb λZ hnb_=>?_|refine s2 ?_ ?_|intro)
      all_goals first
        |exact D _ _ rfl rfl
        | (have e_ : ab (some Z) 11 ((xs ++ [x_]).map ae.enc) = [(Z, ⟨11, xs.map ae.enc ++ [x_.row]⟩)] := by rw [ab, ST, aai, abF, ae.enc_row]
           refine hn a_ th_ le_ se_ tx_ at_ lo_ o_ ar_ Z x_ _ g ?_ ha_ ho_ hk_ hx_;rw[e_];exact .one (.there _ (.there _ (.here _))) (.one (.there _ (.there _ (.here _))) (.slot (.there _ (.there _ (.here _))) (.one (.here _) (.nil _)))))
    · have hd1:=aW g
      unfold bV nQ at D ⊢
      repeat' (first|refine sy ?_|refine s2 ?_ ?_|intro)
      exact D _ _ rfl rfl
theorem IL(d:Nat)(hS:eY d):S3 d:=by intro n hn bm bt t a th le se tx at_ lo o ar k Y ha Z hk hd;refine ac.fz ((hS n hn bm bt t a th le se tx at_ lo o ar k Y ha Z hk hd).mono ?_);rintro _ _ ⟨a',B,G,D,u,N,E,S,O,l,ol,rfl,M,j,h3,h4,h5,rfl⟩;exact⟨_,_,D6 (.here _) (.here _) (.here _) (Fz.slot (f:=ae.enc) (g:=ae.enc) rfl (λe=>by simp[M e]) acR (λ_ _=>rfl) λy _ q a a2 M j=>by rw[M]at j;cases j;exact .refl _),_,a',B,G,D,u,N,E,S,O,rfl,⟨l,rfl,j⟩,h3,h4,h5,rfl⟩
theorem Vf{r:Nat}(h:r<100):IntKind.i64.wrap (1+(r:Int))=((1+r:Nat):Int):=by rw[abg _ acN];omega
theorem D7.le{n m:Nat}{v:AV}(h:D7 n v)(u:n<=m):D7 m v:=by obtain⟨l,j,B⟩:=h;exact⟨l,j,acN⟩
theorem Vg(d:Nat)(hS:S3 d):X2 d:=by
 intro s bm bt t a th le se tx at_ lo o ar k ht ha ho hk hd;refine ac.fz (sR _ _ _ _ _ ?_);refine vw ?_;generalize hQ:(λ(v:AV) (L:SH)=>∃v2 L2,ax [v] L [v2] L2/\∃(v:AV) (O:Nat) (B G:Int) (D u M E:Bool) (N:Option Nat) (j:List bU),v2=v/\D7 (2*dw d) v/\O<=t.length/\(N=none->j=[])/\k<=j.length/\L2=(bm,bV bt B G D u M E N k)::(bt,az t O)::ab N 1 (j.map ay))=Q;have hq:∀(v:AV) (O:Nat) (B G:Int) (D u M E:Bool) (N:Option Nat) (j:List bU) (L:SH),D7 (2*dw d) v->cO L ((bm,bV bt B G D u M E N k)::(bt,az t O)::ab N 1 (j.map ay))->O<=t.length->(N=none->j=[])->k<=j.length->Q v L:=λv O B G D u M E N j L h1 h2 h6 h7 h8=>by subst hQ;exact⟨_,_,ax.pick h2 rfl,_,O,B,G,D,u,M,E,N,j,rfl,h1,h6,h7,h8,rfl⟩
 clear hQ;unfold bV nQ
 repeat' (first|refine kH (ur ?_ (Vf acN))|refine sx ?_|refine KH (r:=[.str s]) rp acP rp (by simpa using hk) (λe=>by simp[ho e]) acN acN acP (λS Y=>?_)|((with_reducible refine aN 92 ?_);(refine ij ht acO rp (λr_ a_ hr_ ha_=>?_)))|refine sb λS Y=>?_|refine s2 ?_ ?_|intro)
 have er:List.take k (ar.map ay)++[[.str s]]=(ar.take k++[s]).map ay:=by rw[ST,acD];rfl
 rw[er];refine OA (o:=some S) (ar:=ar.take k++[s]) (k:=k+1) (hS (1+r_) acN) rp rp (.here _) ht ha_ nofun (by simp[abV hk]) acN ?_;intro v a2 th2 le2 se2 Z at2 lo2 o2 ar2 hg ha2 ho2 hk2;rcases o2 with _|b2
 .exfalso;have:=ho2 rfl;subst this;simp at hk2
 unfold bV nQ;refine vw ?_;dsimp only[ab,af,List.cons_append,List.nil_append];have es:IntKind.i64.wrap (((k+1:Nat):Int)-1)=(k:Int):=by rw[IntWalk.i64_in _ acN];omega
 repeat' (first|refine sy ?_|refine yG ?_ (acC _) rp rfl|refine s2 ?_ ?_|intro)
 exact hq v a2 th2 le2 se2 Z at2 lo2 (some b2) ar2 _ (hg.le (abl _ acN)) (.one (.here _) (.one (.here _) (.one (.here _) (.nil _)))) ha2 nofun acN
end
