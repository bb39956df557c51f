/- part -/
import Derived.Test.YtfckbjehkbhkgaaGreatQwG
set_option linter.all false
set_option maxRecDepth 100000
set_option maxHeartbeats 0
namespace Go.Proofs.YtfckbjehkbhkgaaGreat.Am
def MW{bt j:Nat}{t:List UInt8}{a n:Nat}{s:gO}{rs:zM}{L D L2 K:SH}{KL:R}(ht:t.length<2^63)(Y:a<=t.length)(H:Sv n rs)(G:n<1000)(h4:s.sync.threads.length<2^30)(N:0<s.futures.length)(S:s.cells.length=5)(O:dF bt (az t a) L D)(B:dF j ⟨1,fO rs⟩ D L2)(Z:L2=K++dU rs)
  (E:∀(e:bA) (u:Nat),(0<=e.thread/\e.thread<4)->wO e->u<=t.length->(a<t.length->a<u)->KL (.agg [.acU e.thread,.acU e.kind,.acU e.obj,.acU e.value,.acU e.site,.lst (e.deps.map aa),.lst (e.frm.map aa)]) ((j,⟨1,fO rs⟩)::(bt,az t u)::L2)) :
  W.callM Tryz.prog 94 [.ptr bt 0 0,.agg [.lst (s.sync.locks.map LockD.enc),.acU s.sync.tx,.lst (s.sync.done.map au),.lst (s.sync.threads.map ThrD.enc),.lst (s.cells.map aa),.lst (s.futures.map aa),.lst (s.count.map aa)],.agg bK.enc,.sl j 0 4] L KL:=by
 subst Z;refine oW (K:=(bt,az t a)::(j,⟨1,fO rs⟩)::dU rs) (M:=K) (SB bt j t a n s rs ht Y H G h4 N S) ?_ ?_
 .exact(O.perm.trans (B.perm.cons _)).trans ((aar (l₁:=K) (l₂:=dU rs)).append_left [(bt,az t a),(j,⟨1,fO rs⟩)])
 .rintro _ _ ⟨e,u,rfl,h1,h2,h3,h5,h6,rfl⟩;exact⟨_,((aar (l₁:=dU rs) (l₂:=K)).append_left [(bt,az t u),(j,⟨1,fO rs⟩)]).trans (List.Perm.swap _ _ _),E e u h1 h2 h3 h6⟩
def U0{s:gO}{k:Nat}(j:nS bK s k)(E:k<=100)(e:bA)(D:wO e):aq Tryz.prog 58 [.agg bK.enc,.agg s.enc,.agg e.enc] (.tup [.agg gO.zero.enc,.bool false])\/∃s2,nS bK s2 (k+1)/\aq Tryz.prog 58 [.agg bK.enc,.agg s.enc,.agg e.enc] (.tup [.agg s2.enc,.bool true]):=by
 have u:=yT;have h:=nR bK s e (rE u acN j) (by have:=D.1;omega) (by have:=D.2;omega) (by rw[j.ce];have:=u.c12;omega) (by rw[j.fu];have:=u.f2;omega) (by rw[j.ct];have:=u.t4;omega);unfold px at h;cases B:H7 bK s e with
 |false=>rw[B,if_neg acR]at h;exact .inl h
 |true=>rw[B,if_pos rfl]at h;exact .inr ⟨_,GM j B,h⟩
def jf{o:Option Nat}{n:Nat}{K:AV->Prop}(j:o=none->n=0)(h:K (.acU (n:Int))):W.len (af o n) K:=by
 cases o with
 |none=>obtain rfl:=j rfl;show W.len .emp K;refine st ?_;exact h
 |some b=>show W.len (.sl b 0 n) K;refine st ?_;exact h
def DS{n m:Nat}{rs:zM}(H:Sv n rs)(h:n<=m):Sv m rs:=⟨H.1,λp hp=>⟨(H.2 p hp).1,abe (H.2 p hp).2 h⟩⟩
def ax.keep4{vs j:List AV}{D b2 B u:Nat}{x1 x2 x3 y G:Blk}{L O L2 N M E:SH}(h1:dF D x1 L O)(h2:dF b2 x2 O L2)(h3:dF B x3 L2 N)(h4:dF u y N M)(Z:t7 E M)(S:y=G)(Y:vs=j):ax vs L j ((D,x1)::(b2,x2)::(B,x3)::(u,G)::E):=by subst Y S;obtain⟨K,rfl⟩:=Z.ex;refine ax.forget (K:=K) ?_;exact(h1.perm.trans ((h2.perm.trans ((h3.perm.trans (h4.perm.cons _)).cons _)).cons _)).trans (act [(D,x1),(b2,x2),(B,x3),(u,y)] K E)
def ax.keep5{vs B:List AV}{G b2 E D j u:Nat}{x1 x2 x3 y M z:Blk}{v:Int}{L Y L2 S O N:SH}{rs:zM}(hu:u<rs.length)(h1:dF G x1 L Y)(h2:dF b2 x2 Y L2)(h3:dF E x3 L2 S)(h4:dF D y S O)(h5:dF j z O N)(hT:t7 (dU (rs.eraseIdx u)) N)(hx:x1=⟨1,(fO rs).set u [.sl j 0 (rs[u].2.length+1)]⟩)(hy:y=M)(Z:z=⟨1,rs[u].2.map aa++[[.acU v]]⟩)(hv:vs=B):
  ax vs L B ((G,⟨1,fO (rs.set u (some j,rs[u].2++[v]))⟩)::(b2,x2)::(E,x3)::(D,M)::dU (rs.set u (some j,rs[u].2++[v]))):=by
 have e1:(⟨1,fO (rs.set u (some j,rs[u].2++[v]))⟩:Blk)=x1:=by rw[hx,<-GL];simp[af]
 have e2:(⟨1,(rs[u].2++[v]).map aa⟩:Blk)=z:=by rw[Z];simp[aa]
 rw[e1];subst hv hy;obtain⟨K,rfl⟩:=hT.ex;refine ax.forget (K:=K) ?_;have hp:=(GK rs u hu (some j,rs[u].2++[v])).symm;dsimp only[ab]at hp;rw[e2]at hp;exact(h1.perm.trans ((h2.perm.trans ((h3.perm.trans ((h4.perm.trans (h5.perm.cons _)).cons _)).cons _)).cons _)).trans ((List.perm_append_comm_assoc [(G,x1),(b2,x2),(E,x3),(D,y),(j,z)] K (dU (rs.eraseIdx u))).trans (((((hp.cons _).cons _).cons _).cons _).append_left K))
structure IV where
 o:Option Nat
 ev:List bA
 s:gO
 rs:zM
 a:Nat
structure IV.Ok(t:List UInt8)(m:Nat)(p:IV):Prop where
 h0:p.o=none->p.ev=[]
 hl:p.ev.length<=m
 hE:∀e∈p.ev,wO e
 hL:nS bK p.s (1+p.ev.length)
 hR:Sv (1+p.ev.length) p.rs
 ha:p.a<=t.length
def IV.Ok.app{t:List UInt8}{m a u:Nat}{o:Option Nat}{ev:List bA}{s s2:gO}{rs j:zM}{B:Nat}(H:IV.Ok t m ⟨o,ev,s,rs,a⟩)(O:ev.length<m){e:bA}(E:wO e)(N:nS bK s2 (1+ev.length+1))(M:Sv (1+ev.length+1) j)(G:u<=t.length):IV.Ok t m ⟨some B,ev++[e],s2,j,u⟩:=by
 refine⟨nofun,acS,λx D=>?_,?_,?_,G⟩
 .rcases aak.1 D with h|h
  .exact H.hE x h
  .rw[aag.1 h];exact E
 .dsimp only;rw[List.length_append,List.length_singleton,show 1+(ev.length+1)=1+ev.length+1 by omega];exact N
 .dsimp only;rw[List.length_append,List.length_singleton,show 1+(ev.length+1)=1+ev.length+1 by omega];exact M
def IV.st(bt bs br m:Nat)(t:List UInt8)(p:IV):List AV×SH:=([.ptr bt 0 0,.acU (m:Int),.ptr bs 0 0,.pptr [bK.enc] 0 0,af p.o p.ev.length,.sl br 0 4],(br,⟨1,fO p.rs⟩)::(bt,az t p.a)::(bs,⟨7,[p.s.enc]⟩)::(ab p.o 7 (p.ev.map bA.enc)++dU p.rs))
def U1(Q:R)(bt bs br m:Nat)(t:List UInt8)(ht:t.length<2^63)(hm:m<=16)
  (hq:∀p:IV,IV.Ok t m p->Q (af p.o p.ev.length) (IV.st bt bs br m t p).2) (p0:IV) (h0:IV.Ok t m p0) {vs:List AV} {L:SH} (hz0:ax vs L (IV.st bt bs br m t p0).1 (IV.st bt bs br m t p0).2):W.loop (tZ Q) vs L:=by
 refine HZ (IV.st bt bs br m t) (λp=>t.length-p.a) (IV.Ok t m) p0 h0 hz0 ?_;clear hz0;rintro⟨o,ev,s,rs,a⟩ H nx hn;have hz:=hq _ H;clear hq;have h00:=H.h0;have hl:=H.hl;have hL:=H.hL;have Y:=H.hR;have ha:=H.ha;dsimp only[IV.st]at *;refine vw ?_;have hX:(ev.map bA.enc).length=ev.length:=by simp
 have D:o=none->ev.length=0:=λe=>by rw[h00 e];rfl
 have h0':o=none->ev.map bA.enc=[]:=λe=>by rw[h00 e];rfl
 rcases LE ev.length m with g1|g1
 .have hd:decide ((ev.length:Int)<(m:Int))=true:=decide_eq_true acN;rcases LE a t.length with g2|g2
  .have hd2:decide ((a:Int)<(t.length:Int))=true:=decide_eq_true acN;clear hz h0;have hth:s.sync.threads.length=4:=hL.th;have hfu:s.futures.length=1:=hL.fu;have hce:s.cells.length=5:=hL.ce;have hct:s.count.length=4:=hL.ct;have hrl:rs.length=4:=Y.1;have hst:=λe he=>U0 hL acN e he
   unfold az;simp only[dL,dO]at *
   repeat' (first|refine aw Z acN rp rfl ?_|refine IF (rs:=rs) B mm ?_|refine sx ?_|refine⟨trivial,jf D ?_⟩|refine jf D ?_|((with_reducible refine aN 94 ?_);(refine MW (t:=t) (a:=a) (s:=s) (rs:=rs) (K:=(bs,_)::ab o 7 (ev.map bA.enc)) ht ha Y acN acN acN hce rp rp rfl (λj N he1_ u M h2_=>?_);have h2_:=h2_ g2;obtain⟨Z,u1_⟩:=he1_;have B:j.thread.toNat<rs.length:=acN;have S:=yX B;obtain⟨hp0_,hp1_⟩:=Y.2 _ (LT B);have hXr_:(rs[j.thread.toNat].2.map aa).length=rs[j.thread.toNat].2.length:=acQ;have h0r_:rs[j.thread.toNat].1=none->rs[j.thread.toNat].2.map aa=[]:=(λe=>by rw[hp0_ e];rfl);have hcn_:=jn (l:=s.count) (i:=j.thread) (ao.2 ⟨Z,acN⟩);have hrw_:=DQ B;rcases hst j u with hst_|⟨O,E,hst_⟩))|refine aM rp (by repeat' (first|exact S|constructor)) hXr_ h0r_ acP acQ acS acS acP (λnr_ hnr_=>?_)|refine aM rp rp hX h0' acP acQ acS acS acP (λG hnb_=>?_)|refine sb λG hnb_=>?_|refine s2 ?_ ?_|intro)
   .exact hn ⟨o,ev,s,rs,N⟩ ⟨H.h0,H.hl,H.hE,H.hL,H.hR,M⟩ (by show t.length-N<t.length-a;omega) _ _ (ax.keepG acT acT acT acT (.refl _) rfl)
   .exact hn ⟨some G,ev++[j],O,rs.set j.thread.toNat (some nr_,rs[j.thread.toNat].2++[aT s j.thread]),N⟩ (H.app g1 u E (IE (DS Y acN) _ nofun acS) M) (by show t.length-N<t.length-a;omega) _ _ (ax.keep5 B acT acT acT acT acT acT rfl (by rw[ST];rfl) rfl (by simp[af]))
   .exact hn ⟨some G,ev++[j],O,rs,N⟩ (H.app g1 u E (DS Y acN) M) (by show t.length-N<t.length-a;omega) _ _ (ax.keep4 acT acT acT acT acT (by rw[ST];rfl) (by simp[af]))
   .exact hn ⟨some G,ev++[j],O,rs.set j.thread.toNat (some nr_,rs[j.thread.toNat].2++[aT s j.thread]),N⟩ (H.app g1 u E (IE (DS Y acN) _ nofun acS) M) (by show t.length-N<t.length-a;omega) _ _ (ax.keep5 B acT acT acT acT acT acT rfl (by rw[ST];rfl) rfl (by simp[af]))
  .have hd2:decide ((a:Int)<(t.length:Int))=false:=decide_eq_false acN;clear hn h0;simp only[dL,dO]at *;unfold az at *
   repeat' (first|refine sy ?_|refine⟨trivial,jf D ?_⟩|refine jf D ?_|refine s2 ?_ ?_|intro)
   exact hz
 .have hd:decide ((ev.length:Int)<(m:Int))=false:=decide_eq_false acN;clear hn h0;simp only[dL,dO]at *
  repeat' (first|refine sy ?_|refine⟨trivial,jf D ?_⟩|refine jf D ?_|refine s2 ?_ ?_|intro)
  all_goals exact hz
