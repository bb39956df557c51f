/- part -/
import Derived.Test.YtfckbjehkbhkgaaGreatQwi
import Derived.Sort.OwnSortedInts
import Derived.WalkSpells
import Derived.Deep.DeepMust
set_option linter.all false
set_option maxRecDepth 100000
set_option maxHeartbeats 0
namespace Go.Proofs.YtfckbjehkbhkgaaGreat.Am
def Fr.perm{B:Nat}{L E L'':SH}{H H':ah}(h:Fr B L H E H')(hp:E.Perm L''):Fr B L H L'' H':=
 ⟨h.next,h.bd,h.sub.perm hp,λb x D u=>⟨(h.keep b x D u).1,λG=>(h.keep b x D u).2 ((hp.map Prod.fst).mem_iff.2 G)⟩,h.dom,λb M j=>h.fresh b ((hp.map Prod.fst).mem_iff.2 M) j⟩
def ac.perm{P:Program}{f:FuncId}{args:List AV}{L:SH}{Q:AV->SH->Prop}(h:ac P f args L λv j=>∃L'',j.Perm L''/\Q v L''):ac P f args L Q:=⟨h.1,λH B u=>by
 obtain⟨v,M,j,G,E,L'',hp,D⟩:=h.2 H B u;exact⟨v,M,L'',G,E.perm hp,D⟩⟩
def fy.refl(K:SH):∀l:List AV,fy K l l
 |[]=>.nil
 |a::l=>.cons (.refl a) (fy.refl K l)
def ax.row{vs:List AV}{L K R:SH}{b n:Nat}{rows rows':List (List AV)}(O:L.Perm (K++(b,⟨n,rows⟩)::R))(B:rows.length=rows'.length)(N:∀(j:Nat) (r E:List AV),rows[j]? =some r->rows'[j]? =some E->fy K r E):ax vs L vs ((b,⟨n,rows'⟩)::R):=by
 refine⟨K,(b,⟨n,rows⟩)::R,O,⟨rfl,λi a a2 D u=>by rw[D]at u;cases u;exact .refl _⟩,rfl,λi p q D u=>?_⟩
 match i with
 |0=>cases D;cases u;exact⟨rfl,rfl,B,λj s s2 g1 Z=>(N j s s2 g1 Z).at_⟩
 |i+1=>simp only[acj]at D u;rw[D]at u;cases u;exact⟨rfl,rfl,rfl,λj r r2 Y M=>by rw[Y]at M;cases M;exact⟨rfl,λk a a2 S G=>by rw[S]at G;cases G;exact .refl _⟩⟩
inductive CF:SH->SH->SH->Prop where
 |nil (L:SH):CF L [] L
 |one {b:Nat} {x:Blk} {L L' R K:SH}:dF b x L L'->CF L' R K->CF L ((b,x)::R) K
 |slot {o:Option Nat} {n:Nat} {rows:List (List AV)} {L L' R K:SH}:eG o n rows L L'->CF L' R K->CF L (ab o n rows++R) K
def CF.perm{L R K:SH}(h:CF L R K):L.Perm (K++R):=by
 induction h with
 |nil L=>simp
 |one u hp j=>exact(u.perm.trans ((j.cons _).trans List.perm_middle.symm))
 |slot u hp j=>refine u.perm.trans ((j.append_left _).trans ?_);rw[<-abr,<-abr];exact aar.append_right _
def ax.pickE{vs j:List AV}{L R R2:SH}(h:cO L R)(u:vs=j)(B:R=R2):ax vs L j R2:=by subst B;exact ax.pick h u
def ax.rowA{vs E:List AV}{L A R K:SH}{b n:Nat}{rows rows':List (List AV)}(h:CF L (A++(b,⟨n,rows⟩)::R) K)(G:rows.length=rows'.length)(hr:∀(j:Nat) (r N:List AV),rows[j]? =some r->rows'[j]? =some N->fy K r N)(hv:vs=E):ax vs L E (A++(b,⟨n,rows'⟩)::R):=by
 subst hv;refine⟨K,_,h.perm,⟨rfl,λi a O B u=>by rw[B]at u;cases u;exact .refl _⟩,acQ,λi p q B u=>?_⟩;have D:p=q->p.1=q.1/\p.2.size=q.2.size/\p.2.rows.length=q.2.rows.length/\∀(j:Nat) (r M:List AV),p.2.rows[j]? =some r->q.2.rows[j]? =some M->r.length=M.length/\∀(k:Nat) (a O:AV),r[k]? =some a->M[k]? =some O->Fz K a O:=λe=>by subst e;exact⟨rfl,rfl,rfl,λj r M h3 Z=>by rw[h3]at Z;cases Z;exact⟨rfl,λk a O h5 Y=>by rw[h5]at Y;cases Y;exact .refl _⟩⟩
 rcases LE i A.length with S|S
 .rw[aaW S]at B u;rw[B]at u;cases u;exact D rfl
 .rw[aaL S]at B u;generalize i-A.length=k at B u
  match k with
  |0=>cases B;cases u;exact⟨rfl,rfl,G,λj r N g1 g2=>(hr j r N g1 g2).at_⟩
  |k+1=>simp only[acj]at B u;rw[B]at u;cases u;exact D rfl
section
section
variable {KL:AV->SH->Prop} {L L':SH}
theorem dJ{α:Type}{f:α->List AV}{l:List α}{b i n by_:Nat}{rows:List (List AV)}{L L':SH}{KL:AV->SH->Prop}(D:dF b ⟨n,rows⟩ L L')(E:∀x,(f x).length=n)(u:rows.length=i)(h2:2*(i+l.length)*by_<=2^48)(M:2*(i+l.length)<=2^62)(h4:∀x,(f x).all AV.one=true)
  (h:∀j,j∉L.names->KL (.sl j 0 (i+l.length)) ((j,⟨n,rows++l.map f⟩)::L')):W.append n by_ (.sl b 0 i) (.lst (l.map f)) L KL:=by
 have B:((l.map f).all λr=>r.all AV.one)=true:=by rw[abh];intro r u;obtain⟨x,_,rfl⟩:=abP.1 u;exact h4 x
 subst u;exact lJ (y:=⟨n,rows⟩) (l:=rows) D.mem' rfl acQ acQ (vG E) (by simpa using h2) (by simpa using M) B D (λj G=>by simpa using h j G)
end
theorem fm{P:Program}{KL:AV->SH->Prop}{g:FuncId}{args:List AV}{L:SH}{R:AV->SH->Prop}(h:ac P g args [] R)(B:∀v K,R v K->KL v (L++K)):W.callM P g args L KL:=
 ⟨.perm (h.frame (K:=[]) (R:=L) (.refl _) λu K j=>⟨L++K,aar,B u K j⟩)⟩
theorem J2{α β:Type}{f:α->β}{l m:List α}{n:Nat}(h:l.take n=m):((l.map f).drop 0).take n=m.map f:=by rw[List.drop_zero,<-acD,h]
end
section
open Go.RowKit Go.Sort
def yr(l:List Int):List Int:=l.mergeSort λx y=>decide (x<=y)
def A0(l:List Int):(yr l).length=l.length:=by simp[yr]
def J3{xs:List Int}{i:Nat}{r:List AV}(h:(xs.map aa)[i]? =some r):∃x,xs[i]? =some x/\r=[.int .i64 x]:=by
 rw[abn]at h;cases j:xs[i]? with
 |none=>rw[j]at h;cases h
 |some x=>rw[j]at h;cases h;exact⟨x,rfl,rfl⟩
def J4{P:Program}{f:FuncId}(hbody:∃fn c,P.funcs[f]? =some fn/\fn.body=some c)(b:Nat)(xs G:List Int)(hlen:G.length=xs.length)(v:AV)(ret:Addr->Nat->Value)
  (hrep:∀(w':World) (σ:bO) (T:Nat->Prop) (B:de) (a:Addr) (D:Nat),σ b=some B->B.ok->xs.length<=D->D<=maxLen->(0<D->a=⟨B.block,B.base+0*B.size,none⟩/\∃cs e,w'.heap[B.block]? =some (.cells cs e (0,0))/\B.base+(0+D)*B.size<=cs.size)->bC w' σ T v (ret a D))
  (hpos:∀(O S D:Nat) (w:World),Holds (Value.int .i64) w O S xs.toArray->O<w.heap.size->xs.length<=D->Calls P f #[.slice (some ⟨O,S,none⟩) xs.length D] w λe w'=>e=.returned (ret ⟨O,S,none⟩ D)/\∃n os,w'=grow (putRow (Value.int .i64) (Sort.ahead w n) O S G.toArray) os)
  (hzero:xs.length=0->∀(a:Addr) (D:Nat) (w:World),Calls P f #[.slice (some a) 0 D] w λe w'=>e=.returned (ret a D)/\w'=w) :
  ac P f [.sl b 0 xs.length] [(b,⟨1,xs.map aa⟩)] λu L=>u=v/\L=[(b,⟨1,G.map aa⟩)]:=by
 refine⟨hbody,λH hb hs=>⟨v,H.put b (some ⟨1,G.map aa⟩),[(b,⟨1,G.map aa⟩)],?_,?_,rfl,rfl⟩⟩
 .intro w σ vs hW hvs;obtain⟨v,rfl,hv⟩:=NT hvs;obtain⟨B,a,D,rfl,E,hnc,hmx,ha⟩:=hv.sl_inv;have hg:H.get b=some ⟨1,xs.map aa⟩:=hs.get (b,⟨1,xs.map aa⟩) acQ;obtain⟨pl',cs,e,g1,N⟩:=hW.live b _ hg;rw[E]at g1;cases g1;replace N:=N.1 (hv.sl_ok E);have hsz:B.size=1:=N.size;rcases abZ xs.length with h0|h0
  .have Z:xs=[]:=abU.1 h0;have hy:G=[]:=abU.1 acN;have hz:=hzero h0 a D w;rw[h0];refine hz.mono ?_;rintro e' w' ⟨rfl,rfl⟩;have hput:=hW.put hg E (mJ.refl N.block) (x':=⟨1,G.map aa⟩) N.size.symm (by simp[hy]) (by simpa[hy,Z]using N.room) (by simp[hy]);exact⟨_,σ,rfl,hrep _ _ _ B a D E (hv.sl_ok E) hnc hmx ha,hput.1,hput.2,λc B M=>.inl M⟩
  .have ha':=ha;obtain⟨rfl,cs',te,hcs',hroom⟩:=ha acN;rw[N.block]at hcs';cases hcs';have hr:=N.room;simp only[acl,Nat.mul_one]at hr;have hcell:∀(i:Nat) (x:Int),xs[i]? =some x->cs[B.base+i]? =some (.int .i64 x):=λi x Z=>by
    have hi:=aH Z;have Y:B.base+i<cs.size:=by omega
    have:=N.rep i [.int .i64 x] 0 (.int .i64 x) cs[B.base+i] (by simp[Z,aa]) rfl (by simp[abu Y]);cases hq:cs[B.base+i]with
    |_=>rw[hq]at this;cases this<;>rw[abu Y,hq]
   have hH:Holds (Value.int .i64) w B.block (B.base+0*B.size) xs.toArray:=λj hj=>by
    have hj':j<xs.length:=by simpa using hj
    refine⟨?_,by simp[World.frozen?,N.block]⟩;have:=hcell j xs[j] (mt hj');simp[World.cell?,N.block,this,hj']
   refine(hpos B.block (B.base+0*B.size) D w hH (hW.lt b B E) hnc).mono ?_;rintro e' w' ⟨rfl,n,os,rfl⟩;have hz:B.base+0*B.size=B.base:=by omega
   rw[show putRow (Value.int .i64) (Sort.ahead w n) B.block (B.base+0*B.size) G.toArray=putRow (Value.int .i64) (Sort.ahead w n) B.block B.base G.toArray by rw[hz]];have hw:mJ w (putRow (Value.int .i64) (Sort.ahead w n) B.block B.base G.toArray) B.block cs (putCells (Value.int .i64) B.base G.toArray cs) e:=
    ⟨rfl,rfl,rfl,by simp[Sort.ahead],N.block,by simp[putRow,mapBlock,Sort.ahead,Array.getElem?_modify,N.block,onCells],by simp[putCells],λd hd=>by
     have:B.block≠d:=λe=>hd e.symm
     simp[putRow,mapBlock,Sort.ahead,Array.getElem?_modify,this]⟩
   obtain⟨p1,p2⟩:=hW.put hg E hw (x':=⟨1,G.map aa⟩) N.size.symm (λi r hr=>by obtain⟨x,_,rfl⟩:=J3 hr;rfl) (by simp only[acl,Nat.mul_one];omega) (λi r j a u hr hj hu=>by
    obtain⟨x,Z,rfl⟩:=J3 hr
    match j,hj with
    |0,hj=>
     cases hj;have hi:=aH Z;have Y:B.base+i<cs.size:=by omega
     simp only[Nat.mul_one,acz]at hu;have:(putCells (Value.int .i64) B.base G.toArray cs)[B.base+i]? =some (.int .i64 x):=by
      have hx':G[i]=x:=by rw[mt hi]at Z;exact Option.some.inj Z
      simp[putCells,Y,hi,hx']
     rw[this]at hu;cases hu;exact .int _ _
    |j+1,hj=>simp at hj)
   generalize hw1:putRow (Value.int .i64) (Sort.ahead w n) B.block B.base G.toArray=w1 at p1 p2;have hbl:Below w1.heap.size w1 (grow w1 os):=⟨rfl,rfl,rfl,by simp[grow],λk hk=>heap_grow_old _ _ hk⟩;have hE:=p2.trans (ko hbl λc M=>(p1.apart c M).1);exact⟨_,σ,rfl,hrep _ _ _ B _ D E (hv.sl_ok E) hnc hmx (λh=>⟨rfl,by obtain⟨cs2,k1,k2⟩:=hE.shape _ _ _ N.block;exact⟨cs2,_,k1,acN⟩⟩),yp p1 hbl,p2.trans (ko hbl λc M=>(p1.apart c M).1),λc B M=>.inl M⟩
 .have hg:H.get b=some ⟨1,xs.map aa⟩:=hs.get (b,⟨1,xs.map aa⟩) acQ;refine⟨Fd _,λc M=>?_,⟨acQ,λp hp=>?_⟩,λc x M hn=>⟨?_,?_⟩,λc M h0=>?_,λc M hlt=>?_⟩
  .rw[ah.get_put,if_neg];exact hb c M;rintro rfl;rw[hb _ M]at hg;cases hg
  .simp only[aag]at hp;subst hp;rw[ah.get_put,if_pos rfl]
  .rw[ah.get_put,if_neg];exact M;rintro rfl;exact hn acQ
  .simpa using hn
  .rw[ah.get_put,if_neg];exact h0;rintro rfl;rw[hg]at h0;cases h0
  .simpa using M
def T6(b:Nat)(xs:List Int)(E:xs.length<4611686018427387904):ac Tryz.prog 79 [.sl b 0 xs.length] [(b,⟨1,xs.map aa⟩)] λv L=>v=.tup []/\L=[(b,⟨1,(yr xs).map aa⟩)]:=
 J4 ⟨_,_,Tryz.func79,rfl⟩ b xs (yr xs) (A0 xs) (.tup []) (λ_ _=>.tuple #[]) (λ_ _ _ _ _ _ _ _ _ _ _=>.tup [] [] rfl acQ)
  (λD B j w G u _=>Tryz.slices_Sort_int D B j xs w G u E) (λ_ a j w=>Tryz.slices_Sort_int_none (some a) j w)
def qK(l:List Int):(Lib.compact l).length<=l.length:=by unfold Lib.compact Lib.compactUpTo;rw[acl];exact abe (aci _ _) acQ
def Mi(b:Nat)(xs:List Int)(Y:xs.length<=9223372036854775807):ac Tryz.prog 80 [.sl b 0 xs.length] [(b,⟨1,xs.map aa⟩)] λv L=>v=.sl b 0 (Lib.compact xs).length/\L=[(b,⟨1,(Lib.compact xs++List.replicate (xs.length-(Lib.compact xs).length) 0).map aa⟩)]:=
 J4 ⟨_,_,Tryz.func80,rfl⟩ b xs _ (by have:=qK xs;simp;omega) (.sl b 0 (Lib.compact xs).length) (λa j=>.slice (some a) (Lib.compact xs).length j)
  (λw_ σ T O a j E G D h3 h4=>.sl b 0 _ O a j E G (abe (qK xs) D) h3 h4)
  (λM B j w Z N u=>(Tryz.slices_Compact_int M B j xs w Z Y u).mono λe w' ⟨E,q,D⟩=>⟨E,q,#[],by rw[D,grow_empty]⟩)
  (λG a j w=>by
   have S:xs=[]:=abU.1 G;subst S;exact Tryz.slices_Compact_int_empty (some a) j w)
def rP(xs:List Int)(G:xs.length*8<=140737488355328):ac Tryz.prog 52 [.lst (xs.map aa)] [] λv L=>∃o,v=af o xs.length/\L=ab o 1 (xs.map aa)/\(o=none->xs=[]):=by
 rcases List.eq_nil_or_concat xs with rfl|⟨S,y,j⟩
 .exact(Mh cloneI_zero ⟨_,_,Tryz.func52,rfl⟩).mono λv L ⟨B,O⟩=>⟨none,B,O,λ_=>rfl⟩
 .have u:xs.map aa≠[]:=by rw[j];simp
  refine(CE (λA n c xs w M B E N=>cloneI_any A n c xs w M B E N) ⟨_,_,Tryz.func52,rfl⟩ (xs.map aa) u (by simp[aa,AV.one]) (λr D=>by obtain⟨x,_,rfl⟩:=abP.1 D;rfl) (by simpa using G)).mono ?_;rintro v L ⟨b,rfl,rfl⟩;exact⟨some b,by simp[af],rfl,λh=>by cases h⟩
end
section
open Go.RowKit
def rQ(xs:List Bool)(B:xs.length<=140737488355328):ac Tryz.prog 51 [.lst (xs.map au)] [] λv L=>∃o,v=cU o xs.length/\L=ab o 1 (xs.map au)/\(o=none->xs=[]):=by refine(yq (λA n c xs w D G u E=>cloneB_any A n c xs w D G u E) ⟨_,_,Tryz.func51,rfl⟩ (xs.map au) (by simp[au,AV.one]) (λr j=>by obtain⟨x,_,rfl⟩:=abP.1 j;rfl) (by simpa using B)).mono ?_;rintro v L ⟨o,rfl,rfl,h⟩;exact⟨o,acQ,rfl,λe=>by simpa using h e⟩
end
section
open Go.RowKit
def yu(xs:List ThrD)(B:xs.length*24<=140737488355328):ac Tryz.prog 69 [.lst (xs.map ThrD.enc)] [] λv L=>∃o,v=cU o xs.length/\L=ab o 3 (xs.map ThrD.enc)/\(o=none->xs=[]):=by refine(yq (λA n c xs w D G u E=>cloneT_any A n c xs w D G u E) ⟨_,_,Tryz.func69,rfl⟩ (xs.map ThrD.enc) (by simp[ThrD.enc,AV.one]) (λr j=>by obtain⟨x,_,rfl⟩:=abP.1 j;rfl) (by simpa using B)).mono ?_;rintro v L ⟨o,rfl,rfl,h⟩;exact⟨o,acQ,rfl,λe=>by simpa using h e⟩
end
def HO{j:AV->SH->List Nat->Prop}{us:List W.WR}{i:Nat}{g:FuncId}{args:List AV}{L:SH}{R:AV->SH->Prop}(h:ac Tryz.prog g args [] R)(E:∀x∈us,W.free x ⟨i,[],[],[],true,[]⟩)(D:∀v K,R v K->j v (K++L) []):W.dcallM Tryz.prog us i g args L j:=
 ⟨[],L,.refl _,E,h.mono λu K B=>D u K B⟩
def Gg(Q:R)(x15 x16 x17:AV)(L14:SH):Prop:=
 W.faddr 0 x15 λx45=>W.store 1 x45 x17 L14 λL46=>Qi 2 x15 L46 λx48=>wc (.fn 51 []) [x48] L46 (Al Q x15 x16)
def pw(q:Nat)(o:Option Nat)(j:Nat)(l:LockD):List AV:=if j=q then [.acU l.owner,af o l.readers.length]else l.enc
def cV(q:Nat)(o:Option Nat)(ls:List LockD):List (List AV):=ls.zipIdx.map λp=>pw q o p.2 p.1
def dh(q:Nat)(o:Option Nat)(j:List LockD):(cV q o j).length=j.length:=by simp[cV]
def iq(q:Nat)(o:Option Nat)(u:List LockD)(j:Nat)(B:j<u.length):(cV q o u)[j]? =some (pw q o j u[j]):=by simp[cV,B]
def IT(q:Nat)(o:Option Nat)(ls:List LockD)(k:Nat):SH:=if q<k then ab o 1 ((ls.getD q default).readers.map aa)else []
def CG:List AV:=[.acU 0,.nils]
def lP(q:Nat)(o:Option Nat)(ls:List LockD)(k:Nat):List (List AV):=(cV q o ls).take k++List.replicate (ls.length-k) CG
def O2(q:Nat)(o:Option Nat)(j:List LockD)(k:Nat)(u:k<=j.length):(lP q o j k).length=j.length:=by simp[lP,dh];omega
def O3(q:Nat)(o E:Option Nat)(B:List LockD)(k:Nat)(h:k<=q\/o=E):(cV q o B).take k=(cV q E B).take k:=by
 rcases h with h|rfl
 .apply acp;intro j;rcases LE j k with D|D
  .rw[abJ D,abJ D];rcases LE j B.length with u|u
   .rw[iq _ _ _ _ u,iq _ _ _ _ u];simp[pw,show j≠q by omega]
   .rw[aah (by rw[dh];exact u),aah (by rw[dh];exact u)]
  .rw[aah acS,aah acS]
 .rfl
def Gh(q:Nat)(o u:Option Nat)(j:List LockD)(k:Nat)(D:k<j.length)(h:k<=q\/o=u):(lP q o j k).set k (pw q u k j[k])=lP q u j (k+1):=by
 unfold lP;have G:((cV q o j).take k).length=k:=by simp[dh];omega
 rw[List.set_append_right _ _ acN,G,Nat.sub_self];obtain⟨m,E⟩:∃m,j.length-k=m+1:=⟨j.length-k-1,acN⟩;rw[E,List.replicate_succ,List.set_cons_zero,O3 q o u j k h];have B:k<(cV q u j).length:=by rw[dh];exact D
 rw[Fn B,show j.length-(k+1)=m by omega];have:(cV q u j)[k]=pw q u k j[k]:=by have:=iq q u j k D;rw[mt B]at this;exact Option.some.inj this
 rw[this];simp
def Ra(q:Nat)(o:Option Nat)(j:List LockD)(k:Nat)(D:k<j.length):(lP q o j k)[k]? =some CG:=by
 unfold lP;have B:((cV q o j).take k).length=k:=by simp[dh];omega
 rw[aaL acN,B,Nat.sub_self];obtain⟨m,u⟩:∃m,j.length-k=m+1:=⟨j.length-k-1,acN⟩;rw[u];rfl
structure Rb(s:SyncD)(q:Nat)(v:AV)(L:SH):Prop where
 ex:∃(bl:Nat) (o od ot:Option Nat),v=.agg [.sl bl 0 s.locks.length,.acU s.tx,cU od s.done.length,cU ot s.threads.length]/\
  L=(bl,⟨2,cV q o s.locks⟩)::(IT q o s.locks s.locks.length++(ab od 1 (s.done.map au)++ab ot 3 (s.threads.map ThrD.enc)))/\(od=none->s.done=[])/\(ot=none->s.threads=[])/\(o=none->q<s.locks.length->(s.locks.getD q default).readers=[])
def Mj(s:SyncD)(q E b2 D:Nat)(h1:s.locks.length<2^40)(hrd:∀l∈s.locks,l.readers.length<2^40)(Q:AV->SH->Prop)
  (S:∀o:Option Nat,(o=none->q<s.locks.length->(s.locks.getD q default).readers=[])->Gg Q (.ptr E 0 0) (.ptr b2 0 0) (.sl D 0 s.locks.length) ((D,⟨2,cV q o s.locks⟩)::(b2,⟨4,[[.nils,.acU 0,.nils,.nils]]⟩)::(E,⟨4,[s.enc]⟩)::IT q o s.locks s.locks.length)) :
  W.loop (An Q) [.ptr E 0 0,.ptr b2 0 0,.sl D 0 s.locks.length,.lst (s.locks.map LockD.enc),.acU s.locks.length,.acU (0:Nat)] [(D,⟨2,List.replicate s.locks.length CG⟩),(b2,⟨4,[[.nils,.acU 0,.nils,.nils]]⟩),(E,⟨4,[s.enc]⟩)]:=by
 refine aL s.locks.length (λk (o:Option Nat)=>([.ptr E 0 0,.ptr b2 0 0,.sl D 0 s.locks.length,.lst (s.locks.map LockD.enc),.acU s.locks.length,.acU k],(D,⟨2,lP q o s.locks k⟩)::(b2,⟨4,[[.nils,.acU 0,.nils,.nils]]⟩)::(E,⟨4,[s.enc]⟩)::IT q o s.locks k)) (λk o=>o=none->q<k->(s.locks.getD q default).readers=[]) none (λ_ h=>by omega) (fR rfl (by simp[lP,IT])) ?_;intro k o hk ho;dsimp only;refine vw ?_;rcases Nat.lt_or_ge k s.locks.length with u|u
 .have hd:=aS u;have hx:=aj (f:=LockD.enc) u;have hz:=Ra q o s.locks k u;have hkl:k<(lP q o s.locks k).length:=by rw[O2 _ _ _ _ hk];exact u
  have Z:(s.locks[k]).readers.length*8<=140737488355328:=by have:=hrd _ (LT u);omega
  repeat' (first|refine sy ?_|intro)
  refine HO (rP _ Z) (by simp[rm,rz,W.free,ai]) ?_;rintro v K ⟨B,rfl,rfl,N⟩
  skip
  have fin:∀(L:SH),L=ab B 1 ((s.locks[k]).readers.map aa)++((D,⟨2,(lP q o s.locks k).set k [.acU (s.locks[k]).owner,af B (s.locks[k]).readers.length]⟩)::(b2,⟨4,[[.nils,.acU 0,.nils,.nils]]⟩)::(E,⟨4,[s.enc]⟩)::IT q o s.locks k)->
    ∃j Y,k<j/\j<=s.locks.length/\(Y=none->q<j->(s.locks.getD q default).readers=[])/\ax [.ptr E 0 0,.ptr b2 0 0,.sl D 0 s.locks.length,.lst (s.locks.map LockD.enc),.acU s.locks.length,.acU (IntKind.i64.wrap ((k:Int)+1))] L
     [.ptr E 0 0,.ptr b2 0 0,.sl D 0 s.locks.length,.lst (s.locks.map LockD.enc),.acU s.locks.length,.acU j] ((D,⟨2,lP q Y s.locks j⟩)::(b2,⟨4,[[.nils,.acU 0,.nils,.nils]]⟩)::(E,⟨4,[s.enc]⟩)::IT q Y s.locks j):=by
   intro L hL;subst hL;rw[av u acN];by_cases O:k=q
   .subst O;refine⟨k+1,B,acN,acN,λe _=>by simpa[List.getD,u]using N e,?_⟩;rw[<-Gh k o B s.locks k u (.inl (Fd _))];have e1:IT k o s.locks k=[]:=by simp[IT]
    have e2:IT k B s.locks (k+1)=ab B 1 ((s.locks[k]).readers.map aa):=by simp[IT,List.getD,u]
    have e3:pw k B k s.locks[k]=[.acU (s.locks[k]).owner,af B (s.locks[k]).readers.length]:=by simp[pw]
    rw[e1,e2,e3];exact ax.forget (K:=[]) aar
   .refine⟨k+1,o,acN,acN,λe hq=>ho e acN,?_⟩;have e1:IT q o s.locks (k+1)=IT q o s.locks k:=by
     by_cases hq:q<k
     .simp[IT,hq,show q<k+1 by omega]
     .simp[IT,hq,show¬q<k+1 by omega]
    rw[e1,<-Gh q o o s.locks k u (.inr rfl)];have e3:pw q o k s.locks[k]=[.acU (s.locks[k]).owner,.lst ((s.locks[k]).readers.map aa)]:=by simp[pw,O,LockD.enc]
    rw[e3];refine ax.row (K:=ab B 1 ((s.locks[k]).readers.map aa)) (.refl _) acQ ?_;intro j r r' M G;rw[abs]at M G;by_cases hj:k=j
    .rw[if_pos hj]at M G;rw[if_pos acN]at M G;cases M;cases G;refine .cons (.refl _) (.cons ?_ .nil);exact Fz.slot (f:=aa) rfl (λe=>by rw[N e];rfl) acR (λy _=>rfl) (λy _ q a a2 h1 h2=>by rw[h1]at h2;cases h2;exact .refl _)
    .rw[if_neg hj]at M G;rw[M]at G;cases G;exact fy.refl _ _
  cases B with
  |none=>
   dsimp only[ab,af,List.nil_append]at fin ⊢
   repeat' (first|refine sy ?_|intro)
   exact fin _ rfl
  |some b'=>
   dsimp only[ab,af,List.cons_append,List.nil_append]at fin ⊢
   repeat' (first|refine sy ?_|intro)
   exact fin _ rfl
 .have hd:=aW u;have hk0:k=s.locks.length:=by omega
  subst hk0;have:=S o ho;rw[show lP q o s.locks s.locks.length=cV q o s.locks by simp[lP,dh,aaT]];refine kH (QI ?_);refine WF (Jz hd ?_);refine vw ?_;exact this
def Gi{s:SyncD}(j:s.threads.length<2^40):s.threads.length*24<=140737488355328:=by omega
def J5(s:SyncD)(q:Nat)(h1:s.locks.length<2^40)(h2:s.done.length<=140737488351232)(h3:s.threads.length<2^40)(G:∀l∈s.locks,l.readers.length<2^40):
  ac Tryz.prog 78 [.agg s.enc] [] (Rb s q):=by
 refine ac.fz (Ao _ _ _ ?_);refine vw ?_;generalize hQ:(λ(v:AV) (L:SH)=>∃Y L2,ax [v] L [Y] L2/\Rb s q Y L2)=Q
 repeat' (first|refine sx ?_|refine sb λE Z=>?_|fail)
 rename_i S _ O _;revert E;intro D _;refine Mj s q S O D h1 G Q ?_;intro o ho;unfold Gg
 repeat' (first|refine sy ?_|intro)
 refine fm (rQ _ acN) ?_;rintro v K ⟨B,rfl,rfl,M⟩;refine vw ?_;have fin:∀(v:AV) (L:SH) (u:Option Nat),(u=none->s.threads=[])->v=.agg [.sl D 0 s.locks.length,.acU s.tx,cU B s.done.length,cU u s.threads.length]->
   (∃x y:Blk,L=(D,⟨2,cV q o s.locks⟩)::(O,x)::(S,y)::(IT q o s.locks s.locks.length++ab B 1 (s.done.map au)++ab u 3 (s.threads.map ThrD.enc)))->Q v L:=by
  rintro v L u j rfl ⟨x,y,rfl⟩;subst hQ;refine⟨_,_,ax.forget (K:=[(O,x),(S,y)]) (R:=(D,⟨2,cV q o s.locks⟩)::(IT q o s.locks s.locks.length++ab B 1 (s.done.map au)++ab u 3 (s.threads.map ThrD.enc))) ?_,⟨D,o,B,u,rfl,by rw[abr],M,j,ho⟩⟩;exact(List.Perm.swap _ _ _).trans ((List.Perm.swap _ _ _).cons _)
 cases B with
 |none=>
  dsimp only[cU]at fin ⊢
  repeat' (first|refine sy ?_|intro)
  refine fm (yu _ (Gi h3)) ?_;rintro v K ⟨u,rfl,rfl,j⟩;refine vw ?_;cases u with
  |none=>
   dsimp only[cU]at fin ⊢
   repeat' (first|refine sy ?_|intro)
   exact fin _ _ none j rfl ⟨_,_,rfl⟩
  |some N=>
   dsimp only[cU]at fin ⊢
   repeat' (first|refine sy ?_|intro)
   exact fin _ _ (some N) j rfl ⟨_,_,rfl⟩
 |some bd=>
  dsimp only[cU]at fin ⊢
  repeat' (first|refine sy ?_|intro)
  refine fm (yu _ (Gi h3)) ?_;rintro v K ⟨u,rfl,rfl,j⟩;refine vw ?_;cases u with
  |none=>
   dsimp only[cU]at fin ⊢
   repeat' (first|refine sy ?_|intro)
   exact fin _ _ none j rfl ⟨_,_,rfl⟩
  |some N=>
   dsimp only[cU]at fin ⊢
   repeat' (first|refine sy ?_|intro)
   exact fin _ _ (some N) j rfl ⟨_,_,rfl⟩
section
def eR(T:List ThrD)(c:Int)(i:Nat):Bool:=bH (T.getD i default) c
def aJ(T:List ThrD)(c:Int)(n:Nat):List Nat:=(List.range n).filter λi=>eR T c i
def bB(l:List Nat)(wake:Int):Int:=match l with
 |[]=>-1
 |u::l=>if(u::l).any (λx=>decide ((x:Int)=wake))then wake else u
def da(T:List ThrD)(c wake:Int):Int:=bB (aJ T c T.length) wake
def gj(T:List ThrD)(i:Nat)(st:Int):List ThrD:=T.set i {T.getD i default with status:=st}
def fI(T:List ThrD)(c wake:Int):List ThrD:=if 0<=da T c wake then gj T (da T c wake).toNat 4 else T
theorem uD{l:List Nat}{wake:Int}(h:0<=bB l wake):(bB l wake).toNat∈l:=by
 cases l with
 |nil=>simp[bB]at h
 |cons u l=>
  simp only[bB]at h ⊢;split
  .rename_i D;obtain⟨x,j,B⟩:=acw.1 D;have:=of_decide_eq_true B;rw[<-this];simpa using j
  .simp
theorem CH(l:List Nat)(wake:Int):bB l wake=-1\/0<=bB l wake:=by
 cases l with
 |nil=>simp[bB]
 |cons u l=>
  right;simp only[bB];split
  .rename_i B;obtain⟨x,D,j⟩:=acw.1 B;have:=of_decide_eq_true j;omega
  .omega
theorem J6(l:List Nat)(i:Nat)(wake:Int):bB (l++[i]) wake=if bB l wake<0\/(i:Int)=wake then(i:Int)else bB l wake:=by
 cases l with
 |nil=>simp only[bB,abK];split<;>simp_all
 |cons u l=>
  have j:=CH (u::l) wake;simp only[abX];rw[bB,<-abX,List.any_append];by_cases E:(i:Int)=wake
  .simp[E]
  .by_cases B:(u::l).any (λx=>decide ((x:Int)=wake))=true
   .have D:bB (u::l) wake=wake:=by simp only[bB];rw[if_pos B]
    rw[D]at j ⊢;obtain⟨x,M,G⟩:=acw.1 B;have:=of_decide_eq_true G;rw[B,Bool.true_or,if_pos rfl,if_neg acN]
   .have D:bB (u::l) wake=u:=by simp only[bB];rw[if_neg B]
    rw[D,if_neg (by simp only[Bool.or_eq_true,not_or];exact⟨B,by simp[E]⟩),if_neg acN]
theorem iF(T:List ThrD)(c:Int)(n:Nat):aJ T c (n+1)=aJ T c n++(if eR T c n then [n]else []):=by simp only[aJ,List.range_succ,acK,List.filter_cons,List.filter_nil]
theorem uE{T:List ThrD}{c:Int}{n x:Nat}(h:x∈aJ T c n):x<n:=by simp only[aJ,acn,acd]at h;exact h.1
theorem A3(T:List ThrD)(i:Nat)(st:Int)(j:i<T.length):(T.map ThrD.enc).set i ((ThrD.enc T[i]).set 0 (.acU st))=(gj T i st).map ThrD.enc:=by unfold gj;rw[abT];congr 1;simp[List.getD,j,ThrD.enc]
section
variable (a b d:AV) (bt:Nat)
theorem O4(T:List ThrD)(c wake:Int)(hT:T.length<2^40)(S:([a,b,d,.sl bt 0 T.length]:List AV).all AV.one=true):
  ac Tryz.prog 83 [.agg [a,b,d,.sl bt 0 T.length],.acU c,.acU wake] [(bt,⟨3,T.map ThrD.enc⟩)] λv L=>v=.acU (da T c wake)/\L=[(bt,⟨3,(fI T c wake).map ThrD.enc⟩)]:=by
 refine yk _ _ _ _ _ ?_;refine vw ?_;generalize hQ:(λ(v:AV) (L:SH)=>v=AV.acU (da T c wake)/\L=[(bt,(⟨3,(fI T c wake).map ThrD.enc⟩:Blk))])=Q
 repeat' (first|refine BN ?_ rfl S (by exact aaq _)|refine sy ?_|intro)
 refine qi T.length (λi=>([.acU c,.acU wake,.pptr [[a,b,d,.sl bt 0 T.length]] 0 0,.acU (bB (aJ T c i) wake),.sl bt 0 T.length,.acU T.length,.acU i],[(bt,⟨3,T.map ThrD.enc⟩)])) (λ_=>True) trivial (by simp[aJ,bB]) rfl ?_;intro i hi _;dsimp only;refine vw ?_;rcases Nat.lt_or_ge i T.length with G|G
 .have hd:=aS G;have hx:=aj (f:=ThrD.enc) G;have hsn:=J6 (aJ T c i) i wake;have M:=iF T c i;have D:eR T c i=bH T[i] c:=by simp[eR,G]
  have u:∀ch:Int,ch=bB (aJ T c (i+1)) wake->∃j,i<j/\j<=T.length/\True/\ax [.acU c,.acU wake,.pptr [[a,b,d,.sl bt 0 T.length]] 0 0,.acU ch,.sl bt 0 T.length,.acU T.length,.acU (IntKind.i64.wrap ((i:Int)+1))] [(bt,⟨3,T.map ThrD.enc⟩)]
    [.acU c,.acU wake,.pptr [[a,b,d,.sl bt 0 T.length]] 0 0,.acU (bB (aJ T c j) wake),.sl bt 0 T.length,.acU T.length,.acU j] [(bt,⟨3,T.map ThrD.enc⟩)]:=λch hch=>⟨i+1,acN,acN,trivial,fR (by rw[av G acN,hch]) rfl⟩
  cases hw:bH T[i] c with
  |false=>
   rw[hw]at D
   repeat' (first|refine sy ?_|(refine pf 110 ?_;refine pm (nq _ _) ?_)|refine s2 ?_ ?_|intro)
   exact u _ (by rw[M,D];simp)
  |true=>
   rw[hw]at D;have hn:bB (aJ T c (i+1)) wake=if bB (aJ T c i) wake<0\/(i:Int)=wake then(i:Int)else bB (aJ T c i) wake:=by rw[M,D,if_pos rfl,hsn]
   by_cases B:bB (aJ T c i) wake<0
   .have Y:decide (bB (aJ T c i) wake<0)=true:=decide_eq_true B
    repeat' (first|refine sy ?_|(refine pf 110 ?_;refine pm (nq _ _) ?_)|refine s2 ?_ ?_|intro)
    exact u _ (by rw[hn,if_pos (.inl B)])
   .have Y:decide (bB (aJ T c i) wake<0)=false:=decide_eq_false B;by_cases g2:(i:Int)=wake
    .have e2:decide ((i:Int)=wake)=true:=decide_eq_true g2
     repeat' (first|refine sy ?_|(refine pf 110 ?_;refine pm (nq _ _) ?_)|refine s2 ?_ ?_|intro)
     exact u _ (by rw[hn,if_pos (.inr g2)])
    .have e2:decide ((i:Int)=wake)=false:=decide_eq_false g2
     repeat' (first|refine sy ?_|(refine pf 110 ?_;refine pm (nq _ _) ?_)|refine s2 ?_ ?_|intro)
     exact u _ (by rw[hn,if_neg acN])
 .have hd:=aW G;have hi0:i=T.length:=by omega
  subst hi0;have hns:bB (aJ T c T.length) wake=da T c wake:=rfl;rw[hns];by_cases B:0<=da T c wake
  .have Y:decide (0<=da T c wake)=true:=decide_eq_true B;have N:(da T c wake).toNat<T.length:=uE (uD B);have hx:=aj (f:=ThrD.enc) N;have O:da T c wake=((da T c wake).toNat:Nat):=(abD B).symm;have Z:=A3 T _ 4 N;have E:fI T c wake=gj T (da T c wake).toNat 4:=by rw[fI,if_pos B]
   generalize hk:(da T c wake).toNat=k at *;rw[O]at Y hQ ⊢
   repeat' (first|refine sy ?_|refine s2 ?_ ?_|intro)
   subst hQ;exact⟨rfl,by rw[E,<-Z]⟩
  .have Y:decide (0<=da T c wake)=false:=decide_eq_false B;have E:fI T c wake=T:=by rw[fI,if_neg B]
   repeat' (first|refine sy ?_|refine s2 ?_ ?_|intro)
   subst hQ;exact⟨rfl,by rw[E]⟩
def dt(T:List ThrD)(c:Int)(n:Nat):List ThrD:=T.zipIdx.map λp=>if decide (p.2<n)&&bH p.1 c then {p.1 with status:=4} else p.1
theorem eW(T:List ThrD)(c:Int)(n i:Nat)(j:i<T.length):(dt T c n)[i]? =some (if decide (i<n)&&bH T[i] c then {T[i]with status:=4} else T[i]):=by simp[dt,j]
theorem c9(T:List ThrD)(c:Int)(n:Nat):(dt T c n).length=T.length:=by simp[dt]
theorem HP(T:List ThrD)(c:Int):dt T c 0=T:=by
 apply acp;intro i;rcases LE i T.length with j|j
 .rw[eW T c 0 i j];simp[j]
 .rw[aah (by rw[c9];exact j),aah j]
theorem HQ(T:List ThrD)(c:Int)(n:Nat)(G:n<T.length):dt T c (n+1)=if bH T[n] c then(dt T c n).set n {T[n]with status:=4} else dt T c n:=by
 apply acp;intro i;have u:∀j:i<T.length,(if bH T[n] c then(dt T c n).set n {T[n]with status:=4} else dt T c n)[i]? =some (if decide (i<n+1)&&bH T[i] c then {T[i]with status:=4} else T[i]):=λj=>by
  by_cases B:i=n
  .subst B;cases D:bH T[i] c with
   |true=>simp[D,c9,j]
   |false=>simp[D,eW T c i i j]
  .have E:decide (i<n+1)=decide (i<n):=by apply decide_eq_decide.2;omega
   rw[E];split
   .rw[List.getElem?_set_ne acN];exact eW T c n i j
   .exact eW T c n i j
 rcases LE i T.length with j|j
 .rw[u j,eW T c (n+1) i j]
 .rw[aah (by rw[c9];exact j),aah];split<;>simp[c9,j]
theorem HR(T:List ThrD)(c:Int)(hT:T.length<2^40)(G:([a,b,d,.sl bt 0 T.length]:List AV).all AV.one=true):
  ac Tryz.prog 84 [.agg [a,b,d,.sl bt 0 T.length],.acU c] [(bt,⟨3,T.map ThrD.enc⟩)] λv L=>v=.acU ((aJ T c T.length).length:Nat)/\L=[(bt,⟨3,(dt T c T.length).map ThrD.enc⟩)]:=by
 refine sJ _ _ _ _ ?_;refine vw ?_;generalize hQ:(λ(v:AV) (L:SH)=>v=AV.acU ((aJ T c T.length).length:Nat)/\L=[(bt,(⟨3,(dt T c T.length).map ThrD.enc⟩:Blk))])=Q
 repeat' (first|refine BN ?_ rfl G (by exact aaq _)|refine sy ?_|intro)
 refine qi T.length (λi=>([.acU c,.pptr [[a,b,d,.sl bt 0 T.length]] 0 0,.acU ((aJ T c i).length:Nat),.sl bt 0 T.length,.acU T.length,.acU i],[(bt,⟨3,(dt T c i).map ThrD.enc⟩)])) (λ_=>True) trivial (by simp[aJ]) (by rw[HP]) ?_;intro i hi _;dsimp only;refine vw ?_;rcases Nat.lt_or_ge i T.length with j|j
 .have Z:=aS j;have E:i<(dt T c i).length:=by rw[c9];exact j
  have N:(dt T c i)[i]=T[i]:=by have:=eW T c i i j;rw[mt E]at this;simpa using this
  have Y:=aj (f:=ThrD.enc) E;rw[N]at Y;have D:=iF T c i;have u:eR T c i=bH T[i] c:=by simp[eR,j]
  have B:=HQ T c i j;have M:(aJ T c i).length<=i:=abe (aci _ _) acQ;cases S:bH T[i] c with
  |false=>
   rw[S]at u B
   repeat' (first|refine sy ?_|(refine pf 110 ?_;refine pm (nq _ _) ?_)|refine s2 ?_ ?_|intro)
   refine⟨i+1,acN,acN,trivial,fR (by rw[av j acN,D,u];simp[co]) (by rw[B];simp)⟩
  |true=>
   rw[S]at u B
   repeat' (first|refine sy ?_|(refine pf 110 ?_;refine pm (nq _ _) ?_)|refine s2 ?_ ?_|intro)
   refine⟨i+1,acN,acN,trivial,fR (by rw[av j acN,D,u,av (Nat.lt_of_le_of_lt M j) acN];simp[co]) ?_⟩;rw[B,if_pos rfl,abT];simp[ThrD.enc]
 .have Z:=aW j;have O:i=T.length:=by omega
  subst O
  repeat' (first|refine sy ?_|refine s2 ?_ ?_|intro)
  subst hQ;exact⟨rfl,rfl⟩
end
end
def zA(P:Program)(g:FuncId)(cs:List AV)(p:Int->Bool):Prop:=∀x:Int,aq P g (.acU x::cs) (.bool (p x))
def zA.call{P:Program}{g:FuncId}{cs:List AV}{p:Int->Bool}(h:zA P g cs p){x:Int}{L:SH}{KL:AV->SH->Prop}(j:KL (.bool (p x)) L):W.call P (.fn g cs) [.acU x] L KL:=⟨(h x).call j⟩
def yv(p:Int->Bool)(l:List Int):Int:=if l.any p then(l.findIdx p:Int)else -1
def O5{p:Int->Bool}{l:List Int}{i:Nat}(B:i<l.length)(u:(l.take i).any p=false)(hp:p l[i]=true):yv p l=i:=by
 have E:l.any p=true:=acw.2 ⟨l[i],LT B,hp⟩;have D:l.findIdx p=i:=by rw[List.findIdx_eq B];refine⟨hp,λj G=>?_⟩;have:=List.any_eq_false.1 u l[j] (List.mem_take_iff_getElem.2 ⟨j,acN,rfl⟩);simpa using this
 rw[yv,if_pos E,D]
def HS(g:FuncId)(cs:List AV)(p:Int->Bool)(hp:zA Tryz.prog g cs p)(b:Nat)(xs:List Int)(D:xs.length<2^62):ac Tryz.prog 109 [.sl b 0 xs.length,.fn g cs] [(b,⟨1,xs.map aa⟩)] λv L=>v=.acU (yv p xs)/\L=[(b,⟨1,xs.map aa⟩)]:=by
 refine i4 _ _ _ _ ?_;refine vw ?_;generalize B:(λ(v:AV) (L:SH)=>v=AV.acU (yv p xs)/\L=[(b,(⟨1,xs.map aa⟩:Blk))])=Q
 repeat' (first|refine sy ?_|intro)
 refine qi xs.length (λi=>([.sl b 0 xs.length,.fn g cs,.acU xs.length,.acU i],[(b,⟨1,xs.map aa⟩)])) (λi=>(xs.take i).any p=false) acQ rfl rfl ?_;intro i M j;dsimp only;refine vw ?_;rcases Nat.lt_or_ge i xs.length with u|u
 .have G:=aj (f:=aa) u;have E:=aS u
  repeat' (first|refine Q4 (zA.call hp ?_)|refine sy ?_|refine s2 (λh=>?_) λh=>?_|intro)
  .subst B;exact⟨by rw[O5 u j h],rfl⟩
  .refine⟨i+1,acN,acN,?_,fR (by rw[av u D]<;>rfl) rfl⟩;rw[Fn u,List.any_append,j];simpa using h
 .have E:=aW u
  repeat' (first|refine sy ?_|refine s2 ?_ ?_|intro)
  subst B;rw[aaT u]at j;exact⟨by rw[yv,if_neg (by simp[j])],rfl⟩
def rR{k:IntKind}{m d:Nat}:cE (some (.int k (m:Int))) d=some m:=by simp[cE,gQ]
def Mk{p:Int->Bool}{l:List Int}(h:yv p l≠-1):∃i:Nat,yv p l=i/\i<l.length/\(l.take (i+1)).filter (λx=>!p x)=l.take i:=by
 unfold yv at h ⊢;split at h
 .rename_i B;rw[if_pos B];refine⟨l.findIdx p,rfl,List.findIdx_lt_length.2 (acw.1 B),?_⟩;have u:=List.findIdx_lt_length.2 (acw.1 B);rw[Fn u,acK];have E:p l[l.findIdx p]=true:=List.findIdx_getElem;rw[List.filter_cons_of_neg (by simp[E]),List.filter_nil,aby,List.filter_eq_self];intro x D;obtain⟨j,G,rfl⟩:=List.mem_take_iff_getElem.1 D;have:=List.not_of_lt_findIdx (xs:=l) (p:=p) (i:=j) acN;simpa using this
 .exact absurd rfl h
def Gj{p:Int->Bool}{l:List Int}(h:yv p l=-1):l.filter (λx=>!p x)=l:=by
 unfold yv at h;split at h
 .omega
 .rename_i j;rw[List.filter_eq_self];intro x u;simp only[acI,List.any_eq_false]at j;simpa using j x u
def EU(g:FuncId)(cs:List AV)(p:Int->Bool)(hp:zA Tryz.prog g cs p)(b:Nat)(xs:List Int)(hl:xs.length<2^61):ac Tryz.prog 81 [.sl b 0 xs.length,.fn g cs] [(b,⟨1,xs.map aa⟩)] λv L=>∃R:List Int,v=.sl b 0 (xs.filter λx=>!p x).length/\L=[(b,⟨1,R.map aa⟩)]/\R.take (xs.filter λx=>!p x).length=(xs.filter λx=>!p x)/\R.length=xs.length:=by
 refine iN _ _ _ _ ?_;refine vw ?_;refine Q4 (LZ (zw (HS g cs p hp b xs acN) ?_));rintro v L ⟨rfl,rfl⟩;refine vw ?_;generalize hQ:(λ(v:AV) (L:SH)=>∃R:List Int,v=AV.sl b 0 (xs.filter λx=>!p x).length/\L=[(b,(⟨1,R.map aa⟩:Blk))]/\R.take (xs.filter λx=>!p x).length=(xs.filter λx=>!p x)/\R.length=xs.length)=Q;by_cases Z:yv p xs=-1
 .have hd:decide (yv p xs=-1)=true:=decide_eq_true Z
  repeat' (first|refine sy ?_|intro)
  subst hQ;refine⟨xs,?_,rfl,?_,rfl⟩
  .rw[Gj Z]
  .rw[Gj Z];simp
 .have hd:decide (yv p xs=-1)=false:=decide_eq_false Z;obtain⟨u,hi0,hlt,E⟩:=Mk Z;rw[hi0]at hd ⊢
  repeat' (first|refine sy ?_|intro)
  rw[av hlt acN];have hc:∀j,((xs.take j).filter λx=>!p x).length<=j:=λj=>abe (aci _ _) acS
  refine aL (xs.length-(u+1)) (λk (R:List Int)=>([.sl b 0 xs.length,.fn g cs,.acU (((xs.take (u+1+k)).filter λx=>!p x).length:Nat),.acU (u+1+k:Nat)],[(b,⟨1,R.map aa⟩)]))
   (λk R=>R.length=xs.length/\R.take ((xs.take (u+1+k)).filter λx=>!p x).length=((xs.take (u+1+k)).filter λx=>!p x)/\R.drop (u+1+k)=xs.drop (u+1+k)) xs ⟨rfl,by rw[acz,E];simp,rfl⟩ (fR (by rw[acz,E,abm,abV acN]) rfl) ?_
  rintro k R hk ⟨S,O,r3⟩;dsimp only;refine vw ?_;have N:=hc (u+1+k);generalize hj:u+1+k=j at O r3 N ⊢;rcases Nat.lt_or_ge j xs.length with G|G
  .have hd2:=aS G;have h1':j<R.length:=by omega
   have hxj:R[j]=xs[j]:=by have h0:=congrArg (λl=>l[0]?) r3;simp only[abY,acz]at h0;rw[mt h1',mt G]at h0;exact Option.some.inj h0
   have hx:=aj (f:=aa) h1';rw[hxj]at hx;have D:(xs.take (j+1)).filter (λx=>!p x)=(xs.take j).filter (λx=>!p x)++([xs[j]].filter λx=>!p x):=by rw[Fn G,acK]
   have hm1:((xs.take j).filter λx=>!p x).length<xs.length:=by omega
   have Y:((xs.take j).filter λx=>!p x).length<R.length:=by omega
   have hxm:=aj (f:=aa) Y;cases B:p xs[j]with
   |true=>
    have hnp:(!p xs[j])=false:=by simp[B]
    repeat' (first|refine Q4 (zA.call hp ?_)|refine sy ?_|refine s2 ?_ ?_|intro)
    refine⟨k+1,R,acN,acN,⟨S,?_,?_⟩,fR ?_ rfl⟩
    .rw[show u+1+(k+1)=j+1 by omega,D];simpa[B]using O
    .rw[show u+1+(k+1)=j+1 by omega,<-List.drop_drop,<-List.drop_drop,r3]
    .rw[show u+1+(k+1)=j+1 by omega,D,av G acN];simp[B,co]
   |false=>
    have hnp:(!p xs[j])=true:=by simp[B]
    repeat' (first|refine Q4 (zA.call hp ?_)|refine sy ?_|refine s2 ?_ ?_|intro)
    refine⟨k+1,R.set ((xs.take j).filter λx=>!p x).length xs[j],acN,acN,⟨by simp[S],?_,?_⟩,fR ?_ ?_⟩
    .rw[show u+1+(k+1)=j+1 by omega,D];simp only[List.filter_cons,B,Bool.not_false,if_true,List.filter_nil,aal,ach];rw[Fn (by simpa using Y),List.take_set_of_le (Fd _),O];simp
    .rw[show u+1+(k+1)=j+1 by omega,List.drop_set_of_lt acN,<-List.drop_drop,<-List.drop_drop,r3]
    .rw[show u+1+(k+1)=j+1 by omega,D,av G acN,av hm1 acN];simp[B,co]
    .simp[abT,aa]
  .have hd2:=aW G;have ht:xs.take j=xs:=aaT G;rw[ht]at O N ⊢;have M:(xs.filter λx=>!p x).length<=xs.length:=aci _ _;generalize hmm:(xs.filter λx=>!p x).length=m at O N M hQ ⊢
   repeat' (first|refine sy ?_|refine xN (l:=m) (h:=xs.length) rR rfl M (Fd _) (.head _) rfl ?_|refine OU (.here _) rfl (by simp[S];omega) rfl ?_|refine xN (l:=0) (h:=m) rfl rR (abt _) M (.head _) rfl ?_|intro)
   subst hQ;refine⟨R.take m++List.replicate (xs.length-m) 0,acQ,?_,?_,?_⟩
   .simp only[abI];rw[List.drop_of_length_le (by simp[S];omega),aby,ST,acD];simp[aa]
   .rw[List.take_left' (by simp[S];omega)];exact O
   .simp[S];omega
def O6(t x:Int)(L:SH):zA Tryz.prog 82 [.pptr [[.acU t]] 0 0] (λx=>decide (x=t)):=λx=>by
 refine wD _ _ _ _ ?_;refine vw ?_
 repeat' (first|refine sy ?_|intro)
 exact⟨rfl,rfl⟩
def jJ(d:Array Int)(G:∀i j,i<j->j<d.size->d[i]!<=d[j]!):∀m,m<=d.size->
  (Lib.compactUpTo d m).Pairwise (·<·)/\(∀x∈Lib.compactUpTo d m,∃j,j<m/\x=d[j]!)/\(∀j,j<m->d[j]!∈Lib.compactUpTo d m)
 |0,_=>⟨by simp[Lib.compactUpTo],by simp[Lib.compactUpTo],by intro j D;omega⟩
 | m+1,hm=>by
  obtain⟨Y,h2,M⟩:=jJ d G m acN;rw[Lib.compactUpTo_succ];by_cases B:Lib.keeps d m=true
  .rw[if_pos B];refine⟨?_,?_,?_⟩
   .rw[List.pairwise_append];refine⟨Y,acQ,?_⟩;intro x u y N;obtain⟨j,D,rfl⟩:=h2 x u;simp at N;subst N;have hle:=G j m D acN;have Z:d[j]!≠d[m]! :=by
     intro O;have E:0<m:=by omega
     have h4:d[m]!≠d[m-1]! :=by intro S;rw[Lib.keeps_neg E S]at B;cases B
     have S:d[j]!<=d[m-1]! :=by
      rcases LE j (m-1)with h|h
      .exact G j (m-1) h acN
      .rw[show j=m-1 from by omega];exact Int.le_refl _
     have h6:d[m-1]!<=d[m]! :=G (m-1) m acN acN;exact h4 acN
    omega
   .intro x u;rw[aak]at u;rcases u with u|u
    .obtain⟨j,D,e⟩:=h2 x u;exact⟨j,acN,e⟩
    .simp at u;exact⟨m,acN,u⟩
   .intro j D;rw[aak];rcases LE j m with h|h
    .exact .inl (M j h)
    .rw[show j=m from by omega];exact .inr acQ
  .rw[if_neg B,aby];have E:0<m:=by
    rcases abZ m with h|h
    .subst h;exact absurd (Lib.keeps_lt_one d 0 acN) B
    .exact h
   have O:d[m]! =d[m-1]! :=by apply Classical.byContradiction;intro h;exact B (Lib.keeps_pos h)
   refine⟨Y,λx u=>?_,λj D=>?_⟩
   .obtain⟨j,D,e⟩:=h2 x u;exact⟨j,acN,e⟩
   .rcases LE j m with h|h
    .exact M j h
    .rw[show j=m from by omega,O];exact M (m-1) acN
def Ua(l:List Int)(j:Nat)(u:j<l.length):l.toArray[j]! =l[j]:=by rw[getElem!_pos _ _ (by simpa using u)];simp
def CK(l:List Int):∀i j,i<j->j<(yr l).toArray.size->(yr l).toArray[i]!<=(yr l).toArray[j]! :=by
 intro i j B D;have u:j<(yr l).length:=by simpa using D
 rw[Ua _ i acN,Ua _ j u];have hp:(yr l).Pairwise (λx y=>(decide (x<=y))=true):=List.pairwise_mergeSort (λa b c=>by simp;omega) (λa b=>by simp;omega) l;have:=(List.pairwise_iff_getElem.1 hp) i j acN u B;simpa using this
def Qj(l:List Int):List Int:=Lib.compact (yr l)
def HU(l:List Int)(x:Int):x∈Qj l↔x∈l:=by
 obtain⟨M,G,E⟩:=jJ (yr l).toArray (CK _) (yr l).length acQ;have D:∀y,y∈yr l↔y∈l:=λy=>by simp[yr,List.mem_mergeSort]
 unfold Qj Lib.compact;constructor
 .intro B;obtain⟨j,u,rfl⟩:=G x B;rw[Ua _ j u];exact(D _).1 (LT _)
 .intro B;obtain⟨j,u,rfl⟩:=abC ((D x).2 B);rw[<-Ua _ j u];exact E j u
def NX(l:List Int):(Qj l).Pairwise (·<·):=
 (jJ (yr l).toArray (CK _) (yr l).length acQ).1
def Ub{a b:List Int}(B:a.Pairwise (·<·))(u:b.Pairwise (·<·))(h:∀x,x∈a↔x∈b):a=b:=by
 have E:a.Nodup:=B.imp λj=>by omega
 have D:b.Nodup:=u.imp λj=>by omega
 exact List.Perm.eq_of_pairwise (le:=λx y:Int=>x<y) (λx y _ _ M G=>by omega) B u ((List.perm_ext_iff_of_nodup E D).2 h)
structure bI where
 pc:Int
 regs:List Int
 taint:List (List Int)
 ev:Int
def eX(l:List Int):List AV:=[.lst (l.map aa)]
def bI.enc(s:bI):List AV:=[.acU s.pc,.lst (s.regs.map aa),.lst (s.taint.map eX),.acU s.ev]
def bI.zero:bI:=⟨0,[],[],0⟩
def bI.has(s:bI)(r:Int):Bool:=inB r s.regs.length
def bI.reg(s:bI)(r:Int):Int:=s.regs.getD r.toNat 0
def bI.tnt(s:bI)(r:Int):List Int:=s.taint.getD r.toNat []
def bI.put(s:bI)(a v:Int)(t:List Int):bI:=⟨IntKind.i64.wrap (s.pc+1),s.regs.set a.toNat v,s.taint.set a.toNat t,s.ev⟩
def Rm(n:Int):Int:=if n<1\/100<n then 0 else n
def Zp(n a:Int):Md (Rm n) a=Md n a:=by
 unfold Rm;split
 .rename_i h;unfold Md;simp only[show¬(0:Int)=4 by omega,show¬(0:Int)=5 by omega,show¬n=4 by omega,show¬n=5 by omega,if_false]
 .rfl
def WX(n a b:Int):uC (Rm n) a b=uC n a b:=by
 unfold Rm;split
 .rename_i h;unfold uC;rw[if_neg acN,if_neg acN,if_neg acN,if_neg acN,if_neg acN,if_neg acN,if_neg acN,if_neg acN,if_neg acN,if_neg acN,if_neg acN,if_neg acN,if_neg acN];rw[if_neg acN,if_neg acN,if_neg acN,if_neg acN,if_neg acN,if_neg acN,if_neg acN,if_neg acN,if_neg acN,if_neg acN,if_neg acN,if_neg acN,if_neg acN]
 .rfl
def cL(i:cb)(s:bI):Option bI:=
 if i.op=1 then(if s.has i.a then some (s.put i.a i.n [])else none)else
 if i.op=2 then(if s.has i.a&&s.has i.b then some (s.put i.a (s.reg i.b) (s.tnt i.b))else none)else
 if i.op=3 then(if s.has i.a&&s.has i.b&&(Md i.n (s.reg i.b)).2 then some (s.put i.a (Md i.n (s.reg i.b)).1 (s.tnt i.b))else none)else
 if i.op=4 then(if s.has i.a&&s.has i.b&&s.has i.c&&(uC i.n (s.reg i.b) (s.reg i.c)).2 then some (s.put i.a (uC i.n (s.reg i.b) (s.reg i.c)).1 (Qj (s.tnt i.b++s.tnt i.c)))else none)else
 some {s with pc:=i.a}
def gA(ins:List cb):Nat->bI->bI×Bool
 |0,s=>if inB s.pc ins.length then(if(ins.getD s.pc.toNat default).op<1\/5<(ins.getD s.pc.toNat default).op then(s,true)else(bI.zero,false))else(bI.zero,false)
 | k+1,s=>if inB s.pc ins.length then(if(ins.getD s.pc.toNat default).op<1\/5<(ins.getD s.pc.toNat default).op then(s,true)else
   match cL (ins.getD s.pc.toNat default) s with
   |none=>(bI.zero,false)
   |some s2=>gA ins k s2)else(bI.zero,false)
def cD(c:i6)(s:bI):bI×Bool:=
 if(s.regs.length:Int)=c.regs/\(s.taint.length:Int)=c.regs then gA c.ins c.ins.length s else(bI.zero,false)
def Ka(p:bI×Bool):AV:=.tup [.agg p.1.enc,.bool p.2]
structure j8(U:List Int)(s:bI):Prop where
 len:s.taint.length=s.regs.length
 small:s.regs.length<2^40
 short:∀l∈s.taint,l.length<=2^30
 sub:∀l∈s.taint,∀x∈l,x∈U
def Gm:∀{l U:List Int},l.Nodup->(∀x∈l,x∈U)->l.length<=U.length
 |[],U,_,_=>by simp
 | x::l,U,hn,hs=>by
  have u:x∈U:=hs x acQ;have B:=abG.1 hn;have:=Gm (l:=l) (U:=U.erase x) B.2 λy j=>(List.mem_erase_of_ne (by rintro rfl;exact B.1 j)).2 (hs y (by simp[j]))
  rw[List.length_erase_of_mem u]at this;have:=List.length_pos_of_mem u;simp only[abi];omega
def Gn{U l:List Int}(h:∀x∈l,x∈U):(Qj l).length<=U.length:=by have j:(Qj l).Nodup:=(NX l).imp (λ{a b} (h:a<b)=>by omega);exact Gm j λx u=>h x ((HU l x).1 u)
def j8.tnt{U:List Int}{s:bI}(h:j8 U s)(r:Int):(s.tnt r).length<=2^30/\∀x∈s.tnt r,x∈U:=by
 unfold bI.tnt;rw[acG];cases j:s.taint[r.toNat]? with
 |none=>simp
 |some l=>exact⟨h.short l (abN j),h.sub l (abN j)⟩
def j8.put{U:List Int}{s:bI}(h:j8 U s)(a v:Int){t:List Int}(u:t.length<=2^30)(h2:∀x∈t,x∈U):j8 U (s.put a v t):=by
 refine⟨by simp[bI.put,h.len],by simpa[bI.put]using h.small,λl j=>?_,λl j=>?_⟩
 .rcases aca j with g|g
  .exact h.short l g
  .rw[g];exact u
 .rcases aca j with g|g
  .exact h.sub l g
  .rw[g];exact h2
def j8.step{U:List Int}(D:U.length<=2^30){s s2:bI}{i:cb}(h:j8 U s)(j:cL i s=some s2):j8 U s2:=by
 unfold cL at j;split at j
 .split at j
  .cases j;exact h.put _ _ acQ acQ
  .cases j
 .split at j
  .split at j
   .cases j;exact h.put _ _ (h.tnt _).1 (h.tnt _).2
   .cases j
  .split at j
   .split at j
    .cases j;exact h.put _ _ (h.tnt _).1 (h.tnt _).2
    .cases j
   .split at j
    .split at j
     .cases j;have B:∀x∈s.tnt i.b++s.tnt i.c,x∈U:=λx u=>by
       rcases aak.1 u with g|g
       .exact(h.tnt _).2 x g
       .exact(h.tnt _).2 x g
      exact h.put _ _ (abe (Gn B) D) λx u=>B x ((HU _ _).1 u)
     .cases j
    .cases j;exact⟨h.len,h.small,h.short,h.sub⟩
def NY(s:bI)(v:AV)(L:SH):Prop:=
 ∃(o t:Option Nat),v=.agg [.acU s.pc,cU o s.regs.length,cU t s.taint.length,.acU s.ev]/\L=ab o 1 (s.regs.map aa)++ab t 1 (s.taint.map eX)/\(o=none->s.regs=[])/\(t=none->s.taint=[])
def O7(p:Int×Bool):AV:=.tup [.acU p.1,.bool p.2]
section
def gN(s:bI)(o t:Option Nat):List AV:=[.acU s.pc,cU o s.regs.length,cU t s.taint.length,.acU s.ev]
def Tp(s:bI)(bs:Nat)(o t:Option Nat):SH:=(bs,⟨4,[gN s o t]⟩)::(ab o 1 (s.regs.map aa)++ab t 1 (s.taint.map eX))
theorem lQ{s:bI}{r:Int}:s.has r=true↔∃k:Nat,r=k/\k<s.regs.length:=by unfold bI.has;rw[ao];exact⟨λ⟨u,j⟩=>⟨r.toNat,acN,acN⟩,λ⟨k,u,j⟩=>by omega⟩
theorem lR{o:Option Nat}{α:Type}{l:List α}{k:Nat}(h:o=none->l=[])(j:k<l.length):∃b,o=some b:=by
 cases o with
 |none=>rw[h rfl]at j;simp at j
 |some b=>exact⟨b,rfl⟩
section
variable (s:bI) (bs:Nat) (o t:Option Nat) (ho:o=none->s.regs=[]) (ht:t=none->s.taint=[]) (hlen:s.taint.length=s.regs.length) (hsm:s.regs.length<2^40) (hsh:∀l∈s.taint,l.length<=2^30) (ia ib ic n site:Int)
include ho ht hlen hsm hsh
end
end
section
def qM:List AV:=[.acU 0,.nils,.nils,.acU 0]
theorem HV{P:Program}{KL R1:AV->SH->Prop}{g:FuncId}{args:List AV}{L K R:SH}(h:ac P g args K R1)(E:L.Perm (K++R))(D:∀v j,R1 v j->KL v (R++j)):W.callM P g args L KL:=
 ⟨.perm (h.frame E λu j B=>⟨R++j,aar,D u j B⟩)⟩
theorem wK(s:bI)(a v:Int)(t:List Int):(s.put a v t).regs.length=s.regs.length/\(s.put a v t).taint.length=s.taint.length:=by simp[bI.put]
theorem Gp{s s2:bI}{i:cb}(j:cL i s=some s2):s2.regs.length=s.regs.length/\s2.taint.length=s.taint.length:=by
 unfold cL at j;split at j
 .split at j
  .cases j;exact wK _ _ _ _
  .cases j
 .split at j
  .split at j
   .cases j;exact wK _ _ _ _
   .cases j
  .split at j
   .split at j
    .cases j;exact wK _ _ _ _
    .cases j
   .split at j
    .split at j
     .cases j;exact wK _ _ _ _
     .cases j
    .cases j;exact⟨rfl,rfl⟩
theorem nu{α:Type}{K:SH}{f:α->List AV}{l:List α}{o:Option Nat}{n:Nat}(j:n=l.length)(B:o=none->l=[])(u:∀b,o=some b->(b,(⟨1,l.map f⟩:Blk))∈K):Fz K (cU o n) (.lst (l.map f)):=by
 cases o with
 |none=>rw[B rfl];exact .refl _
 |some b=>exact Fz.sls (u b rfl) rfl acR j
theorem Uc{K:SH}{s:bI}{o t:Option Nat}(ho:o=none->s.regs=[])(ht:t=none->s.taint=[])(h:∀p∈ab o 1 (s.regs.map aa)++ab t 1 (s.taint.map eX),p∈K):Fz K (.agg (gN s o t)) (.agg s.enc):=
 Fz.aggs (.cons (.refl _) (.cons (nu rfl ho λb e=>h _ (by subst e;simp[ab])) (.cons (nu rfl ht λb e=>h _ (by subst e;simp[ab])) (.cons (.refl _) .nil))))
theorem HW(K:SH):Fz K (.agg qM) (.agg bI.zero.enc):=Fz.aggs (.cons (.refl _) (.cons .nils (.cons .nils (.cons (.refl _) .nil))))
theorem HX{K:SH}{a b:AV}{u:Bool}(h:Fz K a b):Fz K (.tup [a,.bool u]) (.tup [b,.bool u]):=.tup _ _ rfl λi x y j B=>by
 match i with
 |0=>cases j;cases B;exact h
 |1=>cases j;cases B;exact .refl _
 |i+2=>simp at j
theorem NZ{ins:List cb}{k:Nat}{s:bI}(h:inB s.pc ins.length=false):gA ins k s=(bI.zero,false):=by cases k<;>simp[gA,h]
theorem Rn{ins:List cb}{k:Nat}{s:bI}(h:inB s.pc ins.length=true)(h2:(ins.getD s.pc.toNat default).op<1\/5<(ins.getD s.pc.toNat default).op):gA ins k s=(s,true):=by cases k<;>simp only[gA,h,if_true,if_pos h2]
theorem Ro{ins:List cb}{k:Nat}{s:bI}(h:inB s.pc ins.length=true)(h2:¬((ins.getD s.pc.toNat default).op<1\/5<(ins.getD s.pc.toNat default).op))(j:cL (ins.getD s.pc.toNat default) s=none):gA ins k s=(bI.zero,false):=by cases k<;>simp only[gA,h,if_true,if_neg h2,j]
theorem Rp{ins:List cb}{s:bI}(h:inB s.pc ins.length=true)(h2:¬((ins.getD s.pc.toNat default).op<1\/5<(ins.getD s.pc.toNat default).op)):gA ins 0 s=(bI.zero,false):=by simp only[gA,h,if_true,if_neg h2]
theorem Rq{ins:List cb}{k:Nat}{s s2:bI}(h:inB s.pc ins.length=true)(h2:¬((ins.getD s.pc.toNat default).op<1\/5<(ins.getD s.pc.toNat default).op))(j:cL (ins.getD s.pc.toNat default) s=some s2):gA ins (k+1) s=gA ins k s2:=by simp only[gA,h,if_true,if_neg h2,j]
section
variable (c:i6) (s:bI) (U:List Int) (hU:U.length<=2^30) (hT:j8 U s) (hc:c.ins.length<2^40) (o t:Option Nat) (ho:o=none->s.regs=[]) (ht:t=none->s.taint=[])
include hU hT hc ho ht
end
end
section
theorem Rr{U:List Int}(hU:U.length<=2^30){ins:List cb}:∀(k:Nat) {s:bI},j8 U s->j8 U (gA ins k s).1:=by
 have j:j8 U bI.zero:=⟨rfl,acR,nofun,nofun⟩;intro k
 induction k with
 |zero=>
  intro s h;unfold gA;split
  .split
   .exact h
   .exact j
  .exact j
 |succ k u=>
  intro s h;unfold gA;split
  .split
   .exact h
   .split
    .exact j
    .rename_i s2 B;exact u (h.step hU B)
  .exact j
theorem Kb{U:List Int}(hU:U.length<=2^30){c:i6}{s:bI}(h:j8 U s):j8 U (cD c s).1:=by
 unfold cD;split
 .exact Rr hU _ h
 .exact⟨rfl,acR,nofun,nofun⟩
section
variable (c:i6) (s:bI) (U:List Int) (hU:U.length<=2^30) (hr:s.regs.length<2^40) (ht:s.taint.length<2^40) (hsh:∀l∈s.taint,l.length<=2^30) (hsub:∀l∈s.taint,∀x∈l,x∈U) (hc:c.ins.length<2^40)
include hU hr ht hsh hsub hc
end
end
def bM(w:aF):SyncD:=⟨List.replicate w.locks.length ⟨-1,[]⟩,-1,List.replicate w.futures.length false,(List.replicate w.threads.length (⟨0,0,false⟩:ThrD)).set 0 ⟨1,0,false⟩⟩
section
def O8(op:Int):Bool:=decide (1<=op)&&decide (op<=5)
section
variable (w:aF)
end
def Rs(n:Nat)(i:cb):Bool:=if i.op=5 then inB i.a n else if i.op=10 then inB i.b n else true
end
section
noncomputable def lu (P:Prop):Bool:=@decide P (Classical.propDecidable P)
theorem iG{P:Prop}(h:P):lu P=true:=@decide_eq_true P (Classical.propDecidable P) h
theorem gU{P:Prop}(h:¬P):lu P=false:=@decide_eq_false P (Classical.propDecidable P) h
theorem iH{P:Prop}:lu P=true↔P:=⟨λh=>@of_decide_eq_true P (Classical.propDecidable P) h,iG⟩
structure Zq(ins:List cb):Prop where
 len:ins.length<2^48
 jmp:∀i∈ins,i.op=5->0<=i.a/\i.a<ins.length
 last:∀(k:Nat) (i:cb),ins[k]? =some i->(i.op=28↔k+1=ins.length)
section
variable {ins:List cb} (hf:Zq ins)
include hf
end
end
section
structure Mm(w:aF)(t n:Nat)(regs:Int)(k:Nat)(i:cb):Prop where
 lo:1<=i.op
 hi:i.op<=28
 last:i.op=28↔k+1=n
 fin:i.op=28->i.site=-1
 sin:i.op≠28->inB i.site w.sites.length=true
 sth:i.op≠28->(w.sites.getD i.site.toNat default).thread=t
 regs:∀r∈bS i,0<=r/\r<regs
 obj:sK w i=true
 jmp:Rs n i=true
structure HY(w:aF)(t:Nat)(c:i6):Prop where
 r0:0<=c.regs
 r32:c.regs<=32
 ne:0<c.ins.length
 ins:∀(k:Nat) (h:k<c.ins.length),Mm w t c.ins.length c.regs k c.ins[k]
 lans:∀k,k<c.ins.length->yn c.ins k
theorem Mm.fit{w:aF}{t:Nat}{c:i6}(hl:c.ins.length<2^48)(h:∀(k:Nat) (h:k<c.ins.length),Mm w t c.ins.length c.regs k c.ins[k]):Zq c.ins where
 len:=hl
 jmp:=λi j u=>by obtain⟨k,hk,rfl⟩:=List.mem_iff_getElem.1 j;have:=(h k hk).jmp;unfold Rs at this;rw[if_pos u]at this;exact ao.1 this
 last:=λk i j=>by obtain⟨hk,rfl⟩:=abL.1 j;exact(h k hk).last
theorem O9(i:cb):(bS i).length<=3:=by
 unfold bS
 repeat' split
 all_goals simp
section
variable {w:aF} {t:Nat} {c:i6} {k:Nat} {i:cb} (h0:0<=c.regs) (Q:R) (n45:W.Kn)
 (hno:¬Mm w t c.ins.length c.regs k i->Q (.bool false) [])
 (hgo:(∀r∈bS i,0<=r/\r<c.regs)->sK w i=true->Rs c.ins.length i=true->n45 [.acU t,.pptr [w.enc] 0 0,.pptr [c.enc] 0 0,.lst (c.ins.map cb.enc),.acU c.ins.length,.acU (k+1:Nat)] [])
 (hl:c.ins.length<2^48) (hk:k<c.ins.length)
include h0 hno hgo hl hk
end
end
structure CL(c:aU)(l:List aU):Prop where
 lo:1<=c.size
 hi:c.size<=4
 fits:c.size<=l.length
 eq:∀k:Nat,(k:Int)<c.size->l[k]? =some ⟨c.name,k,c.size,false,c.init⟩
inductive fo:List aU->List bU->Prop where
 |nil:fo [] []
 |one (c:aU) (l:List aU) (ns:List bU):c.size=0->c.index=0->fo l ns->fo (c::l) (c.name::ns)
 |arr (c:aU) (l:List aU) (ns:List bU):c.size≠0->CL c (c::l)->fo (l.drop (c.size.toNat-1)) ns->fo (c::l) (c.name::ns)
def fo.nil_iff{j:List bU}:fo [] j↔j=[]:=⟨λh=>by cases h;rfl,λh=>by subst h;exact .nil⟩
def fo.one_iff{c:aU}{l:List aU}{D:List bU}(E:c.size=0):fo (c::l) D↔c.index=0/\∃j,D=c.name::j/\fo l j:=by
 constructor
 .intro h;cases h with
  |one _ _ j _ B u=>exact⟨B,j,rfl,u⟩
  |arr _ _ j G=>exact absurd E G
 .rintro⟨B,j,rfl,u⟩;exact .one _ _ _ E B u
def fo.arr_iff{c:aU}{l:List aU}{D:List bU}(E:c.size≠0):fo (c::l) D↔CL c (c::l)/\∃j,D=c.name::j/\fo (l.drop (c.size.toNat-1)) j:=by
 constructor
 .intro h;cases h with
  |one _ _ j G=>exact absurd G E
  |arr _ _ j _ B u=>exact⟨B,j,rfl,u⟩
 .rintro⟨B,j,rfl,u⟩;exact .arr _ _ _ E B u
def iO(l:List aU)(i:Nat)(acc:List bU):Prop:=i<=l.length/\acc.length<=i/\∀ns,fo l ns↔∃n2,ns=acc++n2/\fo (l.drop i) n2
def iO.zero(l:List aU):iO l 0 []:=⟨abt _,Fd _,λj=>by simp⟩
def iO.step{l:List aU}{i:Nat}{j:List bU}(h:iO l i j)(B:i<l.length)(D:l[i].size=0)(M:l[i].index=0):iO l (i+1) (j++[l[i].name]):=by
 refine⟨B,by have:=h.2.1;simp;omega,λE=>?_⟩;rw[h.2.2 E,ack B];constructor
 .rintro⟨N,rfl,G⟩;obtain⟨_,n3,rfl,u⟩:=(fo.one_iff D).1 G;exact⟨n3,acQ,u⟩
 .rintro⟨n3,rfl,u⟩;exact⟨l[i].name::n3,acQ,(fo.one_iff D).2 ⟨M,n3,rfl,u⟩⟩
def iO.jump{l:List aU}{i:Nat}{j:List bU}(h:iO l i j)(G:i<l.length)(D:l[i].size≠0)(u:CL l[i] (l.drop i)):iO l (i+l[i].size.toNat) (j++[l[i].name]):=by
 have S:=u.lo;have M:=u.fits;rw[acH]at M;refine⟨acN,by have:=h.2.1;simp;omega,λE=>?_⟩;rw[h.2.2 E];rw[ack G]at u ⊢;have e:(l.drop (i+1)).drop (l[i].size.toNat-1)=l.drop (i+l[i].size.toNat):=by rw[List.drop_drop];congr 1;omega
 constructor
 .rintro⟨O,rfl,N⟩;obtain⟨_,n3,rfl,B⟩:=(fo.arr_iff D).1 N;exact⟨n3,acQ,e▸B⟩
 .rintro⟨n3,rfl,B⟩;exact⟨l[i].name::n3,acQ,(fo.arr_iff D).2 ⟨u,n3,rfl,e▸B⟩⟩
def iO.done{l:List aU}{i:Nat}{j:List bU}(h:iO l i j)(u:l.length<=i):fo l j:=by rw[h.2.2 j,List.drop_eq_nil_of_le u];exact⟨[],acQ,.nil⟩
def iO.no1{l:List aU}{i:Nat}{u:List bU}(h:iO l i u)(D:i<l.length)(M:l[i].size=0)(G:l[i].index≠0):∀j,¬fo l j:=λj B=>by rw[h.2.2 j,ack D]at B;obtain⟨N,_,E⟩:=B;exact G ((fo.one_iff M).1 E).1
def iO.no2{l:List aU}{i:Nat}{B:List bU}(h:iO l i B)(E:i<l.length)(M:l[i].size≠0)(D:¬CL l[i] (l.drop i)):∀j,¬fo l j:=λj u=>by rw[h.2.2 j]at u;rw[ack E]at u D;obtain⟨N,_,G⟩:=u;exact D ((fo.arr_iff M).1 G).1
def fo.uniq{l:List aU}{a b:List bU}(h:fo l a):fo l b->a=b:=by
 induction h generalizing b with
 |nil=>intro j;rw[fo.nil_iff.1 j]
 |one c l E D M _ u=>intro j;obtain⟨_,G,rfl,B⟩:=(fo.one_iff D).1 j;rw[u B]
 |arr c l E D M _ u=>intro j;obtain⟨_,G,rfl,B⟩:=(fo.arr_iff D).1 j;rw[u B]
def fo.len{l:List aU}{a:List bU}(h:fo l a):a.length<=l.length:=by
 induction h with
 |nil=>exact Fd _
 |one c l u D B _ j=>simpa using j
 |arr c l u D B _ j=>rw[acH]at j;simp only[abi];omega
def iP(w:aF)(ns:List bU):List bU:=ns++w.locks.map bZ.name++w.conds.map cM.name++w.futures++w.threads
def Kd(n:Nat):Int->Int->List cF->Prop
 |_,_,[]=>True
 |t,x,s::l=>t<=s.thread/\s.thread<n/\s.stmt=(if t<s.thread then 0 else x)/\Kd n s.thread (s.stmt+1) l
structure oK(w:aF):Prop where
 c12:w.cells.length<=12
 l4:w.locks.length<=4
 d2:w.conds.length<=2
 f2:w.futures.length<=2
 s60:w.sites.length<=60
 t1:1<=w.threads.length
 t4:w.threads.length<=4
 names:∃ns,fo w.cells ns/\(∀s∈iP w ns,kL s=true)/\(iP w ns).Nodup
 mtx:∀c∈w.conds,qG w c.mutex false=true
 sites:Kd w.threads.length 0 0 w.sites
section
theorem HZ{α:Type}(S:α->List AV×SH)(m:α->Nat)(G:α->Prop){B:List AV->SH->W.Kn->Prop}{vs:List AV}{L:SH}(D:α)(Y:G D)(N:ax vs L (S D).1 (S D).2)
  (h:∀a,G a->∀M:W.Kn,(∀u,G u->m u<m a->∀j E,ax j E (S u).1 (S u).2->M j E)->B (S a).1 (S a).2 M):W.loop B vs L:=by
 refine⟨λn vs L=>∃a,G a/\m a=n/\vs=(S a).1/\L=(S a).2,⟨m D,_,_,N,D,Y,rfl,rfl,rfl⟩,?_⟩;rintro n vs L ⟨a,O,rfl,rfl,rfl⟩;exact h a O _ λu g1 g2 j E Z=>⟨m u,_,_,g2,Z,u,g1,rfl,rfl,rfl⟩
section
variable {l:List aU} {Q:R} {nm:bU} {sz ini:Int} {i nb bs bw:Nat} {n1:W.Kn} (hl:l.length<=12) (h1:1<=sz) (h4:sz<=4) (hf:sz<=(l.length-i:Nat))
 (hno:¬CL ⟨nm,0,sz,false,ini⟩ (l.drop i)->∀L,Q (.tup [.nils,.bool false]) L) (x:AV) (X Y:Blk)
 (hgo:CL ⟨nm,0,sz,false,ini⟩ (l.drop i)->∀ix,n1 [.lst (l.map aU.enc),x,.acU ((i+sz.toNat:Nat):Int)] [(nb,X),(bs,Y),(bw,⟨5,[[.str nm,.acU ix,.acU sz,.bool false,.acU ini]]⟩)])
include hl h1 h4 hf hno hgo
end
end
section
def H3(A:List bU):Prop:=(∀s∈A,kL s=true)/\A.Nodup
theorem Ud{o:Option Nat}{k:Nat}{K:AV->Prop}(h:K (.acU (k:Int)))(j:o=none->k=0):W.len (af o k) K:=by
 cases o with
 |none=>rw[j rfl]at h;exact Hl h
 |some b=>exact AU h
section
variable {w:aF} {Q:R} {ns:List bU} (hns:ns.length<=12) (h4:w.locks.length<=4) (h2:w.conds.length<=2) (hf2:w.futures.length<=2) (ht4:w.threads.length<=4) (hq:∀b L,lu (H3 (iP w ns))=b->Q (.bool b) L)
include hns h4 h2 hf2 ht4 hq
end
end
def WY{n:Nat}{t x:Int}{s:cF}{l:List cF}:Kd n t x (s::l)↔t<=s.thread/\s.thread<n/\s.stmt=(if t<s.thread then 0 else x)/\Kd n s.thread (s.stmt+1) l:=Iff.rfl
structure lx(c:bP):Prop where
 world:oK c.w
 len:c.ts.length=c.w.threads.length
 thr:∀i (h:i<c.ts.length),HY c.w i c.ts[i]
def gX:RF:=nv (bQ Tryz.prog Tryz.f103 [(39,⟨[1,2,3,6],[],true,[]⟩),(27,⟨[1,2,3,5],[],true,[]⟩),(15,⟨[1,2,3,4],[],true,[]⟩)] [(0,[1])])
abbrev CU(Q:R):Vs->SH->Kn->Prop:=Lp gX 17 Q 39 []
abbrev CV(Q:R):Vs->SH->Kn->Prop:=Lp gX 18 Q 27 []
abbrev CW(Q:R):Vs->SH->Kn->Prop:=Lp gX 19 Q 15 []
abbrev EX(a:AV)(L:SH)(Q:R):Prop:=Pc gX 20 Q 0 [] [a] L
def CX(j:AV)(L:SH)(Q:R)(h:EX j L Q):ac Tryz.prog 103 [j] L Q:=
 fv gX Tryz.func103 h
def oP:RF:=nv (bQ Tryz.prog Tryz.f151 [(9,⟨[1,2,3,4],[],true,[]⟩)] [(0,[1])])
abbrev tH(Q:R):Vs->SH->Kn->Prop:=Lp oP 19 Q 9 []
abbrev Ic(a:AV)(L:SH)(Q:R):Prop:=Pc oP 20 Q 0 [] [a] L
def EY(j:AV)(L:SH)(Q:R)(h:Ic j L Q):ac Tryz.prog 151 [j] L Q:=
 fv oP Tryz.func151 h
def oQ:RF:=nv (bQ Tryz.prog Tryz.f172 [(12,⟨[2,3,5],[],true,[]⟩)] [(0,[2,3]),(6,[6])])
abbrev EZ(Q:R):Vs->SH->Kn->Prop:=Lp oQ 19 Q 12 []
abbrev Ie(a b:AV)(L:SH)(Q:R):Prop:=Pc oQ 20 Q 0 [] [a,b] L
def E0(u j:AV)(L:SH)(Q:R)(h:Ie u j L Q):ac Tryz.prog 172 [u,j] L Q:=
 fv oQ Tryz.func172 h
def wR:RF:=nv (bQ Tryz.prog Tryz.f173 [] [])
abbrev If(a:AV)(L:SH)(Q:R):Prop:=Pc wR 20 Q 0 [] [a] L
def E1(j:AV)(L:SH)(Q:R)(h:If j L Q):ac Tryz.prog 173 [j] L Q:=
 fv wR Tryz.func173 h
def qT:RF:=nv (bQ Tryz.prog Tryz.f174 [(15010,⟨[2,3,6,7],[],true,[]⟩)] [(0,[2,3])])
abbrev CY(a b:AV)(L:SH)(Q:R):Prop:=Pc qT 20 Q 0 [] [a,b] L
def Aw(u j:AV)(L:SH)(Q:R)(h:CY u j L Q):ac Tryz.prog 174 [u,j] L Q:=
 fv qT Tryz.func174 h
def py:RF:=nv (bQ Tryz.prog Tryz.f150 [(72067,⟨[6,8,9,10],[],true,[]⟩),(69064,⟨[6,8,9,10,98],[72067],false,[]⟩)] [(0,[3,4]),(3,[8]),(4,[9])])
abbrev Ax(a b c:AV)(L:SH)(Q:R):Prop:=Pc py 20 Q 0 [] [a,b,c] L
def yz(B u j:AV)(L:SH)(Q:R)(h:Ax B u j L Q):ac Tryz.prog 150 [B,u,j] L Q:=
 fv py Tryz.func150 h
def gC:RF:=nv (bQ Tryz.prog Tryz.f122 [(123118,⟨[4,5,6,7,9,14],[],true,[]⟩),(111106,⟨[3,4,5,6,7,9,14,16],[],true,[]⟩),(102097,⟨[3,4,5,6,7,9,14,15,16],[],true,[]⟩),(54049,⟨[3,4,5,6,7,9,14,15,16,77,78],[102097],false,[]⟩),(2108,⟨[3,4,5,6,7,9,11,12,51],[],true,[]⟩)] [(0,[3,5]),(4,[11]),(10,[15])])
abbrev gY(Q:R):Vs->SH->Prop:=Jp gC 16 Q 123118 []
abbrev mq(Q:R):Vs->SH->Prop:=Jp gC 17 Q 111106 []
abbrev jl(Q:R):Vs->SH->Prop:=Jp gC 18 Q 102097 []
abbrev tI(Q:R)(a b c d e f g h i:AV)(j:SH):Prop:=Pc gC 19 Q 2108 [] [d,a,c,g,h,e,b,f,i] j
abbrev Ig(a b c:AV)(L:SH)(Q:R):Prop:=Pc gC 20 Q 0 [] [a,b,c] L
def E3(B u j:AV)(L:SH)(Q:R)(h:Ig B u j L Q):ac Tryz.prog 122 [B,u,j] L Q:=
 fv gC Tryz.func122 h
def oR:RF:=nv (bQ Tryz.prog Tryz.f102 [(6,⟨[2,3,4,5,9,10],[],true,[]⟩)] [(0,[4]),(4,[11,12])])
abbrev E4(Q:R):Vs->SH->Kn->Prop:=Lp oR 19 Q 6 []
abbrev Ih(a b c d:AV)(L:SH)(Q:R):Prop:=Pc oR 20 Q 0 [] [a,b,c,d] L
def E5(D B u j:AV)(L:SH)(Q:R)(h:Ih D B u j L Q):ac Tryz.prog 102 [D,B,u,j] L Q:=
 fv oR Tryz.func102 h
def zB:RF:=nv (bQ Tryz.prog Tryz.f64 [] [(0,[2]),(3,[7])])
abbrev Kq(a b:AV)(L:SH)(Q:R):Prop:=Pc zB 20 Q 0 [] [a,b] L
def Ii(u j:AV)(L:SH)(Q:R)(h:Kq u j L Q):ac Tryz.prog 64 [u,j] L Q:=
 fv zB Tryz.func64 h
def qU:RF:=nv (bQ Tryz.prog Tryz.f171 [] [])
abbrev C0(a:AV)(L:SH)(Q:R):Prop:=Pc qU 20 Q 0 [] [a] L
def pz(j:AV)(L:SH)(Q:R)(h:C0 j L Q):ac Tryz.prog 171 [j] L Q:=
 fv qU Tryz.func171 h
def Zy(l:List bU)(s:bU):Int:=lm (λx=>decide (x=s)) l 0
def Zz(l:List bU)(s:bU)(E:l.length<2^62):aq Tryz.prog 118 [.lst (l.map ay),.str s] (.acU (Zy l s)):=by
 refine lM _ _ _ _ ?_;refine vw ?_;refine eO l (λx=>decide (x=s)) (λi=>[.lst (l.map ay),.str s,.acU i]) E rfl (λi u G N j B D=>?_) (λi u G j B=>?_)
 all_goals refine vw ?_
 .have M:=aj (f:=ay) u
  repeat' (first|refine sy ?_|refine s2 (λh=>?_) λh=>?_|intro)
  .exact⟨by rw[Zy,mR u j h],rfl⟩
  .exact D h
 .repeat' (first|refine sy ?_|refine s2 ?_ ?_|intro)
  exact⟨by rw[Zy,gz j],rfl⟩
def lT:RF:=nv (bQ Tryz.prog Tryz.f127 [(51046,⟨[1,4,37],[],true,[]⟩),(30025,⟨[1,4,13],[],true,[]⟩),(21016,⟨[1,4,5],[],true,[]⟩)] [(0,[1])])
abbrev wS(a:AV)(L:SH)(Q:R):Prop:=Pc lT 20 Q 0 [] [a] L
def uJ(j:AV)(L:SH)(Q:R)(h:wS j L Q):ac Tryz.prog 127 [j] L Q:=
 fv lT Tryz.func127 h
def oS(i:cb):aq Tryz.prog 127 [.agg i.enc] (.lst ((bS i).map aa)):=by
 obtain⟨op,u,j,D,n,B⟩:=i;refine ac.fz (uJ _ _ _ ?_);refine vw ?_;generalize M:(λ(v:AV) (L:SH)=>∃G N,ax [v] L [G] N/\G=AV.lst ((bS ⟨op,u,j,D,n,B⟩).map aa)/\N=[])=Q;have E:∀(l:List Int),bS ⟨op,u,j,D,n,B⟩=l->∀v L,Fz L v (.lst (l.map aa))->Q v L:=λl O v L h=>by subst M;exact⟨_,[],ax.all h,by rw[O],rfl⟩
 clear M
 repeat' (first|refine sy ?_|refine s2 ?_ ?_|intro)
 all_goals first
  |exact E [u] (by simp_all[bS];done) _ _ (Fz.sls (l:=[u]) (f:=aa) (.head _) rfl acR rfl)
  |exact E [j] (by simp_all[bS];done) _ _ (Fz.sls (l:=[j]) (f:=aa) (.head _) rfl acR rfl)
  |exact E [u,j] (by simp_all[bS];done) _ _ (Fz.sls (l:=[u,j]) (f:=aa) (.head _) rfl acR rfl)
  |exact E [u,D] (by simp_all[bS];done) _ _ (Fz.sls (l:=[u,D]) (f:=aa) (.head _) rfl acR rfl)
  |exact E [j,D] (by simp_all[bS];done) _ _ (Fz.sls (l:=[j,D]) (f:=aa) (.head _) rfl acR rfl)
  |exact E [u,j,D] (by simp_all[bS];done) _ _ (Fz.sls (l:=[u,j,D]) (f:=aa) (.head _) rfl acR rfl)
  |exact E [] (by simp_all[bS];done) _ _ .nils
def Ks(l:List Int)(n:Int)(hl:l.length<2^40):aq Tryz.prog 86 [.lst (l.map aa),.acU n] (.lst ((l.filter λy=>!decide (y=n)).map aa)):=by
 refine OY λQ E=>yg _ _ _ _ ?_
 refine vw ?_;refine aL l.length (λi (o:Option Nat)=>([.lst (l.map aa),.acU n,af o ((l.take i).filter λy=>!decide (y=n)).length,.acU i],ab o 1 (((l.take i).filter λy=>!decide (y=n)).map aa))) (λi o=>o=none->((l.take i).filter λy=>!decide (y=n))=[]) none (λ_=>rfl) (ax.vals (.cons (.refl _) (.cons (.refl _) (.cons .nile (.cons (.refl _) .nil))))) ?_;intro i o hi M;dsimp only;refine vw ?_;have O:((l.take i).filter λy=>!decide (y=n)).length<=i:=Nat.le_trans (List.length_filter_le _ _) acS;rcases Nat.lt_or_ge i l.length with u|u
 .have S:=aS u;have Z:=aj (f:=aa) u;have j:((l.take (i+1)).filter λy=>!decide (y=n))=if l[i]=n then((l.take i).filter λy=>!decide (y=n))else((l.take i).filter λy=>!decide (y=n))++[l[i]]:=by rw[Fn u,acK];by_cases h:l[i]=n<;>simp[h]
  clear E;by_cases h:l[i]=n
  .have Y:decide (l[i]≠n)=false:=decide_eq_false (λe=>e h);rw[if_pos h]at j
   repeat' (first|refine sy ?_|refine s2 ?_ ?_|intro)
   exact⟨i+1,o,acN,acN,by rw[j];exact M,fR (by rw[av u acN,j]) (by rw[j])⟩
  .have Y:decide (l[i]≠n)=true:=decide_eq_true h;rw[if_neg h]at j;have G:o=none->(((l.take i).filter λy=>!decide (y=n)).map aa)=[]:=λe=>by rw[M e];rfl
   repeat' (first|refine sx ?_|refine aM rp rp acQ G acP acQ acS acS acP (λB D=>?_)|refine sb λB D=>?_|refine s2 ?_ ?_|intro)
   exact⟨i+1,some B,acN,acN,nofun,ax.pickE (R:=[(B,_)]) rp (by rw[av u acN,j];simp[co,af]) (by rw[j];simp[ab,aa])⟩
 .have S:=aW u;rw[aaT u]at *;have fin:∀L,(∀q∈ab o 1 ((l.filter λy=>!decide (y=n)).map aa),q∈L)->Q (af o (l.filter λy=>!decide (y=n)).length) L:=λL N=>E _ _ (by
   cases o with
   |none=>rw[M rfl];exact .emp
   |some b=>exact Fz.sls (N _ (.head _)) rfl acR rfl)
  clear E
  repeat' (first|refine sy ?_|refine s2 ?_ ?_|intro)
  exact fin _ λq h=>h
def uK(i:Nat):List AV:=[.acU (i:Int)]
def zD(a b d:AV)(bt:Nat)(T:List ThrD)(c:Int)(hT:T.length<2^40)(O:([a,b,d,.sl bt 0 T.length]:List AV).all AV.one=true):
  ac Tryz.prog 87 [.agg [a,b,d,.sl bt 0 T.length],.acU c] [(bt,⟨3,T.map ThrD.enc⟩)] λv L=>v=.lst ((aJ T c T.length).map uK)/\L=[(bt,⟨3,T.map ThrD.enc⟩)]:=by
 refine ac.fz (mY _ _ _ _ ?_);refine vw ?_;generalize hQ:(λ(v:AV) (L:SH)=>∃v2 L2,ax [v] L [v2] L2/\v2=AV.lst ((aJ T c T.length).map uK)/\L2=[(bt,(⟨3,T.map ThrD.enc⟩:Blk))])=Q
 repeat' (first|refine BN ?_ rfl O (by exact aaq _)|refine sx ?_|refine sb λB E=>?_|refine s2 (λh=>?_) λh=>?_|fail)
 refine aL T.length (λi (o:Option Nat)=>([.acU c,.pptr [[a,b,d,.sl bt 0 T.length]] 0 0,af o (aJ T c i).length,.acU i],(bt,⟨3,T.map ThrD.enc⟩)::ab o 1 ((aJ T c i).map uK))) (λi o=>o=none->aJ T c i=[]) none (λ_=>rfl) (ax.vals (.cons (.refl _) (.cons (.refl _) (.cons .nile (.cons (.refl _) .nil))))) ?_;intro i o hi ho;dsimp only;refine vw ?_;have hle:(aJ T c i).length<=i:=Nat.le_trans (List.length_filter_le _ _) acQ;rcases Nat.lt_or_ge i T.length with G|G
 .have hd:=aS G;have hx:=aj (f:=ThrD.enc) G;have u:=iF T c i;rw[show eR T c i=bH T[i] c by simp[eR,G]]at u;have ho2:o=none->(aJ T c i).map uK=[]:=λe=>by rw[ho e];rfl
  have D:bH T[i] c=false->∃j o',i<j/\j<=T.length/\(o'=none->aJ T c j=[])/\ax [.acU c,.pptr [[a,b,d,.sl bt 0 T.length]] 0 0,af o (aJ T c i).length,.acU (IntKind.i64.wrap ((i:Int)+1))] ((bt,⟨3,T.map ThrD.enc⟩)::ab o 1 ((aJ T c i).map uK))
    [.acU c,.pptr [[a,b,d,.sl bt 0 T.length]] 0 0,af o' (aJ T c j).length,.acU j] ((bt,⟨3,T.map ThrD.enc⟩)::ab o' 1 ((aJ T c j).map uK)):=λh=>by
   rw[h]at u;simp only[abj,if_false,aby]at u;exact⟨i+1,o,acN,acN,by rw[u];exact ho,fR (by rw[av G acN,u]) (by rw[u])⟩
  generalize T[i]=y at *;obtain⟨M,N,Z⟩:=y;rw[show ThrD.enc ⟨M,N,Z⟩=[.acU M,.acU N,.bool Z]from rfl]at hx;by_cases Y:M=3
  .have d1:decide (M=3)=true:=decide_eq_true Y;by_cases S:N=c
   .have d2:decide (N=c)=true:=decide_eq_true S;rw[show bH ⟨M,N,Z⟩ c=true by simp[bH,Y,S],if_pos rfl]at u
    repeat' (first|refine sx ?_|refine aM rp rp acQ ho2 acP acQ acS acS acP (λB E=>?_)|refine sb λB E=>?_|refine s2 ?_ ?_|intro)
    exact⟨i+1,some B,acN,acN,nofun,ax.pickE (R:=[(bt,_),(B,_)]) rp (by rw[av G acN,u];simp[co,af]) (by rw[u];simp[ab,uK])⟩
   .have d2:decide (N=c)=false:=decide_eq_false S;have sk:=D (by simp[bH,S])
    repeat' (first|refine sy ?_|refine s2 ?_ ?_|intro)
    exact sk
  .have d1:decide (M=3)=false:=decide_eq_false Y;have sk:=D (by simp[bH,Y])
   repeat' (first|refine sy ?_|refine s2 ?_ ?_|intro)
   exact sk
 .have hd:=aW G;have hi0:i=T.length:=by omega
  subst hi0;have fin:Q (af o (aJ T c T.length).length) ((bt,⟨3,T.map ThrD.enc⟩)::ab o 1 ((aJ T c T.length).map uK)):=by
   subst hQ;refine⟨.lst ((aJ T c T.length).map uK),_,ax.drop (K:=ab o 1 ((aJ T c T.length).map uK)) (R:=[(bt,⟨3,T.map ThrD.enc⟩)]) (aar (l₁:=[(bt,(⟨3,T.map ThrD.enc⟩:Blk))])) rfl (fy.at_ (.cons ?_ .nil)).2,rfl,rfl⟩;cases o with
   |none=>rw[ho rfl];exact .emp
   |some b=>exact Fz.sls (.head _) rfl acR rfl
  clear hQ
  repeat' (first|refine sy ?_|refine s2 ?_ ?_|intro)
  exact fin
def Kt(s:SyncD)(h1:s.locks.length<2^40)(h2:s.done.length<=140737488351232)(h3:s.threads.length<2^40)(Y:∀l∈s.locks,l.readers.length<2^40):
  ac Tryz.prog 43 [.agg s.enc] [] λv L=>∃(M:Option Nat) (E bt:Nat),v=.agg [af M s.locks.length,.acU s.tx,.sl E 0 s.done.length,.sl bt 0 s.threads.length]/\L=ab M 2 (s.locks.map LockD.enc)++[(bt,⟨3,s.threads.map ThrD.enc⟩),(E,⟨1,s.done.map au⟩)]/\(M=none->s.locks=[]):=by
 refine ac.fz (EQ _ _ _ ?_);refine vw ?_;generalize hQ:(λ(v:AV) (L:SH)=>∃v2 L2,ax [v] L [v2] L2/\∃(M:Option Nat) (E bt:Nat),v2=.agg [af M s.locks.length,.acU s.tx,.sl E 0 s.done.length,.sl bt 0 s.threads.length]/\L2=ab M 2 (s.locks.map LockD.enc)++[(bt,(⟨3,s.threads.map ThrD.enc⟩:Blk)),(E,⟨1,s.done.map au⟩)]/\(M=none->s.locks=[]))=Q
 repeat' (first|refine sx ?_|refine dJ rp (λ_=>rfl) acP acS acS (λ_=>rfl) (λu B=>?_)|refine sb λu B=>?_|refine s2 (λh=>?_) λh=>?_|fail)
 rename_i a5 _ b2 _ a3 _ E _ a1 _ bt _;rw[Nat.zero_add,Nat.zero_add];revert u;intro b3 _;refine aL s.locks.length (λi (o:Option Nat)=>([.pptr [s.enc] 0 0,.ptr b2 0 0,.ptr b3 0 0,.acU i],(b3,⟨4,[[af o i,.acU s.tx,.sl E 0 s.done.length,.sl bt 0 s.threads.length]]⟩)::(bt,⟨3,s.threads.map ThrD.enc⟩)::(E,⟨1,s.done.map au⟩)::(b2,⟨4,[[.nils,.acU 0,.nils,.nils]]⟩)::ab o 2 ((s.locks.take i).map LockD.enc))) (λi o=>o=none->i=0) none (λ_=>rfl) (ax.box (K:=[]) (.refl _) (.cons .nile (.cons (.refl _) (.cons (.refl _) (.cons (.refl _) .nil))))) ?_;intro i o hi ho;dsimp only;refine vw ?_;have D:((s.locks.take i).map LockD.enc).length=i:=by simp;omega
 have h0:o=none->(s.locks.take i).map LockD.enc=[]:=λe=>by rw[ho e];rfl
 rcases LE i s.locks.length with N|N
 .have hd:=aS N;have hx:=aj (f:=LockD.enc) N;have hr:=Y _ (LT N)
  repeat' (first|refine sx ?_|refine dJ rp (λ_=>rfl) acP acS acS (λ_=>rfl) (λu B=>?_)|refine aM rp rp D h0 acP acQ acS acS acP (λu B=>?_)|refine sb λu B=>?_|refine s2 (λh=>?_) λh=>?_|fail)
  rename_i br _ _ _;refine⟨i+1,some u,acN,acN,nofun,?_⟩;refine ax.rowA (A:=[(b3,_),(bt,_),(E,_),(b2,_)]) (b:=u) (R:=[]) (rows':=(s.locks.take (i+1)).map LockD.enc) rp ?_ ?_ (by rw[av N acN]<;>rfl)
  .simp;omega
  .intro j r r' O G;rw[Fn N,ST]at G;rcases LE j i with Z|Z
   .rw[aaW (by rw[D];exact Z)]at O G;rw[O]at G;cases G;exact fy.refl _ _
   .rw[aaL (by rw[D];exact Z),D]at O G;generalize j-i=k at O G
    match k with
    |0=>cases O;cases G;exact .cons (.refl _) (.cons (Fz.sls (l:=s.locks[i].readers) mm rfl acR acQ) .nil)
    |k+1=>simp at O
 .have hd:=aW N;have hi0:i=s.locks.length:=by omega
  subst hi0;rw[aaT (Fd _)];have S:o=none->s.locks=[]:=λe=>abU.1 (ho e)
  cases o with
  |none=>
   dsimp only[af,ab]
   repeat' (first|refine sy ?_|refine s2 ?_ ?_|intro)
   subst hQ;exact⟨_,_,ax.pick (R:=[(bt,_),(E,_)]) rp rfl,none,E,bt,rfl,rfl,S⟩
  |some bl=>
   dsimp only[af,ab]
   repeat' (first|refine sy ?_|refine s2 ?_ ?_|intro)
   subst hQ;exact⟨_,_,ax.pick (R:=[(bl,_),(bt,_),(E,_)]) rp rfl,some bl,E,bt,rfl,rfl,S⟩
def zE:RF:=nv (bQ Tryz.prog Tryz.f111 [(6,⟨[0,1,5],[],true,[]⟩)] [])
abbrev Ku(a b:AV)(L:SH)(Q:R):Prop:=Pc zE 20 Q 0 [] [a,b] L
def Ij(u j:AV)(L:SH)(Q:R)(h:Ku u j L Q):ac Tryz.prog 111 [u,j] L Q:=
 fv zE Tryz.func111 h
def tO:RF:=nv (bQ Tryz.prog Tryz.f85 [(21,⟨[1,5,7],[],true,[]⟩),(9,⟨[0,1,5,6],[],true,[]⟩)] [])
abbrev Fa(a b:AV)(L:SH)(Q:R):Prop:=Pc tO 20 Q 0 [] [a,b] L
def C8(u j:AV)(L:SH)(Q:R)(h:Fa u j L Q):ac Tryz.prog 85 [u,j] L Q:=
 fv tO Tryz.func85 h
section
open Go.RowKit
def KE(v:AV):Prop:=∀(w:World) (σ:bO) (T:Nat->Prop) (u:Value) (w2:World) (σ2:bO) (T2:Nat->Prop),bC w σ T v u->bC w2 σ2 T2 v u
def KE.int(k:IntKind)(n:Int):KE (.int k n):=λw B T u D j E h=>by cases h;exact .int k n
def KE.bool(b:Bool):KE (.bool b):=λw B T u D j E h=>by cases h;exact .bool b
def Di{P:Program}{f:FuncId}{args args2:List AV}{v:AV}{K L2:SH}(hv:KE v)(ha:∀(i:Nat) (a:AV),args2[i]? =some a->bv a)(h:aq P f args2 v)(hz:ax args K args2 L2):
  ac P f args K λu L=>u=v/\L=K:=⟨h.1,λH B hs=>⟨v,H,K,λw E vs O hvs=>by
 obtain⟨H2,f1,f2,f3,f4⟩:=km hz hs B;obtain⟨g1,g2,g3⟩:=f3 w E O;have Y:=g3 vs hvs;have M:aX ⟨λ_=>none,aX E H2⟩ ah.empty=aX E H2:=by
  funext c;apply propext;constructor
  .rintro(D|⟨b,x,G,D,_,_⟩)
   .exact D
   .rw[cS]at D;cases D
  .exact .inl
 have hlt:∀c,aX E H2 c->c<w.heap.size:=λc j=>by
  rcases j with j|⟨b,x,G,D,h2,rfl⟩
  .exact(g1.apart c j).1
  .exact g1.lt b G h2
 have hWe:bJ w ⟨λ_=>none,aX E H2⟩ ah.empty:=⟨λb G B=>(by cases B),λb G B=>(by cases B),λb x B=>(by rw[cS]at B;cases B),
  λc j=>⟨hlt c j,λ⟨b,x,G,D,_,_⟩=>(by rw[cS]at D;cases D)⟩,λb b' x x' G pl' B=>(by rw[cS]at B;cases B),by rw[M];exact g1.glob⟩
 obtain⟨u,H1,L1,Z,_,rfl,_⟩:=h.2 ah.empty (λb B=>by rw[cS]) ⟨.nil,λp hp=>by cases hp⟩;refine(Z w _ vs hWe ⟨Y.1,λi a u D h2=>(ha i a D).rep (Y.2 i a u D h2) (λc j=>by rw[M]at j;exact j)⟩).mono ?_;rintro e w' ⟨v',σ',rfl,k1,_,N,_⟩;have S:∀c,c<w.heap.size->(¬aX E H2 c\/aX E H2 c)->w'.heap[c]? =w.heap[c]? :=λc j ho=>by
  rcases ho with ho|ho
  .exact N.keep c j (by rw[M];exact ho)
  .exact N.frame c ho
 have hE:fT w E (aX E H) w' E (aX E H):=
  ⟨N.os,N.tape,N.output,N.size,λc j hT=>S c j (.inl λx=>hT (g2 c x)),N.shape,λ_ _ h=>h,rfl,λc j=>N.frame c (.inl j),λc j=>.inl j⟩
 refine⟨v',E,rfl,hv _ _ _ _ _ _ _ k1,⟨O.named,λb G B=>abk (O.lt b G B) N.size,λb x B=>?_,λc j=>⟨abk (O.apart c j).1 N.size,(O.apart c j).2⟩,O.inj,O.glob.mono hE⟩,hE,λc G j=>.inl j⟩;obtain⟨G,cs,e,D,h2⟩:=O.live b x B;exact⟨G,cs,e,D,h2.mono hE (S _ (O.lt b G D) (Classical.em _).symm)⟩,.refl B hs,rfl,rfl⟩⟩
end
def ac.pure{P:Program}{f:FuncId}{args:List AV}{Q:AV->SH->Prop}(h:ac P f args [] Q)(ha:∀a∈args,bv a)(S:∀u K,Q u K->bv u):∃v K,Q v K/\aq P f args v:=by
 obtain⟨v,H',L',h1,h2,D⟩:=h.2 ah.empty (λb _=>cS b) ⟨List.nodup_nil,nofun⟩;have hV:Nw P f args v:=λw E G hW B=>(h1 w E G hW B).mono λe w' ⟨M,j,he,O,k2,N,k4⟩=>⟨M,j,H',he,O,N⟩
 exact⟨v,L',D,h.1,λH hb Y=>⟨v,H,[],Yz (S _ _ D) (λi a Z=>ha a (abN Z)) hV H,.refl hb Y,rfl,rfl⟩⟩
def bv.lsts{rows:List (List AV)}(h:∀r∈rows,∀a∈r,bv a):bv (.lst rows):=.lst rows λi r j a B u=>h r (abN B) a (abN u)
def bv.lmap{α:Type}{f:α->List AV}{l:List α}(h:∀x∈l,∀a∈f x,bv a):bv (.lst (l.map f)):=.lsts λr u=>by obtain⟨x,j,rfl⟩:=abP.1 u;exact h x j
def bv.aggs{cs:List AV}(h:∀a∈cs,bv a):bv (.agg cs):=.agg cs λi a j=>h a (abN j)
def bv.tups{cs:List AV}(h:∀a∈cs,bv a):bv (.tup cs):=.tup cs λi a j=>h a (abN j)
def gD(s:bU):∀a∈ay s,bv a:=λa h=>by rw[aag.1 h];exact .str _
mutual
def aB.pure:∀x:aB,∀a∈x.enc,bv a
 | .mk op n name l=>by have:=aB.pures l;simp only[aB.enc,abz,abA,false_implies,implies_true,and_true];exact⟨.int _ _,.int _ _,.str _,.lsts this⟩
def aB.pures:∀l:List aB,∀r∈aB.encs l,∀a∈r,bv a
 |[]=>nofun
 | x::l=>by simp only[aB.encs,abz];exact⟨aB.pure x,aB.pures l⟩
end
mutual
def ae.pure:∀x:ae,∀a∈x.enc,bv a
 | .mk op line name arg index e body els=>by
  have u:=ae.pures body;have j:=ae.pures els
  simp only[ae.enc,abz,abA,false_implies,implies_true,and_true];exact⟨.int _ _,.int _ _,.str _,.str _,.lmap λx _=>x.pure,.int _ _,.int _ _,.str _,.lmap λx _=>x.pure,.lsts u,.lsts j⟩
def ae.pures:∀l:List ae,∀r∈ae.encs l,∀a∈r,bv a
 |[]=>nofun
 | x::l=>by simp only[ae.encs,abz];exact⟨ae.pure x,ae.pures l⟩
end
def aZ.pure(d:aZ):∀a∈d.enc,bv a:=by simp only[aZ.enc,abz,abA,false_implies,implies_true,and_true];exact⟨.int _ _,.int _ _,.str _,.int _ _,.int _ _,.str _⟩
def am.pure(d:am):∀a∈d.enc,bv a:=by simp only[am.enc,abz,abA,false_implies,implies_true,and_true];exact⟨.str _,.int _ _,.lmap λx _=>gD x,.lmap λx _=>x.pure⟩
def cJ.pure(p:cJ):bv (.agg p.enc):=.aggs (by
 simp only[cJ.enc,abz,abA,false_implies,implies_true,and_true];exact⟨.lmap λx _=>x.pure,.lmap λx _=>x.pure⟩)
def KG(e j:Int):bv (.tup [.acU e,.acU j]):=.tups (by
 simp only[abz,abA,false_implies,implies_true,and_true];exact⟨.int _ _,.int _ _⟩)
def aZ.wt_pos(d:aZ):1<=d.wt:=by unfold aZ.wt;omega
def am.wt_pos(d:am):1<=d.wt:=by unfold am.wt;omega
def am.local_len(t:am){i:Nat}(h:i<t.locals.length):t.locals[i].length<t.wt:=by have:=AX (f:=List.length) t.locals i h;unfold am.wt;omega
def cJ.decl_wt(p:cJ){i:Nat}(h:i<p.decls.length):p.decls[i].wt<=p.wt:=by have:=AX (f:=aZ.wt) p.decls i h;unfold cJ.wt;omega
def cJ.thread_wt(p:cJ){i:Nat}(h:i<p.threads.length):p.threads[i].wt<=p.wt:=by have:=AX (f:=am.wt) p.threads i h;unfold cJ.wt;omega
def cJ.decls_len(p:cJ):p.decls.length<=p.wt:=by have:=Ht aZ.wt_pos p.decls;unfold cJ.wt;omega
def cJ.threads_len(p:cJ):p.threads.length<=p.wt:=by have:=Ht am.wt_pos p.threads;unfold cJ.wt;omega
def uM{α:Type}{p:α->Bool}:∀(l:List α) (j:Nat),(lm p l j=-1/\l.find? p=none)\/∃(k:Nat) (h:k<l.length),lm p l j=(j+k:Nat)/\l.find? p=some l[k]
 |[],_=>.inl ⟨rfl,rfl⟩
 | x::l,j=>by
  by_cases h:p x=true
  .exact .inr ⟨0,acQ,by simp[lm,h],by simp[h]⟩
  .rcases uM (p:=p) l (j+1)with⟨h1,h2⟩|⟨k,h1,h2,h3⟩
   .exact .inl ⟨by simp[lm,h,h1],by simp[h,h2]⟩
   .refine .inr ⟨k+1,by simpa using h1,?_,by simpa[h]using h3⟩;simp only[lm,h,abj,if_false,h2];congr 1;omega
def iJ{α:Type}{f:α->List AV}{l:List α}{n i:Nat}{k:IntKind}{L:SH}{K:AV->Prop}(h:K (.lst ((l.take i).map f)))(B:i<=l.length:=by omega)(u:∀x,(f x).length=n:=by intro x;rfl):W.slice n (.lst (l.map f)) none (some (.int k (i:Int))) none L K:=by
 refine ip (l:=0) (h:=i) rfl ?_ (abt _) (by simpa using B) (λr j=>?_) ?_
 .simp[cE,gQ]
 .cases l with
  |nil=>cases j
  |cons x l=>simp at j;rw[<-j];exact u x
 .simpa[acD]using h
def My{k:IntKind}{a b:Int}{K:AV->Prop}(h:K (.int k (if b > a then b else a))):W.mnx true (.int k a) (.int k b) K:=by rw[Qx];exact h
def R5{k:IntKind}{s:Int}{K:AV->Prop}(h:K (.int k (((max s 1).toNat:Nat):Int))):W.mnx true (.int k s) (.int k 1) K:=by
 rw[Qx];have:(if(1:Int) > s then(1:Int)else s)=(((max s 1).toNat:Nat):Int):=by split<;>omega
 rw[this];exact h
structure oV where
 t:Nat
 o1:Option Nat
 ar:List ae
 k:Nat
 o2:Option Nat
 sp:List bU
 o3:Option Nat
 se:List bU
def oV.row(p:cJ)(s:oV):List AV:=[.lst (p.decls.map aZ.enc),.lst (p.threads.map am.enc),.acU s.t,af s.o1 s.k,af s.o2 s.sp.length,af s.o3 s.se.length]
def oV.L(p:cJ)(bw:Nat)(s:oV):SH:=(bw,⟨6,[s.row p]⟩)::(ab s.o1 11 (s.ar.map ae.enc)++(ab s.o2 1 (s.sp.map ay)++ab s.o3 1 (s.se.map ay)))
structure oV.Ok(s:oV)(m:Nat):Prop where
 a0:s.o1=none->s.ar=[]
 ak:s.k<=s.ar.length
 k6:s.k<=6
 p0:s.o2=none->s.sp=[]
 e0:s.o3=none->s.se=[]
 pm:s.sp.length<=m
 em:s.se.length<=m
def ac.permR{P:Program}{f:FuncId}{args:List AV}{L:SH}{Q:AV->SH->Prop}(h:ac P f args L λv j=>∃L'',j.Perm L''/\Q v L''):ac P f args L Q:=⟨h.1,λH B u=>by
 obtain⟨v,M,j,G,E,L'',hp,D⟩:=h.2 H B u;exact⟨v,M,L'',G,E.permS hp,D⟩⟩
def ac.within{P:Program}{f:FuncId}{args:List AV}{K L R:SH}{α:Type}{F:α->AV}(h:ac P f args K λu j=>∃r,u=F r/\j=K)(hp:L.Perm (K++R)):ac P f args L λu j=>∃r,u=F r/\j=L:=
 ac.permR (h.frame hp λv j ⟨r,D,B⟩=>⟨L,by rw[B];exact hp.symm,r,D,rfl⟩)
def ae.wts_succ{l:List ae}{i:Nat}(h:i<l.length):ae.wts (l.take (i+1))=ae.wts (l.take i)+l[i].wt:=by
 rw[Fn h];generalize l.take i=m
 induction m with
 |nil=>simp[ae.wts]
 |cons y m j=>simp only[abX,ae.wts,j];omega
def ae.wts_take(l:List ae)(i:Nat):ae.wts (l.take i)<=ae.wts l:=by
 induction l generalizing i with
 |nil=>simp
 | cons x l j=>cases i with
  |zero=>simp[ae.wts]
  |succ i=>have:=j i;simp only[List.take_succ_cons,ae.wts];omega
def A6{o:Option Nat}{k:Nat}{K:AV->Prop}(h:K (.acU (k:Int)))(j:o=none->k=0):W.len (af o k) K:=by
 cases o with
 |none=>rw[j rfl]at h;exact Hl h
 |some b=>exact AU h
def KH{KL:R}{L N:SH}{o:Option Nat}{i n by_ M:Nat}{rows m:List (List AV)}{r:List AV}(G:(M,(⟨n,m⟩:Blk))∈L)(O:m=[r])(E:eG o n rows L N)(j:i<=rows.length)(Y:o=none->rows=[])(B:i<=1000)(u:by_<=1000)(h4:r.all AV.one=true)
  (h:∀b,b∉L.names->KL (.sl b 0 (i+1)) ((b,⟨n,rows.take i++[r]⟩)::N)):W.append n by_ (af o i) (.sl M 0 1) L KL:=by
 subst O;have e1:2*(i+(0+1))*by_<=2*(1000+1)*1000:=Nat.mul_le_mul acN u
 have e2:2*(0+1)*by_<=2*(0+1)*1000:=Nat.mul_le_mul acN u
 cases o with
 |none=>
  have D:=Y rfl;subst D;obtain rfl:i=0:=by simpa using j
  have S:=E.none';subst S;exact Hk (KL:=KL) (by_:=by_) (j7 G rfl rfl) (by show 2*(0+1)*by_<=2^48;omega) acQ (by simpa using h4) acQ (λb B=>by simpa using h b B)
 |some b=>
  refine lJ (y:=⟨n,rows⟩) (l:=rows.take i) E.some'.mem' rfl (by simpa using j) acQ (j7 G rfl rfl) ?_ ?_ (by simpa using h4) E.some' (λZ B=>?_)
  .rw[abm,abV j];simp only[abi,abq];omega
  .rw[abm,abV j];simp only[abi,abq];omega
  .rw[abm,abV j];exact h Z B
def Xk{α:Type}(a t b:α)(R:List α):(a::t::b::R).Perm ((b::([a]++R))++[t]):=by have h:(a::t::b::R).Perm ([t]++(b::([a]++R))):=(List.Perm.swap t a _).trans ((List.Perm.swap b a R).cons t);exact h.trans aar
def yG{n b k m:Nat}{kd:IntKind}{y:Blk}{L:SH}{K:AV->Prop}(h:K (.sl b 0 k))(B:k<=m)(u:(b,y)∈L)(j:y.size=n):W.slice n (.sl b 0 m) none (some (.int kd (k:Int))) none L K:=by refine xN (l:=0) (h:=k) rfl (by simp[cE,gQ]) (abt _) B u j ?_;simpa using h
def Io:List AV:=[.acU 0,.acU 0,.str [],.str [],.nils,.acU 0,.acU 0,.str [],.nils,.nils,.nils]
def Fh{α:Type}{f:α->Nat}{l:List α}{i:Nat}(h:i<l.length):((l.take (i+1)).map f).sum=((l.take i).map f).sum+f l[i]:=by rw[Fn h,ST,List.sum_append];simp
def iQ{α:Type}(f:α->Nat)(l:List α):Nat:=(l.map f).sum
def Mz{α:Type}{f:α->Nat}{l:List α}{i:Nat}(h:i<l.length):iQ f (l.take (i+1))=iQ f (l.take i)+f l[i]:=Fh h
def Dj{α:Type}(f:α->Nat)(l:List α)(i:Nat):iQ f (l.take i)<=iQ f l:=by
 unfold iQ
 induction l generalizing i with
 |nil=>simp
 | cons x l j=>cases i with
  |zero=>simp
  |succ i=>have:=j i;simp only[List.take_succ_cons,aai,acf];omega
def KI{α:Type}{f g:α->Nat}(h:∀x,f x<=g x)(l:List α):iQ f l<=iQ g l:=by
 unfold iQ
 induction l with
 |nil=>simp
 |cons x l j=>have:=h x;simp only[aai,acf];omega
def oW{P:Program}{g:FuncId}{args:List AV}{K M L:SH}{R1:AV->SH->Prop}{KL:R}(h:ac P g args K R1)(B:L.Perm (K++M))(u:∀v j,R1 v j->∃L'',(j++M).Perm L''/\KL v L''):W.callM P g args L KL:=⟨ac.permR (h.frame B u)⟩
def A7{n:Nat}{rows:List (List AV)}:ab none n rows=[]:=rfl
def A8{b n:Nat}{rows:List (List AV)}:ab (some b) n rows=[(b,⟨n,rows⟩)]:=rfl
def oX{P:Program}{g:FuncId}{args:List AV}{i:Nat}{L:SH}{j:AV->SH->List Nat->Prop}(h:W.callM P g args L (λv K=>∀u,j v K u)):W.dcallM P [] i g args L j:=
 ⟨L,[],acQ,nofun,h.1.mono λv D B=>by simpa using B _⟩
mutual
def ae.cnt:ae->Nat
 |.mk _ _ _ _ _ _ body els=>ae.cnts body+ae.cnts els
def ae.cnts:List ae->Nat
 |[]=>0
 |x::l=>1+x.cnt+ae.cnts l
end
def ae.cnt_eq(x:ae):x.cnt=ae.cnts x.body+ae.cnts x.els:=by cases x;rfl
mutual
def ae.cnt_wt:∀x:ae,x.cnt<x.wt
 |.mk a b c d e f j u=>by have:=ae.cnts_wt j;have:=ae.cnts_wt u;simp only[ae.cnt,ae.wt];omega
def ae.cnts_wt:∀l:List ae,ae.cnts l<=ae.wts l
 |[]=>Fd _
 |x::l=>by have:=ae.cnt_wt x;have:=ae.cnts_wt l;simp only[ae.cnts,ae.wts];omega
end
def aY(b:UInt8):List AV:=[.int .u8 (b.toNat:Int)]
