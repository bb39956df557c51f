/- A part of the proof; the statement is proved in the last part. -/
import Derived.Test.YtbofdbhnbodbiaaGreatDoorQuf
import Derived.Shelf.Small.Wraps
import Derived.Shelf.Sort.Plain
import Derived.Shelf.Slices.Turned
import Derived.Ground.Names2Prog
import Derived.Shelf.Slices.Clone
import Derived.Shelf.Slices.CompactI
import Derived.Shelf.Slices.In.SortNone
import Derived.Ground.SlgnProg
import Derived.Shelf.SlicesE.Clone
import Derived.Test.YtbofdbhnbodbiaaGreatDoorProg
import Derived.WalkSpells
import Derived.Deep.DeepMust
import Derived.Sort.OwnSortedInts
set_option linter.all false
set_option maxRecDepth 100000
set_option maxHeartbeats 20000000
namespace Go.Proofs.YtbofdbhnbodbiaaGreatDoor.Am
section
inductive ee (o:Option Nat) (n:Nat) (rows:List (List AV)):SH->SH->Prop where
 |here (R:SH):ee o n rows (ab o n rows++R) R
 |last:ee o n rows (ab o n rows) []
 |there (p:Nat×Blk) {L L':SH}:ee o n rows L L'->ee o n rows (p::L) (p::L')
 |skip (o2:Option Nat) (n2:Nat) (rows2:List (List AV)) {L L':SH}:ee o n rows L L'->ee o n rows (ab o2 n2 rows2++L) (ab o2 n2 rows2++L')
theorem ee.some'{b n:Nat}{rows:List (List AV)}{L L':SH}(h:ee (some b) n rows L L'):eO b ⟨n,rows⟩ L L':=by
 induction h with
 |here R=>exact .here R
 |last=>exact .here []
 |there p h u=>exact .there p u
 |skip B D j h u=>exact u.app _
theorem ee.none'{n:Nat}{rows:List (List AV)}{L L':SH}(h:ee none n rows L L'):L=L':=by
 induction h with
 |here R=>rfl
 |last=>rfl
 |there p h u=>rw[u]
 |skip B D j h u=>rw[u]
theorem ee.perm{o:Option Nat}{n:Nat}{rows:List (List AV)}{L L':SH}(h:ee o n rows L L'):L.Perm (ab o n rows++L'):=by
 cases o with
 |none=>rw[h.none'];exact .refl _
 |some b=>exact h.some'.perm
theorem eO.mem'{b:Nat}{x:Blk}{L L':SH}(h:eO b x L L'):(b,x)∈L:=by
 induction h with
 |here L=>simp
 |there p h j=>simp[j]
section
variable {KL:AV->SH->Prop} {L L':SH}
theorem bA{o:Option Nat}{i n by_ M k:Nat}{rows m:List (List AV)}(E:(M,(⟨n,m⟩:Blk))∈L)(B:ee o n rows L L')(u:rows.length=i)(S:o=none->rows=[])(O:k=m.length)(Z:0<m.length)(h2:2*(i+m.length)*by_<=2^48)(G:2*(i+m.length)<=2^62)(h4:(m.all λr=>r.all AV.one)=true)
  (h:∀b,b∉L.names->KL (.sl b 0 (i+m.length)) ((b,⟨n,rows++m⟩)::L')):W.append n by_ (aj o i) (.sl M 0 k) L KL:=by
 subst O;cases o with
 |none=>have j:=S rfl;subst j;simp only[TQ]at u;subst u;have N:=B.none';subst N;have:=CA (KL:=KL) (L:=L) (by_:=by_) (jN E rfl rfl) (by simpa using h2) (by simpa using G) h4 (by show m.length≠0;omega) (λb D=>by simpa using h b D);exact this
 |some b=>subst u;exact jM (y:=⟨n,rows⟩) (l:=rows) B.some'.mem' rfl UZ UZ (jN E rfl rfl) h2 G h4 B.some' (λY D=>h Y D)
theorem nN{α:Type}{f:α->List AV}{l:List α}{o:Option Nat}{i n by_:Nat}{rows:List (List AV)}(G:ee o n rows L L')(M:∀x,(f x).length=n)(j:rows.length=i)(S:o=none->rows=[])(h2:2*(i+l.length)*by_<=2^48)(N:2*(i+l.length)<=2^62)(h4:∀x,(f x).all AV.one=true)
  (h:∀B,(B=none->rows++l.map f=[])->KL (aj B (i+l.length)) (ab B n (rows++l.map f)++L')):W.append n by_ (aj o i) (.lst (l.map f)) L KL:=by
 have u:((l.map f).all λr=>r.all AV.one)=true:=by rw[Tv];intro r j;obtain⟨x,_,rfl⟩:=TR.1 j;exact h4 x
 cases o with
 |none=>
  have D:=S rfl;subst D;simp only[TQ]at j;subst j;have E:=G.none';subst E;refine⟨[],l.map f,rfl,pe M,by simpa using h2,by simpa using N,u,λe=>?_,λe b O=>?_⟩
  .have E:l=[]:=by simpa using e
   subst E;exact h none λ_=>rfl
  .have:=h (some b) nofun;simpa[aj,ab]using this
 |some b=>subst j;refine jM (y:=⟨n,rows⟩) (l:=rows) G.some'.mem' rfl UZ UZ (pe M) (by simpa using h2) (by simpa using N) u G.some' (λY O=>?_);have:=h (some Y) nofun;simpa[aj,ab]using this
inductive fE:SH->SH->Prop where
 |nil (L:SH):fE L []
 |one {b:Nat} {x:Blk} {L L' R:SH}:eO b x L L'->fE L' R->fE L ((b,x)::R)
 |slot {o:Option Nat} {n:Nat} {rows:List (List AV)} {L L' R:SH}:ee o n rows L L'->fE L' R->fE L (ab o n rows++R)
 |slotl {o:Option Nat} {n:Nat} {rows:List (List AV)} {L L':SH}:ee o n rows L L'->fE L (ab o n rows)
theorem fE.perm{L R:SH}(h:fE L R):∃K,L.Perm (K++R):=by
 induction h with
 |nil L=>exact⟨L,UZ⟩
 |one j hp u=>obtain⟨K,B⟩:=u;exact⟨K,(j.perm.trans ((B.cons _).trans Up.symm))⟩
 |slot j hp u=>obtain⟨K,B⟩:=u;refine⟨K,j.perm.trans ((B.append_left _).trans ?_)⟩;rw[<-TS,<-TS];exact Tt.append_right _
 |slotl j=>exact⟨_,j.perm.trans Tt⟩
theorem az.pick{vs j:List AV}{R:SH}(h:fE L R)(u:vs=j):az vs L j R:=by subst u;obtain⟨K,B⟩:=h.perm;exact az.forget B
end
end
def Fr.perm{B:Nat}{L E L'':SH}{H H':ae}(h:Fr B L H E H')(hp:E.Perm L''):Fr B L H L'' H':=
 ⟨h.next,h.bd,h.sub.perm hp,λb x D u=>⟨(h.keep b x D u).1,λG=>(h.keep b x D u).2 ((hp.map Prod.fst).mem_iff.2 G)⟩,h.dom,λb M j=>h.fresh b ((hp.map Prod.fst).mem_iff.2 M) j⟩
def ac.perm{P:Program}{f:FuncId}{args:List AV}{L:SH}{Q:AV->SH->Prop}(h:ac P f args L λv j=>∃L'',j.Perm L''/\Q v L''):ac P f args L Q:=⟨h.1,λH B u=>by
 obtain⟨v,M,j,G,E,L'',hp,D⟩:=h.2 H B u;exact⟨v,M,L'',G,E.perm hp,D⟩⟩
def eP.refl(K:SH):∀l:List AV,eP K l l
 |[]=>.nil
 |a::l=>.cons (.refl a) (eP.refl K l)
def az.row{vs:List AV}{L K R:SH}{b n:Nat}{rows rows':List (List AV)}(O:L.Perm (K++(b,⟨n,rows⟩)::R))(B:rows.length=rows'.length)(N:∀(j:Nat) (r E:List AV),rows[j]? =some r->rows'[j]? =some E->eP K r E):az vs L vs ((b,⟨n,rows'⟩)::R):=by
 refine⟨K,(b,⟨n,rows⟩)::R,O,⟨rfl,λi a a2 D u=>by rw[D]at u;cases u;exact .refl _⟩,rfl,λi p q D u=>?_⟩
 match i with
 |0=>cases D;cases u;exact⟨rfl,rfl,B,λj s s2 g1 Z=>(N j s s2 g1 Z).at_⟩
 |i+1=>simp only[UA]at D u;rw[D]at u;cases u;exact⟨rfl,rfl,rfl,λj r r2 Y M=>by rw[Y]at M;cases M;exact⟨rfl,λk a a2 S G=>by rw[S]at G;cases G;exact .refl _⟩⟩
inductive uo:SH->SH->SH->Prop where
 |nil (L:SH):uo L [] L
 |one {b:Nat} {x:Blk} {L L' R K:SH}:eO b x L L'->uo L' R K->uo L ((b,x)::R) K
 |slot {o:Option Nat} {n:Nat} {rows:List (List AV)} {L L' R K:SH}:ee o n rows L L'->uo L' R K->uo L (ab o n rows++R) K
def uo.perm{L R K:SH}(h:uo L R K):L.Perm (K++R):=by
 induction h with
 |nil L=>simp
 |one u hp j=>exact(u.perm.trans ((j.cons _).trans Up.symm))
 |slot u hp j=>refine u.perm.trans ((j.append_left _).trans ?_);rw[<-TS,<-TS];exact Tt.append_right _
def az.pickE{vs j:List AV}{L R R2:SH}(h:fE L R)(u:vs=j)(B:R=R2):az vs L j R2:=by subst B;exact az.pick h u
def az.rowA{vs E:List AV}{L A R K:SH}{b n:Nat}{rows rows':List (List AV)}(h:uo L (A++(b,⟨n,rows⟩)::R) K)(G:rows.length=rows'.length)(hr:∀(j:Nat) (r N:List AV),rows[j]? =some r->rows'[j]? =some N->eP K r N)(hv:vs=E):az vs L E (A++(b,⟨n,rows'⟩)::R):=by
 subst hv;refine⟨K,_,h.perm,⟨rfl,λi a O B u=>by rw[B]at u;cases u;exact .refl _⟩,UZ,λi p q B u=>?_⟩;have D:p=q->p.1=q.1/\p.2.size=q.2.size/\p.2.rows.length=q.2.rows.length/\∀(j:Nat) (r M:List AV),p.2.rows[j]? =some r->q.2.rows[j]? =some M->r.length=M.length/\∀(k:Nat) (a O:AV),r[k]? =some a->M[k]? =some O->Fz K a O:=λe=>by subst e;exact⟨rfl,rfl,rfl,λj r M h3 Z=>by rw[h3]at Z;cases Z;exact⟨rfl,λk a O h5 Y=>by rw[h5]at Y;cases Y;exact .refl _⟩⟩
 rcases Tf i A.length with S|S
 .rw[Tq S]at B u;rw[B]at u;cases u;exact D rfl
 .rw[Tm S]at B u;generalize i-A.length=k at B u
  match k with
  |0=>cases B;cases u;exact⟨rfl,rfl,G,λj r N g1 g2=>(hr j r N g1 g2).at_⟩
  |k+1=>simp only[UA]at B u;rw[B]at u;cases u;exact D rfl
section
section
variable {KL:AV->SH->Prop} {L L':SH}
theorem gp{α:Type}{f:α->List AV}{l:List α}{b i n by_:Nat}{rows:List (List AV)}{L L':SH}{KL:AV->SH->Prop}(D:eO b ⟨n,rows⟩ L L')(E:∀x,(f x).length=n)(u:rows.length=i)(h2:2*(i+l.length)*by_<=2^48)(M:2*(i+l.length)<=2^62)(h4:∀x,(f x).all AV.one=true)
  (h:∀j,j∉L.names->KL (.sl j 0 (i+l.length)) ((j,⟨n,rows++l.map f⟩)::L')):W.append n by_ (.sl b 0 i) (.lst (l.map f)) L KL:=by
 have B:((l.map f).all λr=>r.all AV.one)=true:=by rw[Tv];intro r u;obtain⟨x,_,rfl⟩:=TR.1 u;exact h4 x
 subst u;exact jM (y:=⟨n,rows⟩) (l:=rows) D.mem' rfl UZ UZ (pe E) (by simpa using h2) (by simpa using M) B D (λj G=>by simpa using h j G)
end
theorem nO{P:Program}{KL:AV->SH->Prop}{g:FuncId}{args:List AV}{L:SH}{R:AV->SH->Prop}(h:ac P g args [] R)(B:∀v K,R v K->KL v (L++K)):W.callM P g args L KL:=
 ⟨.perm (h.frame (K:=[]) (R:=L) (.refl _) λu K j=>⟨L++K,Tt,B u K j⟩)⟩
theorem yo{α β:Type}{f:α->β}{l m:List α}{n:Nat}(h:l.take n=m):((l.map f).drop 0).take n=m.map f:=by rw[List.drop_zero,<-List.map_take,h]
end
end Go.Proofs.YtbofdbhnbodbiaaGreatDoor.Am
section
namespace Go.Proofs
open Go.Shelf
def Tryz.lays189_ren:Go.Shelf.Ren:=⟨fun|189=>115|125=>160|257=>159|128=>187|129=>188|294=>178|295=>179|296=>180|297=>181|298=>182|299=>183|216=>184|300=>185|301=>186|328=>194|329=>195|330=>196|331=>197|332=>198|215=>199|343=>201|n=>n,fun|28=>55|3=>3|46=>222|0=>0|51=>244|53=>246|4=>4|183=>237|182=>236|131=>241|5=>5|9=>9|218=>252|222=>256|228=>258|229=>249|n=>n,fun|n=>n⟩
def Tryz.lays189:Go.Proofs.Lays.n189 Tryz.prog Tryz.lays189_ren:={
 mixed:=by kernel_rfl
 f125:=Tryz.func160.trans (congrArg some (by kernel_rfl))
 f128:=Tryz.func187.trans (congrArg some (by kernel_rfl))
 f129:=Tryz.func188.trans (congrArg some (by kernel_rfl))
 f189:=Tryz.func115.trans (congrArg some (by kernel_rfl))
 f215:=Tryz.func199.trans (congrArg some (by kernel_rfl))
 f216:=Tryz.func184.trans (congrArg some (by kernel_rfl))
 f257:=Tryz.func159.trans (congrArg some (by kernel_rfl))
 f294:=Tryz.func178.trans (congrArg some (by kernel_rfl))
 f295:=Tryz.func179.trans (congrArg some (by kernel_rfl))
 f296:=Tryz.func180.trans (congrArg some (by kernel_rfl))
 f297:=Tryz.func181.trans (congrArg some (by kernel_rfl))
 f298:=Tryz.func182.trans (congrArg some (by kernel_rfl))
 f299:=Tryz.func183.trans (congrArg some (by kernel_rfl))
 f300:=Tryz.func185.trans (congrArg some (by kernel_rfl))
 f301:=Tryz.func186.trans (congrArg some (by kernel_rfl))
 f328:=Tryz.func194.trans (congrArg some (by kernel_rfl))
 f329:=Tryz.func195.trans (congrArg some (by kernel_rfl))
 f330:=Tryz.func196.trans (congrArg some (by kernel_rfl))
 f331:=Tryz.func197.trans (congrArg some (by kernel_rfl))
 f332:=Tryz.func198.trans (congrArg some (by kernel_rfl))
 f343:=Tryz.func201.trans (congrArg some (by kernel_rfl))
 t0:=Tryz.underlying0
 a0:=Tryz.isAgg0
 z0:=Tryz.sizeOf0
 v0:=Tryz.zeroValue0
 t3:=Tryz.underlying3
 a3:=Tryz.isAgg3
 z3:=Tryz.sizeOf3
 v3:=Tryz.zeroValue3
 t4:=Tryz.underlying4
 a4:=Tryz.isAgg4
 z4:=Tryz.sizeOf4
 v4:=Tryz.zeroValue4
 t5:=Tryz.underlying5
 a5:=Tryz.isAgg5
 z5:=Tryz.sizeOf5
 v5:=Tryz.zeroValue5
 t9:=Tryz.underlying9
 a9:=Tryz.isAgg9
 z9:=Tryz.sizeOf9
 v9:=Tryz.zeroValue9
 t28:=Tryz.underlying55
 a28:=Tryz.isAgg55
 z28:=Tryz.sizeOf55
 v28:=Tryz.zeroValue55
 t46:=Tryz.underlying222
 a46:=Tryz.isAgg222
 z46:=Tryz.sizeOf222
 v46:=Tryz.zeroValue222
 t51:=Tryz.underlying244
 a51:=Tryz.isAgg244
 z51:=Tryz.sizeOf244
 v51:=Tryz.zeroValue244
 t53:=Tryz.underlying246
 a53:=Tryz.isAgg246
 z53:=Tryz.sizeOf246
 v53:=Tryz.zeroValue246
 t131:=Tryz.underlying241
 a131:=Tryz.isAgg241
 z131:=Tryz.sizeOf241
 v131:=Tryz.zeroValue241
 t182:=Tryz.underlying236
 a182:=Tryz.isAgg236
 z182:=Tryz.sizeOf236
 v182:=Tryz.zeroValue236
 t183:=Tryz.underlying237
 a183:=Tryz.isAgg237
 z183:=Tryz.sizeOf237
 v183:=Tryz.zeroValue237
 t218:=Tryz.underlying252
 a218:=Tryz.isAgg252
 z218:=Tryz.sizeOf252
 v218:=Tryz.zeroValue252
 t222:=Tryz.underlying256
 a222:=Tryz.isAgg256
 z222:=Tryz.sizeOf256
 v222:=Tryz.zeroValue256
 t228:=Tryz.underlying258
 a228:=Tryz.isAgg258
 z228:=Tryz.sizeOf258
 v228:=Tryz.zeroValue258
 t229:=Tryz.underlying249
 a229:=Tryz.isAgg249
 z229:=Tryz.sizeOf249
 v229:=Tryz.zeroValue249}
open Go.Sort Go.RowKit in
def Tryz.slices_Sort_int(j u D:Nat)(zs:List Int)(w:World)(G:Holds (Value.int .i64) w j u zs.toArray)(B:j<w.heap.size)(E:zs.length<4611686018427387904):
  Calls Tryz.prog 115 #[.slice (some ⟨j,u,none⟩) zs.length D] w λe w'=>
   e=.returned (.tuple #[])/\∃n os,w'=grow (putRow (Value.int .i64) (Sort.ahead w n) j u (zs.mergeSort λx y=>decide (x<=y)).toArray) os:=Any.slices_Sort_int Tryz.lays189 j u D zs w G B E
def Tryz.laysNm220_ren:Go.Shelf.Ren:=⟨fun|20=>116|n=>n,fun|22=>55|3=>3|4=>4|0=>0|n=>n,fun|n=>n⟩
def Tryz.laysNm220:Go.Proofs.Lays2.n20 Tryz.prog Tryz.laysNm220_ren:={
 mixed:=by kernel_rfl
 f20:=Tryz.func116.trans (congrArg some (by kernel_rfl))
 t0:=Tryz.underlying0
 a0:=Tryz.isAgg0
 z0:=Tryz.sizeOf0
 v0:=Tryz.zeroValue0
 t3:=Tryz.underlying3
 a3:=Tryz.isAgg3
 z3:=Tryz.sizeOf3
 v3:=Tryz.zeroValue3
 t4:=Tryz.underlying4
 a4:=Tryz.isAgg4
 z4:=Tryz.sizeOf4
 v4:=Tryz.zeroValue4
 t22:=Tryz.underlying55
 a22:=Tryz.isAgg55
 z22:=Tryz.sizeOf55
 v22:=Tryz.zeroValue55
 i3:=by kernel_rfl}
open Go.RowKit Go.Lib Go.Sort in
def Tryz.slices_Compact_int(u j B:Nat)(zs:List Int)(w:World)(G:Holds (Value.int .i64) w u j zs.toArray)(E:zs.length<=9223372036854775807)(D:zs.length<=B):
  Calls Tryz.prog 116 #[.slice (some ⟨u,j,none⟩) zs.length B] w λe w'=>e=.returned (.slice (some ⟨u,j,none⟩) (Lib.compact zs).length B)/\∃q,w'=putRow (Value.int .i64) (Sort.ahead w q) u j (Lib.compact zs++List.replicate (zs.length-(Lib.compact zs).length) 0).toArray:=Any.slices_Compact_int Tryz.laysNm220 u j B zs w G E D
open Go.RowKit Go.Lib Go.Sort in
def Tryz.slices_Compact_int_empty(a:Option Addr)(j:Nat)(w:World):
  Calls Tryz.prog 116 #[.slice a 0 j] w λe w'=>e=.returned (.slice a 0 j)/\w'=w:=Any.slices_Compact_int_empty Tryz.laysNm220 a j w
open Go.RowKit Go.Sort in
def Tryz.slices_Sort_int_none(p:Option Addr)(j:Nat)(w:World):
  Calls Tryz.prog 115 #[.slice p 0 j] w λe w'=>e=.returned (.tuple #[])/\w'=w:=Any.slices_Sort_int_none Tryz.lays189 p j w
end Go.Proofs
end
section
namespace Go.Proofs.YtbofdbhnbodbiaaGreatDoor
open Go.ChangeShapes Go.WideShapes Go.ChangeAt Go.RowKit
def elemI:Elem Tryz.prog 55 3 (.int .i64 0) 1 8:=elem_mk Tryz.underlying55 (by kernel_rfl) rfl U0
def cloneI_any(A:Option Addr)(n c:Nat)(xs:List Value)(w:World)(G:Flat w 1 A n xs)(N:∀x∈xs,x.oneCell'=true)(hn:n*8<=140737488355328)(M:A=none->n=0):
  Calls Tryz.prog 113 #[.slice A n c] w λe w'=>∃v,e=.returned v/\w'.ownsRow w.heap.size 3 1 v n xs/\Below w.heap.size w w':=by
 have D:=Lib.hid G;have S:=Lib.hid N;clear G N;have Y:=λ(W:World) (a:Option Addr) (l c:Nat)=>Lib.run_eql_slice_nil (P:=Tryz.prog) W 55 3 a l c 0 0 Tryz.underlying55;cases A with
 |none=>
  obtain rfl:n=0:=M rfl;have E:xs=[]:=Ub (by have:=D.out.1;simpa using this);have Z:=Lib.hid E;clear E D S
  go_enter Tryz.func113,Tryz.ntmps113
  go_wp2_with fail
  go_ret
  exact⟨_,rfl,by rw[Z.out];exact UD _ _ _ _,Below.refl _ _⟩
 |some a=>
  clear M;have O:Hid ((w.alloc (.cells #[] 3)).ownsRow w.heap.size 3 1 (.slice (some ⟨w.heap.size,0,none⟩) 0 0) 0 []):=Lib.hid (Uz w #[] 0 (Te _) (by simp[maxLen]) UZ)
  go_enter Tryz.func113,Tryz.ntmps113
  go_wp2_with (at_builtin;go_must (refine wpList_app rfl (.tmp 5) (.tmp 6) rfl elemI w.heap.size _ 0 [] rfl O.out (some a) n c xs rfl (D.out.kept ((Below.refl _ _).alloc (Te _) _)) S.out (by simp only[maxLen];omega) UW UZ ?_);intro v1 w1 j u)
  have B:=((Below.refl w.heap.size w).alloc (Te _) _).grown u UZ (own_from O.out)
  go_wp2_with fail
  go_ret
  exact⟨_,rfl,by simpa using j,B⟩
end Go.Proofs.YtbofdbhnbodbiaaGreatDoor
end
section
namespace Go.Proofs.YtbofdbhnbodbiaaGreatDoor
open Go.ChangeShapes Go.WideShapes Go.ChangeAt Go.RowKit
def append_zero(t ty e:TypeId)(P:Program)(w:World)(ht:P.underlying t=some (.slice e))(j:∃i,P.info? e=some i)(A B:Option Addr)(c:Nat):(Builtin.append_ #[t,t] ty #[.slice A 0 0,.slice B 0 c]).run P w=.ok (.slice A 0 0) w:=by obtain⟨i,j⟩:=j;cases A<;>cases B<;>simp[Builtin.append_,run_underlying ht,sizeOf,typeInfo,j,Builtin.lenOf,Builtin.firstCells,loadCells,loadCellsFrom,storeCells]
def cloneI_zero(A:Option Addr)(c:Nat)(w:World):Calls Tryz.prog 113 #[.slice A 0 c] w λe w'=>∃B,e=.returned (.slice B 0 0)/\Below w.heap.size w w':=by
 have E:=λ(W:World) (a:Option Addr) (l c:Nat)=>Lib.run_eql_slice_nil (P:=Tryz.prog) W 55 3 a l c 0 0 Tryz.underlying55;cases A with
 |none=>
  go_enter Tryz.func113,Tryz.ntmps113
  go_wp2_with fail
  go_ret
  exact⟨_,rfl,Below.refl _ _⟩
 |some a=>
  have j:∃i,Tryz.prog.info? 3=some i:=Option.isSome_iff_exists.1 (show(Tryz.prog.info? 3).isSome=true by kernel_rfl);have u:=λ(W:World) (D:TypeId) (A B:Option Addr)=>append_zero 55 D 3 Tryz.prog W Tryz.underlying55 j A B c
  go_enter Tryz.func113,Tryz.ntmps113
  go_wp2_with fail
  go_ret
  exact⟨_,rfl,(Below.refl _ _).alloc (Te _) _⟩
end Go.Proofs.YtbofdbhnbodbiaaGreatDoor
end
namespace Go.Proofs.YtbofdbhnbodbiaaGreatDoor.Am
section
open Go.RowKit Go.Sort
def uq(l:List Int):List Int:=l.mergeSort λx y=>decide (x<=y)
def pg(l:List Int):(uq l).length=l.length:=by simp[uq]
def Er{xs:List Int}{i:Nat}{r:List AV}(h:(xs.map ah)[i]? =some r):∃x,xs[i]? =some x/\r=[.int .i64 x]:=by
 rw[Tw]at h;cases j:xs[i]? with
 |none=>rw[j]at h;cases h
 |some x=>rw[j]at h;cases h;exact⟨x,rfl,rfl⟩
def Es{P:Program}{f:FuncId}(hbody:∃fn c,P.funcs[f]? =some fn/\fn.body=some c)(b:Nat)(xs G:List Int)(hlen:G.length=xs.length)(v:AV)(ret:Addr->Nat->Value)
  (hrep:∀(w':World) (σ:bF) (T:Nat->Prop) (B:cl) (a:Addr) (D:Nat),σ b=some B->B.ok->xs.length<=D->D<=maxLen->(0<D->a=⟨B.block,B.base+0*B.size,none⟩/\∃cs e,w'.heap[B.block]? =some (.cells cs e (0,0))/\B.base+(0+D)*B.size<=cs.size)->bq w' σ T v (ret a D))
  (hpos:∀(O S D:Nat) (w:World),Holds (Value.int .i64) w O S xs.toArray->O<w.heap.size->xs.length<=D->Calls P f #[.slice (some ⟨O,S,none⟩) xs.length D] w λe w'=>e=.returned (ret ⟨O,S,none⟩ D)/\∃n os,w'=grow (putRow (Value.int .i64) (Sort.ahead w n) O S G.toArray) os)
  (hzero:xs.length=0->∀(a:Addr) (D:Nat) (w:World),Calls P f #[.slice (some a) 0 D] w λe w'=>e=.returned (ret a D)/\w'=w) :
  ac P f [.sl b 0 xs.length] [(b,⟨1,xs.map ah⟩)] λu L=>u=v/\L=[(b,⟨1,G.map ah⟩)]:=by
 refine⟨hbody,λH hb hs=>⟨v,H.put b (some ⟨1,G.map ah⟩),[(b,⟨1,G.map ah⟩)],?_,?_,rfl,rfl⟩⟩
 .intro w σ vs hW hvs;obtain⟨v,rfl,hv⟩:=Hq hvs;obtain⟨B,a,D,rfl,E,hnc,hmx,ha⟩:=hv.sl_inv;have hg:H.get b=some ⟨1,xs.map ah⟩:=hs.get (b,⟨1,xs.map ah⟩) UZ;obtain⟨pl',cs,e,g1,N⟩:=hW.live b _ hg;rw[E]at g1;cases g1;replace N:=N.1 (hv.sl_ok E);have hsz:B.size=1:=N.size;rcases Ug xs.length with h0|h0
  .have Z:xs=[]:=T9.1 h0;have hy:G=[]:=T9.1 UW;have hz:=hzero h0 a D w;rw[h0];refine hz.mono ?_;rintro e' w' ⟨rfl,rfl⟩;have hput:=hW.put hg E (kN.refl N.block) (x':=⟨1,G.map ah⟩) N.size.symm (by simp[hy]) (by simpa[hy,Z]using N.room) (by simp[hy]);exact⟨_,σ,rfl,hrep _ _ _ B a D E (hv.sl_ok E) hnc hmx ha,hput.1,hput.2,λc B M=>.inl M⟩
  .have ha':=ha;obtain⟨rfl,cs',te,hcs',hroom⟩:=ha UW;rw[N.block]at hcs';cases hcs';have hr:=N.room;simp only[Um,Nat.mul_one]at hr;have hcell:∀(i:Nat) (x:Int),xs[i]? =some x->cs[B.base+i]? =some (.int .i64 x):=λi x Z=>by
    have hi:=aA Z;have Y:B.base+i<cs.size:=by omega
    have:=N.rep i [.int .i64 x] 0 (.int .i64 x) cs[B.base+i] (by simp[Z,ah]) rfl (by simp[TP Y]);cases hq:cs[B.base+i]with
    |_=>rw[hq]at this;cases this<;>rw[TP Y,hq]
   have hH:Holds (Value.int .i64) w B.block (B.base+0*B.size) xs.toArray:=λj hj=>by
    have hj':j<xs.length:=by simpa using hj
    refine⟨?_,by simp[World.frozen?,N.block]⟩;have:=hcell j xs[j] (Td hj');simp[World.cell?,N.block,this,hj']
   refine(hpos B.block (B.base+0*B.size) D w hH (hW.lt b B E) hnc).mono ?_;rintro e' w' ⟨rfl,n,os,rfl⟩;have hz:B.base+0*B.size=B.base:=by omega
   rw[show putRow (Value.int .i64) (Sort.ahead w n) B.block (B.base+0*B.size) G.toArray=putRow (Value.int .i64) (Sort.ahead w n) B.block B.base G.toArray by rw[hz]];have hw:kN w (putRow (Value.int .i64) (Sort.ahead w n) B.block B.base G.toArray) B.block cs (putCells (Value.int .i64) B.base G.toArray cs) e:=
    ⟨rfl,rfl,rfl,by simp[Sort.ahead],N.block,by simp[putRow,mapBlock,Sort.ahead,Array.getElem?_modify,N.block,onCells],by simp[putCells],λd hd=>by
     have:B.block≠d:=λe=>hd e.symm
     simp[putRow,mapBlock,Sort.ahead,Array.getElem?_modify,this]⟩
   obtain⟨p1,p2⟩:=hW.put hg E hw (x':=⟨1,G.map ah⟩) N.size.symm (λi r hr=>by obtain⟨x,_,rfl⟩:=Er hr;rfl) (by simp only[Um,Nat.mul_one];omega) (λi r j a u hr hj hu=>by
    obtain⟨x,Z,rfl⟩:=Er hr
    match j,hj with
    |0,hj=>
     cases hj;have hi:=aA Z;have Y:B.base+i<cs.size:=by omega
     simp only[Nat.mul_one,UO]at hu;have:(putCells (Value.int .i64) B.base G.toArray cs)[B.base+i]? =some (.int .i64 x):=by
      have hx':G[i]=x:=by rw[Td hi]at Z;exact UL Z
      simp[putCells,Y,hi,hx']
     rw[this]at hu;cases hu;exact .int _ _
    |j+1,hj=>simp at hj)
   generalize hw1:putRow (Value.int .i64) (Sort.ahead w n) B.block B.base G.toArray=w1 at p1 p2;have hbl:Below w1.heap.size w1 (grow w1 os):=⟨rfl,rfl,rfl,by simp[grow],λk hk=>heap_grow_old _ _ hk⟩;have hE:=p2.trans (iU hbl λc M=>(p1.apart c M).1);exact⟨_,σ,rfl,hrep _ _ _ B _ D E (hv.sl_ok E) hnc hmx (λh=>⟨rfl,by obtain⟨cs2,k1,k2⟩:=hE.shape _ _ _ N.block;exact⟨cs2,_,k1,UW⟩⟩),um p1 hbl,p2.trans (iU hbl λc M=>(p1.apart c M).1),λc B M=>.inl M⟩
 .have hg:H.get b=some ⟨1,xs.map ah⟩:=hs.get (b,⟨1,xs.map ah⟩) UZ;refine⟨Te _,λc M=>?_,⟨UZ,λp hp=>?_⟩,λc x M hn=>⟨?_,?_⟩,λc M h0=>?_,λc M hlt=>?_⟩
  .rw[ae.get_put,if_neg];exact hb c M;rintro rfl;rw[hb _ M]at hg;cases hg
  .simp only[Tl]at hp;subst hp;rw[ae.get_put,if_pos rfl]
  .rw[ae.get_put,if_neg];exact M;rintro rfl;exact hn UZ
  .simpa using hn
  .rw[ae.get_put,if_neg];exact h0;rintro rfl;rw[hg]at h0;cases h0
  .simpa using M
def Hv(b:Nat)(xs:List Int)(E:xs.length<4611686018427387904):ac Tryz.prog 115 [.sl b 0 xs.length] [(b,⟨1,xs.map ah⟩)] λv L=>v=.tup []/\L=[(b,⟨1,(uq xs).map ah⟩)]:=
 Es ⟨_,_,Tryz.func115,rfl⟩ b xs (uq xs) (pg xs) (.tup []) (λ_ _=>.tuple #[]) (λ_ _ _ _ _ _ _ _ _ _ _=>.tup [] [] rfl UZ)
  (λD B j w G u _=>Tryz.slices_Sort_int D B j xs w G u E) (λ_ a j w=>Tryz.slices_Sort_int_none (some a) j w)
def nP(l:List Int):(Lib.compact l).length<=l.length:=by unfold Lib.compact Lib.compactUpTo;rw[Um];exact Tx (Ux _ _) UZ
def yp(b:Nat)(xs:List Int)(Y:xs.length<=9223372036854775807):ac Tryz.prog 116 [.sl b 0 xs.length] [(b,⟨1,xs.map ah⟩)] λv L=>v=.sl b 0 (Lib.compact xs).length/\L=[(b,⟨1,(Lib.compact xs++List.replicate (xs.length-(Lib.compact xs).length) 0).map ah⟩)]:=
 Es ⟨_,_,Tryz.func116,rfl⟩ b xs _ (by have:=nP xs;simp;omega) (.sl b 0 (Lib.compact xs).length) (λa j=>.slice (some a) (Lib.compact xs).length j)
  (λw_ σ T O a j E G D h3 h4=>.sl b 0 _ O a j E G (Tx (nP xs) D) h3 h4)
  (λM B j w Z N u=>(Tryz.slices_Compact_int M B j xs w Z Y u).mono λe w' ⟨E,q,D⟩=>⟨E,q,#[],by rw[D,grow_empty]⟩)
  (λG a j w=>by
   have S:xs=[]:=T9.1 G;subst S;exact Tryz.slices_Compact_int_empty (some a) j w)
def BB(xs:List Int)(G:xs.length*8<=140737488355328):ac Tryz.prog 113 [.lst (xs.map ah)] [] λv L=>∃o,v=aj o xs.length/\L=ab o 1 (xs.map ah)/\(o=none->xs=[]):=by
 rcases List.eq_nil_or_concat xs with rfl|⟨S,y,j⟩
 .exact(F6 cloneI_zero ⟨_,_,Tryz.func113,rfl⟩).mono λv L ⟨B,O⟩=>⟨none,B,O,λ_=>rfl⟩
 .have u:xs.map ah≠[]:=by rw[j];simp
  refine(yk (λA n c xs w M B E N=>cloneI_any A n c xs w M B E N) ⟨_,_,Tryz.func113,rfl⟩ (xs.map ah) u (by simp[ah,AV.one]) (λr D=>by obtain⟨x,_,rfl⟩:=TR.1 D;rfl) (by simpa using G)).mono ?_;rintro v L ⟨b,rfl,rfl⟩;exact⟨some b,by simp[aj],rfl,λh=>by cases h⟩
end
end Go.Proofs.YtbofdbhnbodbiaaGreatDoor.Am
section
namespace Go.Proofs.YtbofdbhnbodbiaaGreatDoor
open Go.ChangeShapes Go.WideShapes Go.ChangeAt Go.RowKit
def elemB:Elem Tryz.prog 41 4 (.bool false) 1 1:=elem_mk Tryz.underlying41 (by kernel_rfl) rfl U0
def cloneB_any(A:Option Addr)(n c:Nat)(xs:List Value)(w:World)(G:Flat w 1 A n xs)(N:∀x∈xs,x.oneCell'=true)(hn:n*1<=140737488355328)(M:A=none->n=0):
  Calls Tryz.prog 157 #[.slice A n c] w λe w'=>∃v,e=.returned v/\w'.ownsRow w.heap.size 4 1 v n xs/\Below w.heap.size w w':=by
 have D:=Lib.hid G;have S:=Lib.hid N;clear G N;have Y:=λ(W:World) (a:Option Addr) (l c:Nat)=>Lib.run_eql_slice_nil (P:=Tryz.prog) W 41 4 a l c 0 0 Tryz.underlying41;cases A with
 |none=>
  obtain rfl:n=0:=M rfl;have E:xs=[]:=Ub (by have:=D.out.1;simpa using this);have Z:=Lib.hid E;clear E D S
  go_enter Tryz.func157,Tryz.ntmps157
  go_wp2_with fail
  go_ret
  exact⟨_,rfl,by rw[Z.out];exact UD _ _ _ _,Below.refl _ _⟩
 |some a=>
  clear M;have O:Hid ((w.alloc (.cells #[] 4)).ownsRow w.heap.size 4 1 (.slice (some ⟨w.heap.size,0,none⟩) 0 0) 0 []):=Lib.hid (Uz w #[] 0 (Te _) (by simp[maxLen]) UZ)
  go_enter Tryz.func157,Tryz.ntmps157
  go_wp2_with (at_builtin;go_must (refine wpList_app rfl (.tmp 5) (.tmp 6) rfl elemB w.heap.size _ 0 [] rfl O.out (some a) n c xs rfl (D.out.kept ((Below.refl _ _).alloc (Te _) _)) S.out (by simp only[maxLen];omega) UW UZ ?_);intro v1 w1 j u)
  have B:=((Below.refl w.heap.size w).alloc (Te _) _).grown u UZ (own_from O.out)
  go_wp2_with fail
  go_ret
  exact⟨_,rfl,by simpa using j,B⟩
end Go.Proofs.YtbofdbhnbodbiaaGreatDoor
end
namespace Go.Proofs.YtbofdbhnbodbiaaGreatDoor.Am
section
open Go.RowKit
def Il(xs:List Bool)(B:xs.length<=140737488355328):ac Tryz.prog 157 [.lst (xs.map aB)] [] λv L=>∃o,v=aK o xs.length/\L=ab o 1 (xs.map aB)/\(o=none->xs=[]):=by refine(fV (λA n c xs w D G u E=>cloneB_any A n c xs w D G u E) ⟨_,_,Tryz.func157,rfl⟩ (xs.map aB) (by simp[aB,AV.one]) (λr j=>by obtain⟨x,_,rfl⟩:=TR.1 j;rfl) (by simpa using B)).mono ?_;rintro v L ⟨o,rfl,rfl,h⟩;exact⟨o,UZ,rfl,λe=>by simpa using h e⟩
end
end Go.Proofs.YtbofdbhnbodbiaaGreatDoor.Am
section
namespace Go.Proofs.YtbofdbhnbodbiaaGreatDoor
open Go.ChangeShapes Go.WideShapes Go.ChangeAt Go.RowKit
def elemT:Elem Tryz.prog 42 98 (.agg #[.int .i64 0,.int .i64 0,.bool false]) 3 24:=elem_mk Tryz.underlying42 (by kernel_rfl) rfl U0
def cloneT_any(A:Option Addr)(n c:Nat)(xs:List Value)(w:World)(G:Flat w 3 A n xs)(N:∀x∈xs,x.oneCell'=true)(hn:n*24<=140737488355328)(M:A=none->n=0):
  Calls Tryz.prog 158 #[.slice A n c] w λe w'=>∃v,e=.returned v/\w'.ownsRow w.heap.size 98 3 v n xs/\Below w.heap.size w w':=by
 have D:=Lib.hid G;have S:=Lib.hid N;clear G N;have Y:=λ(W:World) (a:Option Addr) (l c:Nat)=>Lib.run_eql_slice_nil (P:=Tryz.prog) W 42 98 a l c 0 0 Tryz.underlying42;cases A with
 |none=>
  obtain rfl:n=0:=M rfl;have E:xs=[]:=Ub (by have:=D.out.1;simpa using this);have Z:=Lib.hid E;clear E D S
  go_enter Tryz.func158,Tryz.ntmps158
  go_wp2_with fail
  go_ret
  exact⟨_,rfl,by rw[Z.out];exact UD _ _ _ _,Below.refl _ _⟩
 |some a=>
  clear M;have O:Hid ((w.alloc (.cells #[] 98)).ownsRow w.heap.size 98 3 (.slice (some ⟨w.heap.size,0,none⟩) 0 0) 0 []):=Lib.hid (Uz w #[] 0 (Te _) (by simp[maxLen]) UZ)
  go_enter Tryz.func158,Tryz.ntmps158
  go_wp2_with (at_builtin;go_must (refine wpList_app rfl (.tmp 5) (.tmp 6) rfl elemT w.heap.size _ 0 [] rfl O.out (some a) n c xs rfl (D.out.kept ((Below.refl _ _).alloc (Te _) _)) S.out (by simp only[maxLen];omega) UW UZ ?_);intro v1 w1 j u)
  have B:=((Below.refl w.heap.size w).alloc (Te _) _).grown u UZ (own_from O.out)
  go_wp2_with fail
  go_ret
  exact⟨_,rfl,by simpa using j,B⟩
end Go.Proofs.YtbofdbhnbodbiaaGreatDoor
end
namespace Go.Proofs.YtbofdbhnbodbiaaGreatDoor.Am
section
open Go.RowKit
def BC(xs:List ThrD)(B:xs.length*24<=140737488355328):ac Tryz.prog 158 [.lst (xs.map ThrD.enc)] [] λv L=>∃o,v=aK o xs.length/\L=ab o 3 (xs.map ThrD.enc)/\(o=none->xs=[]):=by refine(fV (λA n c xs w D G u E=>cloneT_any A n c xs w D G u E) ⟨_,_,Tryz.func158,rfl⟩ (xs.map ThrD.enc) (by simp[ThrD.enc,AV.one]) (λr j=>by obtain⟨x,_,rfl⟩:=TR.1 j;rfl) (by simpa using B)).mono ?_;rintro v L ⟨o,rfl,rfl,h⟩;exact⟨o,UZ,rfl,λe=>by simpa using h e⟩
end
end Go.Proofs.YtbofdbhnbodbiaaGreatDoor.Am
section
namespace Go.Proofs.YtbofdbhnbodbiaaGreatDoor
open Go.ChangeShapes Go.WideShapes Go.ChangeAt Go.RowKit
def elemJ:Elem Tryz.prog 45 2 (.int .i64 0) 1 8:=elem_mk Tryz.underlying45 (by kernel_rfl) rfl U0
def cloneJ_any(A:Option Addr)(n c:Nat)(xs:List Value)(w:World)(G:Flat w 1 A n xs)(N:∀x∈xs,x.oneCell'=true)(hn:n*8<=140737488355328)(M:A=none->n=0):
  Calls Tryz.prog 121 #[.slice A n c] w λe w'=>∃v,e=.returned v/\w'.ownsRow w.heap.size 2 1 v n xs/\Below w.heap.size w w':=by
 have D:=Lib.hid G;have S:=Lib.hid N;clear G N;have Y:=λ(W:World) (a:Option Addr) (l c:Nat)=>Lib.run_eql_slice_nil (P:=Tryz.prog) W 45 2 a l c 0 0 Tryz.underlying45;cases A with
 |none=>
  obtain rfl:n=0:=M rfl;have E:xs=[]:=Ub (by have:=D.out.1;simpa using this);have Z:=Lib.hid E;clear E D S
  go_enter Tryz.func121,Tryz.ntmps121
  go_wp2_with fail
  go_ret
  exact⟨_,rfl,by rw[Z.out];exact UD _ _ _ _,Below.refl _ _⟩
 |some a=>
  clear M;have O:Hid ((w.alloc (.cells #[] 2)).ownsRow w.heap.size 2 1 (.slice (some ⟨w.heap.size,0,none⟩) 0 0) 0 []):=Lib.hid (Uz w #[] 0 (Te _) (by simp[maxLen]) UZ)
  go_enter Tryz.func121,Tryz.ntmps121
  go_wp2_with (at_builtin;go_must (refine wpList_app rfl (.tmp 5) (.tmp 6) rfl elemJ w.heap.size _ 0 [] rfl O.out (some a) n c xs rfl (D.out.kept ((Below.refl _ _).alloc (Te _) _)) S.out (by simp only[maxLen];omega) UW UZ ?_);intro v1 w1 j u)
  have B:=((Below.refl w.heap.size w).alloc (Te _) _).grown u UZ (own_from O.out)
  go_wp2_with fail
  go_ret
  exact⟨_,rfl,by simpa using j,B⟩
end Go.Proofs.YtbofdbhnbodbiaaGreatDoor
end
namespace Go.Proofs.YtbofdbhnbodbiaaGreatDoor.Am
def qi:RF:=nv (bO Tryz.prog Tryz.f85 [(12,⟨[2,33,34,35],[],true,[]⟩)] [(0,[2,3]),(5,[6])])
abbrev Ao(a b:AV)(L:SH)(Q:R):Prop:=Pc qi 20 Q 0 [] [a,b] L
def yq(j t1:AV)(L:SH)(Q:R)(h:Ao j t1 L Q):ac Tryz.prog 85 [j,t1] L Q:=
 fv qi Tryz.func85 h
def nQ:RF:=nv (bO Tryz.prog Tryz.f69 [(9,⟨[2,3,20,21],[],true,[]⟩)] [(0,[1]),(1,[3])])
abbrev yr(a:AV)(L:SH)(Q:R):Prop:=Pc nQ 20 Q 0 [] [a] L
def wB(j:AV)(L:SH)(Q:R)(h:yr j L Q):ac Tryz.prog 69 [j] L Q:=
 fv nQ Tryz.func69 h
def kW:RF:=nv (bO Tryz.prog Tryz.f47 [] [(0,[5,6]),(3,[11])])
abbrev ur(a b c d e:AV)(L:SH)(Q:R):Prop:=Pc kW 20 Q 0 [] [a,b,c,d,e] L
def sF(u t1 t2 t3 j:AV)(L:SH)(Q:R)(h:ur u t1 t2 t3 j L Q):ac Tryz.prog 47 [u,t1,t2,t3,j] L Q:=
 fv kW Tryz.func47 h
def kX:RF:=nv (bO Tryz.prog Tryz.f87 [(96091,⟨[2,3,79],[],true,[]⟩),(87082,⟨[2,3,7,71],[],true,[]⟩),(78073,⟨[2,3,7,61],[],true,[]⟩),(63058,⟨[2,3,7,43],[],true,[]⟩),(48043,⟨[2,3,7,26],[],true,[]⟩),(39034,⟨[2,3,7,18],[],true,[]⟩),(30025,⟨[2,3,7,8],[],true,[]⟩)] [(0,[3])])
abbrev ut(a b c:AV)(L:SH)(Q:R):Prop:=Pc kX 20 Q 0 [] [a,b,c] L
def sG(j t1 t2:AV)(L:SH)(Q:R)(h:ut j t1 t2 L Q):ac Tryz.prog 87 [j,t1,t2] L Q:=
 fv kX Tryz.func87 h
def nR:RF:=nv (bO Tryz.prog Tryz.f88 [(75070,⟨[2,4,5,6,11,109],[],true,[]⟩),(33028,⟨[2,4,5,6,11,60],[],true,[]⟩)] [(0,[5,6])])
abbrev dR(a b c d e:AV)(L:SH)(Q:R):Prop:=Pc nR 20 Q 0 [] [a,b,c,d,e] L
def wC(u t1 t2 t3 j:AV)(L:SH)(Q:R)(h:dR u t1 t2 t3 j L Q):ac Tryz.prog 88 [u,t1,t2,t3,j] L Q:=
 fv nR Tryz.func88 h
def nS:RF:=nv (bO Tryz.prog Tryz.f162 [] [(0,[2])])
abbrev yu(a b:AV)(L:SH)(Q:R):Prop:=Pc nS 20 Q 0 [] [a,b] L
def wD(j t1:AV)(L:SH)(Q:R)(h:yu j t1 L Q):ac Tryz.prog 162 [j,t1] L Q:=
 fv nS Tryz.func162 h
def gq:RF:=nv (bO Tryz.prog Tryz.f114 [(2411,⟨[1,2,32],[],true,[]⟩),(9,⟨[1,2,3,11,12,13],[],true,[]⟩)] [(4,[5])])
abbrev wE(Q:R)(a b c:AV)(d:SH):Prop:=Pc gq 18 Q 2411 [] [a,b,c] d
abbrev wF(Q:R):Vs->SH->Kn->Prop:=Lp gq 19 Q 9 []
abbrev yv(a:AV)(L:SH)(Q:R):Prop:=Pc gq 20 Q 0 [] [a] L
def wG(j:AV)(L:SH)(Q:R)(h:yv j L Q):ac Tryz.prog 114 [j] L Q:=
 fv gq Tryz.func114 h
def mA:RF:=nv (bO Tryz.prog Tryz.f119 [(9,⟨[1,2,3,7,11,12,13],[],true,[]⟩)] [(0,[3]),(4,[9])])
abbrev wH(a b c:AV)(L:SH)(Q:R):Prop:=Pc mA 20 Q 0 [] [a,b,c] L
def uu(j t1 t2:AV)(L:SH)(Q:R)(h:wH j t1 t2 L Q):ac Tryz.prog 119 [j,t1,t2] L Q:=
 fv mA Tryz.func119 h
def i5:RF:=nv (bO Tryz.prog Tryz.f120 [(9,⟨[1,2,5,9,10,11],[],true,[]⟩)] [(0,[2]),(4,[7])])
abbrev qX(a b:AV)(L:SH)(Q:R):Prop:=Pc i5 20 Q 0 [] [a,b] L
def pt(j t1:AV)(L:SH)(Q:R)(h:qX j t1 L Q):ac Tryz.prog 120 [j,t1] L Q:=
 fv i5 Tryz.func120 h
def mB:RF:=nv (bO Tryz.prog Tryz.f86 [] [])
abbrev wI(a b:AV)(L:SH)(Q:R):Prop:=Pc mB 20 Q 0 [] [a,b] L
def uv(j t1:AV)(L:SH)(Q:R)(h:wI j t1 L Q):ac Tryz.prog 86 [j,t1] L Q:=
 fv mB Tryz.func86 h
def ey:RF:=nv (bO Tryz.prog Tryz.f130 [] [])
abbrev iq(a b:AV)(L:SH)(Q:R):Prop:=Pc ey 20 Q 0 [] [a,b] L
def hC(j t1:AV)(L:SH)(Q:R)(h:iq j t1 L Q):ac Tryz.prog 130 [j,t1] L Q:=
 fv ey Tryz.func130 h
def fo:RF:=nv (bO Tryz.prog Tryz.f166 [(6,⟨[0,1,7,8],[],true,[]⟩)] [])
abbrev jB(a b:AV)(L:SH)(Q:R):Prop:=Pc fo 20 Q 0 [] [a,b] L
def i6(j t1:AV)(L:SH)(Q:R)(h:jB j t1 L Q):ac Tryz.prog 166 [j,t1] L Q:=
 fv fo Tryz.func166 h
def dY:RF:=nv (bO Tryz.prog Tryz.f161 [(6,⟨[0,1,7,8],[],true,[]⟩)] [])
abbrev hD(a b:AV)(L:SH)(Q:R):Prop:=Pc dY 20 Q 0 [] [a,b] L
def gO(j t1:AV)(L:SH)(Q:R)(h:hD j t1 L Q):ac Tryz.prog 161 [j,t1] L Q:=
 fv dY Tryz.func161 h
def dS:RF:=nv (bO Tryz.prog Tryz.f117 [(15,⟨[0,1,5,6],[],true,[]⟩)] [])
abbrev gP(a b:AV)(L:SH)(Q:R):Prop:=Pc dS 20 Q 0 [] [a,b] L
def gB(j t1:AV)(L:SH)(Q:R)(h:gP j t1 L Q):ac Tryz.prog 117 [j,t1] L Q:=
 fv dS Tryz.func117 h
def kY:RF:=nv (bO Tryz.prog Tryz.f118 [] [])
abbrev uw(a b:AV)(L:SH)(Q:R):Prop:=Pc kY 20 Q 0 [] [a,b] L
def sH(j t1:AV)(L:SH)(Q:R)(h:uw j t1 L Q):ac Tryz.prog 118 [j,t1] L Q:=
 fv kY Tryz.func118 h
structure aT where
 op:Int
 a:Int
 b:Int
 c:Int
 n:Int
 site:Int
 deriving Inhabited
def aT.enc(i:aT):List AV:=[.U1 i.op,.U1 i.a,.U1 i.b,.U1 i.c,.U1 i.n,.U1 i.site]
structure eB where
 regs:Int
 ins:List aT
def eB.enc(c:eB):List AV:=[.U1 c.regs,.lst (c.ins.map aT.enc)]
def i7(b:Bool):Int:=if b then 1 else 0
def yw(op a:Int):Int×Bool:=if op=4 then(IntKind.i64.wrap (0-a),true)else if op=5 then(i7 (decide (a=0)),true)else(0,false)
def iQ(op a b:Int):Int×Bool:=
 if op=6 then(IntKind.i64.wrap (a+b),true)else
 if op=7 then(IntKind.i64.wrap (a-b),true)else
 if op=8 then(IntKind.i64.wrap (a*b),true)else
 if op=9 then(if b=0 then 0 else IntKind.i64.wrap (a.tdiv b),true)else
 if op=10 then(if b=0 then 0 else a.tmod b,true)else
 if op=11 then(i7 (decide (a=b)),true)else
 if op=12 then(i7 (decide (a≠b)),true)else
 if op=13 then(i7 (decide (a<b)),true)else
 if op=14 then(i7 (decide (a<=b)),true)else
 if op=15 then(i7 (decide (b<a)),true)else
 if op=16 then(i7 (decide (b<=a)),true)else
 if op=17 then(i7 (decide (a≠0)&&decide (b≠0)),true)else
 if op=18 then(i7 (decide (a≠0)||decide (b≠0)),true)else(0,false)
def Q8{o:Nat}{x:AV}{L:SH}{K:AV->Prop}(h:Ii o x L K):Ii o x L K:=h
def OJ{o:Nat}{x:AV}{L:SH}{K:AV->Prop}(h:Ij o x L K):Ij o x L K:=h
def SQ{x:AV}{L:SH}{K:AV->Prop}(h:wl x L K):wl x L K:=h
def Q9{n:Nat}{x i:AV}{L:SH}{K:AV->Prop}(h:Qf n x i L K):Qf n x i L K:=h
def Ra{n:Nat}{x i:AV}{L:SH}{K:AV->Prop}(h:Qg n x i L K):Qg n x i L K:=h
def OK{n o:Nat}{x i:AV}{L:SH}{K:AV->Prop}(h:Ik n o x i L K):Ik n o x i L K:=h
def SR{us:List W.WR}{i:Nat}{x:AV}{L:SH}{K:AV->Fp->Prop}(h:dl us i x L K):dl us i x L K:=h
def Rb{o:Nat}{x:AV}{us:List W.WR}{i:Nat}{L:SH}{K:AV->Fp->Prop}(h:Qh o x us i L K):Qh o x us i L K:=h
def SS{us:List W.WR}{i n:Nat}{x:AV}{L:SH}{K:AV->Fp->Prop}(h:dr us i n x L K):dr us i n x L K:=h
def ST{us:List W.WR}{i n:Nat}{x j:AV}{L:SH}{K:AV->Fp->Prop}(h:di us i n x j L K):di us i n x j L K:=h
def st{P Q:Prop}(k:Q)(h:Q->P:=by
 intro k
 first
 |(refine Q8 ?_;first|exact NL k|exact NM k|exact J9 k)
 |(refine g9 ?_;first|exact NA k|exact JO k|exact NB k|exact Nz k|exact Ny k|exact Nx k|exact qW k|exact JP k|exact iZ k|exact JQ k|exact NC k|exact ND k|exact NE k|exact NN k|exact NO k|exact NG k|exact NH k)
 |(refine OD ?_;first|exact Ej k|exact Ek k)
 |(refine QX ?_;first|exact CE k|exact CF k|exact Cs k)
 |(refine SQ ?_;first|exact Mv k|exact Q3 k|exact OC k)
 |(refine NJ ?_;first|exact CE k|exact CF k|exact Cs k)
 |(refine Oy ?_;first|exact J1 k|exact J2 k)
 |(refine OJ ?_;first|exact wnfl_q k|exact OF k|exact Ka k)
 |(refine QR ?_;first|exact Mk k|exact Mj k|exact Cx k|exact a_len_n k|exact CB k)
 |(refine OK ?_;first|exact OG k|exact Kb k)
 |(refine Ra ?_;first|exact Q5 k|exact NI k)
 |(refine Q9 ?_;first|exact Q4 k|exact BA k)
 |(refine Mp ?_;first|exact uj k|exact uh k)
 |(refine J8 ?_;first|exact xt k|exact b_row_i k|exact Ht k|exact En k|exact Eo k)
 |(refine Rb ?_;first|exact Q7 k|exact NK k)
 |(refine SR ?_;first|exact Q6 k|exact QY k)
 |(refine SS ?_;first|exact SI k|exact QZ k)
 |(refine ST ?_;first|exact SJ k|exact OE k)
 |(refine NF ?_;first|exact CE k|exact CF k|exact Cs k)
 |(refine JX ?_;first|exact J3 k|exact J4 k|exact JI k)
 |(refine h_load1 ?_;first|exact Eh k|exact b_load_i k|exact Ei k)
 |(refine QQ ?_;first|exact sE k|exact Mr k|exact b_idx_i k|exact dQ k|exact Ms k)
 |(refine h_row ?_;first|exact xt k|exact b_row_i k|exact Ht k|exact En k|exact Eo k)
 |(refine QT ?_;exact QV k)
 |(refine Ow ?_;exact CG k)
 |exact SG (qV k)
 |(refine Ox ?_;exact qV k)
 |(refine J0 ?_;first|exact Hf k|exact a_nil_q k|exact a_nil_f k)
 |(refine SB ?_;first|exact QM k|exact QN k)
 |(refine Oz ?_;first|exact Mt k|exact b_frz_s k)
 |(refine Mq ?_;first|exact El k|exact vN k|exact Em k)
 |(refine OA ?_;first|exact b_idxP_p k|exact J5 k)
 |(refine h_bin ?_;first|exact NA k|exact JO k|exact NB k|exact Nz k|exact Ny k|exact Nx k|exact qW k|exact JP k|exact iZ k|exact JQ k|exact NC k|exact ND k|exact NE k|exact NN k|exact NO k|exact NG k|exact NH k)
 |(refine h_cond ?_;first|exact Ej k|exact Ek k)
 |exact OH k
 |exact yn k
 |exact nL (F7 k)
 |exact SF (Hs k)
 |exact Q0 k
 |exact SA k
 |exact Ou k
 |exact Mu k
 |(first|exact wo1_ok k|exact wo2_ok k|exact wo3_ok k|exact wo4_ok k|exact wo5_ok k|exact wo6_ok k|exact wo7_ok k|exact wo8_ok k|exact wo9_ok k|exact wo10_ok k|exact wo11_ok k|exact wo12_ok k|exact wo13_ok k|exact wo14_ok k|exact wo15_ok k|exact wo16_ok k)
 |exact Oq k
 |exact a_convS k
 |exact b_fld k
 |exact Ot k
 |exact F7 k
 |exact Hs k
 |((with_reducible refine SN ?_);exact Hu k)
 |((with_reducible refine h_lp ?_);exact NS k)
 |((with_reducible refine SP ?_);exact NT k)
 |((with_reducible refine SO ?_);exact NR k)
 |fail):P:=h k
def sb{P:Prop}{Q:Nat->Prop}{N:Nat->Prop}(k:∀b,N b->Q b)(h:(∀b,N b->Q b)->P:=by
 intro k
 first
 |(refine QU ?_;exact QW k)
 |(refine JZ ?_;exact J6 k)
 |(refine JY ?_;exact J7 k)
 |(exact Hg k)
 |fail):P:=h k
def s2{P D B G E:Prop}(u:G->D)(j:E->B)(h:(G->D)->(E->B)->P:=by
 intro u j
 first
 |(refine OD ?_;exact JN u j)
 |(refine QX ?_;first|exact Ct u j|exact Cu u j)
 |(refine NJ ?_;first|exact Ct u j|exact Cu u j)
 |(refine NF ?_;first|exact Ct u j|exact Cu u j)
 |(refine JX ?_;first|exact JK u j|exact JL u j)
 |(refine h_cond ?_;exact JN u j)
 |fail):P:=h u j
def mm{α:Type}{a:α}{l:List α}(h:a∈l:=by first|exact .head _|exact .tail _ (.head _)|exact .tail _ (.tail _ (.head _))|exact .tail _ (.tail _ (.tail _ (.head _)))|exact .tail _ (.tail _ (.tail _ (.tail _ (.head _))))|exact .tail _ (.tail _ (.tail _ (.tail _ (.tail _ (.head _)))))|exact .tail _ (.tail _ (.tail _ (.tail _ (.tail _ (.tail _ (.head _))))))|exact .tail _ (.tail _ (.tail _ (.tail _ (.tail _ (.tail _ (.tail _ (.head _)))))))|exact .tail _ (.tail _ (.tail _ (.tail _ (.tail _ (.tail _ (.tail _ (.tail _ (.head _))))))))|exact .tail _ (.tail _ (.tail _ (.tail _ (.tail _ (.tail _ (.tail _ (.tail _ (.tail _ (.head _)))))))))|exact .tail _ (.tail _ (.tail _ (.tail _ (.tail _ (.tail _ (.tail _ (.tail _ (.tail _ (.tail _ (.head _))))))))))|exact .tail _ (.tail _ (.tail _ (.tail _ (.tail _ (.tail _ (.tail _ (.tail _ (.tail _ (.tail _ (.tail _ (.head _)))))))))))|exact .tail _ (.tail _ (.tail _ (.tail _ (.tail _ (.tail _ (.tail _ (.tail _ (.tail _ (.tail _ (.tail _ (.tail _ (.head _))))))))))))):a∈l:=h
def rp{P:Prop}(h:P:=by repeat constructor):P:=h
inductive ax where
 |mk (op n:Int) (name:bv) (l:List ax)
def ax.op:ax->Int|.mk a _ _ _=>a
def ax.n:ax->Int|.mk _ a _ _=>a
def ax.name:ax->bv|.mk _ _ a _=>a
def ax.l:ax->List ax|.mk _ _ _ a=>a
mutual
def ax.enc:ax->List AV
 |.mk op n name l=>[.int .i64 op,.int .i64 n,.str name,.lst (ax.encs l)]
def ax.encs:List ax->List (List AV)
 |[]=>[]
 |x::l=>x.enc::ax.encs l
end
def ax.encs_eq:∀l:List ax,ax.encs l=l.map ax.enc
 |[]=>rfl
 |x::l=>by rw[ax.encs,ax.encs_eq l];rfl
def ax.row(x:ax):List AV:=[.U1 x.op,.U1 x.n,.str x.name,.lst (x.l.map ax.enc)]
def ax.enc_row(x:ax):x.enc=x.row:=by cases x;rw[ax.enc,ax.encs_eq];rfl
def yx{l:List ax}{i:Nat}(h:i<l.length):(l.map ax.enc)[i]? =some [.U1 l[i].op,.U1 l[i].n,.str l[i].name,.lst (l[i].l.map ax.enc)]:=by rw[am h,ax.enc_row];rfl
def z0(op:Int):Nat:=if op=0 then 2^50 else 0
def z3(op:Int):Nat:=if op=3 then 2^50 else 0
def yz(op:Int)(name:bv)(n:Nat):Nat:=(if n=0 then(if op=0\/op=1\/op=2 then 0 else 2^50)else 0)+(if name=[113]then 0 else z3 op)
mutual
def ax.wt:ax->Nat
 |.mk op _ name l=>1+name.length+yz op name l.length+ax.wts l
def ax.wts:List ax->Nat
 |[]=>0
 |x::l=>x.wt+z0 x.op+ax.wts l
end
def ax.wt_eq(x:ax):x.wt=1+x.name.length+yz x.op x.name x.l.length+ax.wts x.l:=by cases x;rfl
def ax.wts_get0:∀(l:List ax) (i:Nat) (h:i<l.length),l[i].wt+z0 l[i].op<=ax.wts l
 |x::l,0,_=>by simp[ax.wts]
 |x::l,i+1,h=>by have:=ax.wts_get0 l i (by simpa using h);simp only[List.getElem_cons_succ,ax.wts];omega
def ax.wts_get(l:List ax)(i:Nat)(h:i<l.length):l[i].wt<=ax.wts l:=by have:=ax.wts_get0 l i h;omega
def ax.wts_len:∀l:List ax,l.length<=ax.wts l
 |[]=>Te _
 |x::l=>by have:=ax.wts_len l;have:=x.wt_eq;simp only[TC,ax.wts];omega
def ax.kid(x:ax){i:Nat}(h:i<x.l.length):x.l[i].wt<x.wt:=by have:=ax.wts_get x.l i h;have:=x.wt_eq;omega
def ax.len(x:ax):x.l.length<x.wt:=by have:=ax.wts_len x.l;have:=x.wt_eq;omega
inductive aa where
 |mk (op line:Int) (name arg:bv) (index:List ax) (expr:ax) (body els:List aa)
def aa.op:aa->Int|.mk a _ _ _ _ _ _ _=>a
def aa.line:aa->Int|.mk _ a _ _ _ _ _ _=>a
def aa.name:aa->bv|.mk _ _ a _ _ _ _ _=>a
def aa.arg:aa->bv|.mk _ _ _ a _ _ _ _=>a
def aa.index:aa->List ax|.mk _ _ _ _ a _ _ _=>a
def aa.expr:aa->ax|.mk _ _ _ _ _ a _ _=>a
def aa.body:aa->List aa|.mk _ _ _ _ _ _ a _=>a
def aa.els:aa->List aa|.mk _ _ _ _ _ _ _ a=>a
mutual
def aa.enc:aa->List AV
 |.mk op line name arg index e body els=>[.int .i64 op,.int .i64 line,.str name,.str arg,.lst (index.map ax.enc),.int .i64 e.op,.int .i64 e.n,.str e.name,.lst (e.l.map ax.enc),.lst (aa.encs body),.lst (aa.encs els)]
def aa.encs:List aa->List (List AV)
 |[]=>[]
 |x::l=>x.enc::aa.encs l
end
def aa.encs_eq:∀l:List aa,aa.encs l=l.map aa.enc
 |[]=>rfl
 |x::l=>by rw[aa.encs,aa.encs_eq l];rfl
def aa.row(x:aa):List AV:=[.U1 x.op,.U1 x.line,.str x.name,.str x.arg,.lst (x.index.map ax.enc),.U1 x.expr.op,.U1 x.expr.n,.str x.expr.name,.lst (x.expr.l.map ax.enc),.lst (x.body.map aa.enc),.lst (x.els.map aa.enc)]
def aa.enc_row(x:aa):x.enc=x.row:=by cases x;rw[aa.enc,aa.encs_eq,aa.encs_eq];rfl
def BD{l:List aa}{i:Nat}(h:i<l.length):(l.map aa.enc)[i]? =some [.U1 l[i].op,.U1 l[i].line,.str l[i].name,.str l[i].arg,.lst (l[i].index.map ax.enc),.U1 l[i].expr.op,.U1 l[i].expr.n,.str l[i].expr.name,.lst (l[i].expr.l.map ax.enc),.lst (l[i].body.map aa.enc),.lst (l[i].els.map aa.enc)]:=by rw[am h,aa.enc_row];rfl
def zv(op eop:Int):Nat:=if op=1\/op=2\/op=3\/op=14 then z0 eop else 0
def zi(name:bv)(n:Nat):Nat:=if n=0\/name=[113]then 0 else 2^50
mutual
def aa.wt:aa->Nat
 |.mk op _ name arg index e body els=>1+name.length+arg.length+ax.wts index+e.wt+zv op e.op+zi name index.length+aa.wts body+aa.wts els
def aa.wts:List aa->Nat
 |[]=>0
 |x::l=>x.wt+aa.wts l
end
def aa.wt_eq(x:aa):x.wt=1+x.name.length+x.arg.length+ax.wts x.index+x.expr.wt+zv x.op x.expr.op+zi x.name x.index.length+aa.wts x.body+aa.wts x.els:=by cases x;rfl
def aa.wts_get:∀(l:List aa) (i:Nat) (h:i<l.length),l[i].wt<=aa.wts l
 |x::l,0,_=>by simp[aa.wts]
 |x::l,i+1,h=>by have:=aa.wts_get l i (by simpa using h);simp only[List.getElem_cons_succ,aa.wts];omega
def aa.wts_len:∀l:List aa,l.length<=aa.wts l
 |[]=>Te _
 |x::l=>by have:=aa.wts_len l;have:=x.wt_eq;simp only[TC,aa.wts];omega
structure aN where
 kind:Int
 line:Int
 name:bv
 size:Int
 init:Int
 on:bv
 deriving Inhabited
def aN.enc(d:aN):List AV:=[.U1 d.kind,.U1 d.line,.str d.name,.U1 d.size,.U1 d.init,.str d.on]
structure ai where
 name:bv
 line:Int
 locals:List bv
 body:List aa
def ai.enc(t:ai):List AV:=[.str t.name,.U1 t.line,.lst (t.locals.map au),.lst (t.body.map aa.enc)]
structure bU where
 decls:List aN
 threads:List ai
def bU.enc(p:bU):List AV:=[.lst (p.decls.map aN.enc),.lst (p.threads.map ai.enc)]
def aN.wt(d:aN):Nat:=1+d.name.length+d.on.length
def ai.wt(t:ai):Nat:=1+t.name.length+t.locals.length+(t.locals.map List.length).sum+aa.wts t.body
def bU.wt(p:bU):Nat:=(p.decls.map aN.wt).sum+(p.threads.map ai.wt).sum
def xu{α:Type}{f:α->Nat}:∀(l:List α) (i:Nat) (h:i<l.length),f l[i]<=(l.map f).sum
 |x::l,0,_=>by simp
 |x::l,i+1,h=>by have:=xu (f:=f) l i (by simpa using h);simp only[List.getElem_cons_succ,Tj,Ul];omega
def CH{α:Type}{f:α->Nat}(j:∀x,1<=f x):∀l:List α,l.length<=(l.map f).sum
 |[]=>Te _
 |x::l=>by have:=CH j l;have:=j x;simp only[TC,Tj,Ul];omega
def yA{α:Type}{p:α->Prop}{l:List α}{i:Nat}(h:i<l.length)(u:∀x∈l.take i,p x)(h2:p l[i]):∀x∈l.take (i+1),p x:=by
 rw[Th h];intro x j;rcases Tn.1 j with j|j
 .exact u x j
 .simp at j;subst j;exact h2
def Rc(n:Nat)(G:Nat->Prop)(S:Nat->List AV×SH){B:List AV->SH->W.Kn->Prop}{vs:List AV}{L:SH}(O:n<2^62)(h0:G 0)(N:vs=(S 0).1)(Z:L=(S 0).2)
  (h1:∀i,i<n->decide ((i:Int)<(n:Int))=true->IntKind.i64.wrap ((i:Int)+1)=((i+1:Nat):Int)->G i->∀u:W.Kn,(G (i+1)->∀j D,az j D (S (i+1)).1 (S (i+1)).2->u j D)->B (S i).1 (S i).2 u)
  (h2:∀i,i=n->decide ((i:Int)<(n:Int))=false->G i->∀u:W.Kn,B (S i).1 (S i).2 u):W.loop B vs L:=by
 refine iY n S G h0 N Z λi hi E=>?_
 rcases Tf i n with h|h
 .exact h1 i h (aS h) (aw h O) E _ λY j D M=>⟨i+1,UW,UW,Y,M⟩
 .exact h2 i UW (aX h) E _
def dw(n:Nat)(G:Nat->Prop)(S:Nat->List AV){B:List AV->SH->W.Kn->Prop}{vs:List AV}{L:SH}(E:n<2^62)(h0:G 0)(u:vs=S 0)
  (Z:∀i,i<n->decide ((i:Int)<(n:Int))=true->IntKind.i64.wrap ((i:Int)+1)=((i+1:Nat):Int)->G i->∀j:W.Kn,(G (i+1)->j (S (i+1)) L)->B (S i) L j)
  (h2:∀i,i=n->decide ((i:Int)<(n:Int))=false->G i->∀j:W.Kn,B (S i) L j):W.loop B vs L:=
 Rc n G (λi=>(S i,L)) E h0 u rfl (λi h O M Y j D=>Z i h O M Y j λN=>D N _ _ (.refl _ _)) h2
def dt{α:Type}(l:List α)(p:α->Bool)(S:Nat->List AV){B:List AV->SH->W.Kn->Prop}{vs:List AV}{L:SH}(M:l.length<2^62)(E:vs=S 0)
  (O:∀i (h:i<l.length),decide ((i:Int)<(l.length:Int))=true->IntKind.i64.wrap ((i:Int)+1)=((i+1:Nat):Int)->(∀x∈l.take i,p x=false)->∀j:W.Kn,(p l[i]=false->j (S (i+1)) L)->B (S i) L j)
  (h2:∀i,i=l.length->decide ((i:Int)<(l.length:Int))=false->(∀x∈l,p x=false)->∀j:W.Kn,B (S i) L j):W.loop B vs L:=
 dw l.length (λi=>∀x∈l.take i,p x=false) S M UZ E (λi h D N u j G=>O i h D N u j λhp=>G (yA h u hp))
  λi e D u j=>h2 i e D (by rw[TH UW]at u;exact u) j
def Kd{α:Type}{p:α->Bool}{l:List α}(h:∀x∈l,p x=false):l.any p=false:=by simpa using h
def Hw{α:Type}{p:α->Bool}{l:List α}{i:Nat}(h:i<l.length)(hp:p l[i]=true):l.any p=true:=UI.2 ⟨_,Tk h,hp⟩
def F8{α:Type}{p:α->Bool}{l:List α}{i:Nat}(h:i<l.length)(hp:p l[i]=false):l.all p=false:=List.all_eq_false.2 ⟨_,Tk h,by simp[hp]⟩
def Hy{s:bv}{k:IntKind}{i:Nat}{K:AV->Prop}(h:K (.int .u8 (s.getD i 0).toNat))(j:i<s.length:=by assumption):W.ixS (.str s) (.int k (i:Int)) K:=⟨s,k,i,s[i],rfl,rfl,UW,by simp[j],by simpa[List.getD,j]using h⟩
def jC{α:Type}(p:α->Bool):List α->Nat->Int
 |[],_=>-1
 |x::l,i=>if p x then(i:Int)else jC p l (i+1)
def fg{α:Type}{p:α->Bool}:∀{l:List α} {i:Nat},(∀x∈l,p x=false)->jC p l i=-1
 |[],_,_=>rfl
 |x::l,i,h=>by rw[jC,h x UZ];exact fg λy j=>h y (by simp[j])
def Hz{α:Type}{p:α->Bool}:∀{l:List α} {j k:Nat} (u:k<l.length),(∀x∈l.take k,p x=false)->p l[k]=true->jC p l j=(j+k:Nat)
 |x::l,j,0,u,h,hp=>by simp at hp;simp[jC,hp]
 | x::l,j,k+1,u,h,hp=>by rw[jC,h x UZ];have:=Hz (p:=p) (l:=l) (j:=j+1) (k:=k) (by simpa using u) (λy B=>h y (by simp[B])) (by simpa using hp);simp only[Tz,if_false,this];congr 1;omega
def kZ{α:Type}{p:α->Bool}{l:List α}{k:Nat}(j:k<l.length)(h:∀x∈l.take k,p x=false)(hp:p l[k]=true):jC p l 0=k:=by rw[Hz j h hp];simp
structure aF where
 name:bv
 index:Int
 size:Int
 vol:Bool
 init:Int
 deriving Inhabited
def aF.enc(c:aF):List AV:=[.str c.name,.U1 c.index,.U1 c.size,.bool c.vol,.U1 c.init]
structure bn where
 name:bv
 rw:Bool
 deriving Inhabited
def bn.enc(c:bn):List AV:=[.str c.name,.bool c.rw]
structure bP where
 name:bv
 mutex:Int
 deriving Inhabited
def bP.enc(c:bP):List AV:=[.str c.name,.U1 c.mutex]
structure bQ where
 thread:Int
 stmt:Int
 line:Int
 deriving Inhabited
def bQ.enc(c:bQ):List AV:=[.U1 c.thread,.U1 c.stmt,.U1 c.line]
structure aG where
 cells:List aF
 locks:List bn
 conds:List bP
 futures:List bv
 threads:List bv
 sites:List bQ
def aG.enc(w:aG):List AV:=[.lst (w.cells.map aF.enc),.lst (w.locks.map bn.enc),.lst (w.conds.map bP.enc),.lst (w.futures.map au),.lst (w.threads.map au),.lst (w.sites.map bQ.enc)]
structure cK where
 thread:Int
 wake:Int
def cK.enc(c:cK):List AV:=[.U1 c.thread,.U1 c.wake]
structure aY where
 w:aG
 ts:List eB
def aY.enc(c:aY):List AV:=[.lst (c.w.cells.map aF.enc),.lst (c.w.locks.map bn.enc),.lst (c.w.conds.map bP.enc),.lst (c.w.futures.map au),.lst (c.w.threads.map au),.lst (c.w.sites.map bQ.enc),.lst (c.ts.map eB.enc)]
def gr(l:List bn)(s:bv):Int:=jC (λx=>decide (x.name=s)) l 0
def sI(l:List aF)(s:bv):Int:=jC (λx=>decide (x.name=s)) l 0
def aO(i:aT):List Int:=
 if i.op=1\/i.op=6\/i.op=10\/i.op=27 then [i.a]else
 if i.op=2\/i.op=3 then [i.a,i.b]else
 if i.op=4 then [i.a,i.b,i.c]else
 if i.op=7 then [i.a,i.c]else
 if i.op=8\/i.op=26 then [i.b]else
 if i.op=9 then [i.b,i.c]else []
def vP(w:aG)(i:Int):Bool:=inB i w.cells.length&&decide ((w.cells.getD i.toNat default).size=0)
def wJ(w:aG)(i n:Int):Bool:=inB i w.cells.length&&decide ((w.cells.getD i.toNat default).index=0)&&decide ((w.cells.getD i.toNat default).size≠0)&&decide ((w.cells.getD i.toNat default).size=n)
def jD(w:aG)(i:Int)(rw:Bool):Bool:=inB i w.locks.length&&((w.locks.getD i.toNat ⟨[],false⟩).rw==rw)
def ku(w:aG)(i:aT):Bool:=
 if i.op=6 then vP w i.b else if i.op=8 then vP w i.a else if i.op=7 then wJ w i.b i.n else if i.op=9 then wJ w i.a i.n else
 if i.op=11\/i.op=12 then jD w i.a false else if i.op=13\/i.op=14\/i.op=15\/i.op=16 then jD w i.a true else
 if i.op=21\/i.op=22\/i.op=23 then inB i.a w.conds.length else if i.op=24\/i.op=25 then inB i.a w.threads.length else
 if i.op=26 then inB i.a w.futures.length else if i.op=27 then inB i.b w.futures.length else
 if i.op=3 then decide (i.n=4\/i.n=5)else if i.op=4 then decide (6<=i.n/\i.n<=18)else true
def aT.sil(i:aT):Prop:=1<=i.op/\i.op<=5
inductive tX (ins:List aT):Nat->Nat->Prop where
 |ev (k:Nat) (i:aT):ins[k]? =some i->¬i.sil->tX ins k 0
 |go (k m:Nat) (i:aT):ins[k]? =some i->i.sil->i.op≠5->tX ins (k+1) m->tX ins k (m+1)
 |jump (k m j:Nat) (i:aT):ins[k]? =some i->i.op=5->i.a=(j:Nat)->tX ins j m->tX ins k (m+1)
def gt(ins:List aT)(k:Nat):Prop:=∃m,tX ins k m
def tX.uniq{O:List aT}{k m1:Nat}(h1:tX O k m1):∀{N:Nat},tX O k N->m1=N:=by
 induction h1 with
 |ev k i E M=>
  intro N S;cases S with
  |ev=>rfl
  |go _ _ G u B=>rw[E]at u;cases u;exact absurd B M
  |jump _ _ j G u B=>rw[E]at u;cases u;exact absurd ⟨UW,UW⟩ M
 |go k m i E M Z hm Y=>
  intro N S;cases S with
  |ev _ G u B=>rw[E]at u;cases u;exact absurd M B
  |go _ _ G u B _ D=>rw[Y D]
  |jump _ _ j G u B=>rw[E]at u;cases u;exact absurd B Z
 |jump k m j i E M ha hm Y=>
  intro N S;cases S with
  |ev _ G u B=>rw[E]at u;cases u;exact absurd ⟨UW,UW⟩ B
  |go _ _ G u B Z D=>rw[E]at u;cases u;exact absurd M Z
  |jump _ _ j' G u B ha' D=>
   rw[E]at u;cases u;have:j=j':=by omega
   subst this;rw[Y D]
def tX.lt{u:List aT}{k m:Nat}(h:tX u k m):k<u.length:=by
 cases h with
 |ev _ i B _=>exact(T4.1 B).1
 |go _ _ i B=>exact(T4.1 B).1
 |jump _ _ j i B=>exact(T4.1 B).1
def tX.path{u:List aT}{k m:Nat}(h:tX u k m):∃l:List Nat,l.length=m+1/\(∀j∈l,j<u.length/\∃q,q<=m/\tX u j q)/\l.Nodup:=by
 induction h with
 |ev k i N M=>exact⟨[k],rfl,by simp only[Tl,forall_eq];exact⟨(tX.ev k i N M).lt,0,Te _,.ev k i N M⟩,UZ⟩
 |go k m i N M h5 Z Y=>
  obtain⟨l,h1,O,h3⟩:=Y;have D:=tX.go k m i N M h5 Z;refine⟨k::l,by simp[h1],λj E=>?_,T2.2 ⟨λB=>?_,h3⟩⟩
  .rcases To.1 E with rfl|E
   .exact⟨D.lt,_,Te _,D⟩
   .obtain⟨S,q,g2,G⟩:=O j E;exact⟨S,q,UW,G⟩
  .obtain⟨S,q,g2,G⟩:=O k B;have:=D.uniq G;omega
 |jump k m j i N M ha Z Y=>
  obtain⟨l,h1,O,h3⟩:=Y;have D:=tX.jump k m j i N M ha Z;refine⟨k::l,by simp[h1],λj E=>?_,T2.2 ⟨λB=>?_,h3⟩⟩
  .rcases To.1 E with rfl|E
   .exact⟨D.lt,_,Te _,D⟩
   .obtain⟨S,q,g2,G⟩:=O j E;exact⟨S,q,UW,G⟩
  .obtain⟨S,q,g2,G⟩:=O k B;have:=D.uniq G;omega
def BE{α:Type}[BEq α][LawfulBEq α]:∀{l U:List α},l.Nodup->(∀x∈l,x∈U)->l.length<=U.length
 |[],U,_,_=>by simp
 | x::l,U,hn,hs=>by
  have u:x∈U:=hs x UZ;have B:=T2.1 hn;have:=BE (l:=l) (U:=U.erase x) B.2 λy j=>(List.mem_erase_of_ne (by rintro rfl;exact B.1 j)).2 (hs y (by simp[j]))
  rw[List.length_erase_of_mem u]at this;have:=List.length_pos_of_mem u;simp only[TC];omega
def Et:∀{n:Nat} {l:List Nat},l.Nodup->(∀j∈l,j<n)->l.length<=n:=by
 intro n l u h;have:=BE u (U:=List.range n) λj B=>Uk.2 (h j B)
 simpa using this
def tX.bound{u:List aT}{k m:Nat}(h:tX u k m):m<u.length:=by obtain⟨l,G,E,D⟩:=h.path;have:=Et D (λj B=>(E j B).1);omega
def cW(t:ThrD)(c:Int):Bool:=decide (t.status=3)&&decide (t.cond=c)
def fitsS(w:aG)(s:SyncD):Bool:=decide (s.locks.length=w.locks.length)&&decide (s.done.length=w.futures.length)&&decide (s.threads.length=w.threads.length)&&w.conds.all λc=>inB c.mutex w.locks.length
def rwAt(w:aG)(o:Int):Bool:=(w.locks.getD o.toNat default).rw
def allowedS(w:aG)(k o:Int):Bool:=
 if k=1\/k=2\/k=5\/k=12\/k=13\/k=14\/k=15 then decide (o=-1)
 else if k=3\/k=4 then inB o w.cells.length
 else if k=6\/k=7 then inB o w.locks.length&&!rwAt w o
 else if k=8\/k=9\/k=10\/k=11 then inB o w.locks.length&&rwAt w o
 else if k=16\/k=17\/k=18\/k=19 then inB o w.conds.length
 else if k=20\/k=21 then inB o w.threads.length
 else if k=22\/k=23 then inB o w.futures.length
 else false
def aH(s:SyncD)(o:Int):LockD:=s.locks.getD o.toNat default
def aR(s:SyncD)(o:Int):ThrD:=s.threads.getD o.toNat default
def nT(s:SyncD)(o:Int):Bool:=s.done.getD o.toNat default
def iu(w:aG)(o:Int):Int:=(w.conds.getD o.toNat default).mutex
def cL(w:aG)(s:SyncD)(t k o:Int):Bool:=
 if k=6 then decide ((aH s o).owner=-1)
 else if k=10 then decide ((aH s o).owner=-1)&&decide ((aH s o).readers.length=0)
 else if k=8 then decide ((aH s o).owner=-1)&&!(aH s o).readers.contains t
 else if k=7\/k=11 then decide ((aH s o).owner=t)
 else if k=9 then(aH s o).readers.contains t
 else if k=12 then decide (s.tx=-1)
 else if k=13 then decide (s.tx=t)
 else if k=14 then !(aR s t).atomic
 else if k=15 then(aR s t).atomic
 else if k=16\/k=18\/k=19 then decide ((aH s (iu w o)).owner=t)
 else if k=20 then decide (o≠t)&&decide ((aR s o).status=0)
 else if k=21 then decide (o≠t)&&decide ((aR s o).status=5)
 else if k=22 then !nT s o
 else if k=23 then nT s o
 else true
def aJ(w:aG)(s:SyncD)(t k o:Int):Bool:=
  fitsS w s&&inB t w.threads.length&&allowedS w k o &&
    (if k=1 then decide ((aR s t).status=1)
     else if k=17 then decide ((aR s t).status=4)&&decide ((aR s t).cond=o)&&decide ((aH s (iu w o)).owner=-1)
     else decide ((aR s t).status=2)&&cL w s t k o)
structure wK(w:aG)(s:SyncD):Prop where
 locks:s.locks.length=w.locks.length
 done:s.done.length=w.futures.length
 threads:s.threads.length=w.threads.length
 conds:∀c∈w.conds,inB c.mutex w.locks.length=true
def fW{w:aG}{s:SyncD}:fitsS w s=true↔wK w s:=by simp only[fitsS,Ty,decide_eq_true_eq,Tv];exact⟨λ⟨⟨⟨D,B⟩,u⟩,j⟩=>⟨D,B,u,j⟩,λ⟨D,B,u,j⟩=>⟨⟨⟨D,B⟩,u⟩,j⟩⟩
def BF{w:aG}{s:SyncD}(h:wK w s){o:Int}(u:inB o w.conds.length=true):inB (iu w o) s.locks.length=true:=by
 obtain⟨D,B⟩:=av.1 u;have j:o.toNat<w.conds.length:=by omega
 rw[h.locks];have:w.conds.getD o.toNat default=w.conds[o.toNat]:=by simp[j]
 unfold iu;rw[this];exact h.conds _ (Tk j)
def Eu{s:SyncD}(j:∀l∈s.locks,l.readers.length<2^40)(o:Int):(aH s o).readers.length<2^62:=by
 unfold aH;rcases Tf o.toNat s.locks.length with h|h
 .have:=j _ (Tk h);simp[h];omega
 .simp[List.getD,Tg h];decide
def kinds(k:Int):(k<1\/23<k)\/k=1\/k=2\/k=3\/k=4\/k=5\/k=6\/k=7\/k=8\/k=9\/k=10\/k=11\/k=12\/k=13\/k=14\/k=15\/k=16\/k=17\/k=18\/k=19\/k=20\/k=21\/k=22\/k=23:=by omega
def Mx{k c:Int}(j:k<1\/23<k)(u:1<=c)(h2:c<=23):decide (k=c)=false:=by simp;omega
def eW{w:aG}{k o:Int}(j:k<1\/23<k):allowedS w k o=false:=by
 unfold allowedS
 repeat (rw[if_neg UW])
end Go.Proofs.YtbofdbhnbodbiaaGreatDoor.Am
