/- A part of the proof; the statement is proved in the last part. -/
import Derived.Test.YtbofdbhnbodbiaaGreatDoorQvf
import Derived.Shelf.Small.Wraps
import Derived.Shelf.Sort.Plain
import Derived.Shelf.Slices.Turned
import Derived.Ground.Names2Prog
import Derived.Shelf.Slices.Clone
import Derived.Shelf.Slices.CompactI
import Derived.Shelf.Slices.In.SortNone
import Derived.Ground.SlgnProg
import Derived.Shelf.SlicesE.Clone
import Derived.Test.YtbofdbhnbodbiaaGreatDoorProg
import Derived.WalkSpells
import Derived.Deep.DeepMust
import Derived.Sort.OwnSortedInts
set_option linter.all false
set_option maxRecDepth 100000
set_option maxHeartbeats 20000000
namespace Go.Proofs.YtbofdbhnbodbiaaGreatDoor.Am
section
section
variable {KL:AV->SH->Prop} {L L':SH}
theorem ga{α:Type}{f:α->List AV}{l:List α}{b i n by_:Nat}{rows:List (List AV)}{L L':SH}{KL:AV->SH->Prop}(D:eJ b ⟨n,rows⟩ L L')(E:∀x,(f x).length=n)(u:rows.length=i)(h2:2*(i+l.length)*by_<=2^48)(M:2*(i+l.length)<=2^62)(h4:∀x,(f x).all AV.one=true)
  (h:∀j,j∉L.names->KL (.sl j 0 (i+l.length)) ((j,⟨n,rows++l.map f⟩)::L')):W.append n by_ (.sl b 0 i) (.lst (l.map f)) L KL:=by
 have B:((l.map f).all λr=>r.all AV.one)=true:=by rw[SM];intro r u;obtain⟨x,_,rfl⟩:=Tl.1 u;exact h4 x
 subst u;exact jF (y:=⟨n,rows⟩) (l:=rows) D.mem' rfl Ud Ud (oU E) (by simpa using h2) (by simpa using M) B D (λj G=>by simpa using h j G)
end
theorem nD{P:Program}{KL:AV->SH->Prop}{g:FuncId}{args:List AV}{L:SH}{R:AV->SH->Prop}(h:ac P g args [] R)(B:∀v K,R v K->KL v (L++K)):W.callM P g args L KL:=
 ⟨.perm (h.frame (K:=[]) (R:=L) (.refl _) λu K j=>⟨L++K,SG,B u K j⟩)⟩
theorem xV{α β:Type}{f:α->β}{l m:List α}{n:Nat}(h:l.take n=m):((l.map f).drop 0).take n=m.map f:=by rw[List.drop_zero,<-List.map_take,h]
end
end Go.Proofs.YtbofdbhnbodbiaaGreatDoor.Am
section
namespace Go.Proofs
open Go.Shelf
def Tryz.lays189_ren:Go.Shelf.Ren:=⟨fun|189=>115|125=>160|257=>159|128=>187|129=>188|294=>178|295=>179|296=>180|297=>181|298=>182|299=>183|216=>184|300=>185|301=>186|328=>194|329=>195|330=>196|331=>197|332=>198|215=>199|343=>201|n=>n,fun|28=>55|3=>3|46=>222|0=>0|51=>244|53=>246|4=>4|183=>237|182=>236|131=>241|5=>5|9=>9|218=>252|222=>256|228=>258|229=>249|n=>n,fun|n=>n⟩
def Tryz.lays189:Go.Proofs.Lays.n189 Tryz.prog Tryz.lays189_ren:={
 mixed:=by kernel_rfl
 f125:=Tryz.func160.trans (congrArg some (by kernel_rfl))
 f128:=Tryz.func187.trans (congrArg some (by kernel_rfl))
 f129:=Tryz.func188.trans (congrArg some (by kernel_rfl))
 f189:=Tryz.func115.trans (congrArg some (by kernel_rfl))
 f215:=Tryz.func199.trans (congrArg some (by kernel_rfl))
 f216:=Tryz.func184.trans (congrArg some (by kernel_rfl))
 f257:=Tryz.func159.trans (congrArg some (by kernel_rfl))
 f294:=Tryz.func178.trans (congrArg some (by kernel_rfl))
 f295:=Tryz.func179.trans (congrArg some (by kernel_rfl))
 f296:=Tryz.func180.trans (congrArg some (by kernel_rfl))
 f297:=Tryz.func181.trans (congrArg some (by kernel_rfl))
 f298:=Tryz.func182.trans (congrArg some (by kernel_rfl))
 f299:=Tryz.func183.trans (congrArg some (by kernel_rfl))
 f300:=Tryz.func185.trans (congrArg some (by kernel_rfl))
 f301:=Tryz.func186.trans (congrArg some (by kernel_rfl))
 f328:=Tryz.func194.trans (congrArg some (by kernel_rfl))
 f329:=Tryz.func195.trans (congrArg some (by kernel_rfl))
 f330:=Tryz.func196.trans (congrArg some (by kernel_rfl))
 f331:=Tryz.func197.trans (congrArg some (by kernel_rfl))
 f332:=Tryz.func198.trans (congrArg some (by kernel_rfl))
 f343:=Tryz.func201.trans (congrArg some (by kernel_rfl))
 t0:=Tryz.underlying0
 a0:=Tryz.isAgg0
 z0:=Tryz.sizeOf0
 v0:=Tryz.zeroValue0
 t3:=Tryz.underlying3
 a3:=Tryz.isAgg3
 z3:=Tryz.sizeOf3
 v3:=Tryz.zeroValue3
 t4:=Tryz.underlying4
 a4:=Tryz.isAgg4
 z4:=Tryz.sizeOf4
 v4:=Tryz.zeroValue4
 t5:=Tryz.underlying5
 a5:=Tryz.isAgg5
 z5:=Tryz.sizeOf5
 v5:=Tryz.zeroValue5
 t9:=Tryz.underlying9
 a9:=Tryz.isAgg9
 z9:=Tryz.sizeOf9
 v9:=Tryz.zeroValue9
 t28:=Tryz.underlying55
 a28:=Tryz.isAgg55
 z28:=Tryz.sizeOf55
 v28:=Tryz.zeroValue55
 t46:=Tryz.underlying222
 a46:=Tryz.isAgg222
 z46:=Tryz.sizeOf222
 v46:=Tryz.zeroValue222
 t51:=Tryz.underlying244
 a51:=Tryz.isAgg244
 z51:=Tryz.sizeOf244
 v51:=Tryz.zeroValue244
 t53:=Tryz.underlying246
 a53:=Tryz.isAgg246
 z53:=Tryz.sizeOf246
 v53:=Tryz.zeroValue246
 t131:=Tryz.underlying241
 a131:=Tryz.isAgg241
 z131:=Tryz.sizeOf241
 v131:=Tryz.zeroValue241
 t182:=Tryz.underlying236
 a182:=Tryz.isAgg236
 z182:=Tryz.sizeOf236
 v182:=Tryz.zeroValue236
 t183:=Tryz.underlying237
 a183:=Tryz.isAgg237
 z183:=Tryz.sizeOf237
 v183:=Tryz.zeroValue237
 t218:=Tryz.underlying252
 a218:=Tryz.isAgg252
 z218:=Tryz.sizeOf252
 v218:=Tryz.zeroValue252
 t222:=Tryz.underlying256
 a222:=Tryz.isAgg256
 z222:=Tryz.sizeOf256
 v222:=Tryz.zeroValue256
 t228:=Tryz.underlying258
 a228:=Tryz.isAgg258
 z228:=Tryz.sizeOf258
 v228:=Tryz.zeroValue258
 t229:=Tryz.underlying249
 a229:=Tryz.isAgg249
 z229:=Tryz.sizeOf249
 v229:=Tryz.zeroValue249}
open Go.Sort Go.RowKit in
def Tryz.slices_Sort_int(j u D:Nat)(zs:List Int)(w:World)(G:Holds (Value.int .i64) w j u zs.toArray)(B:j<w.heap.size)(E:zs.length<4611686018427387904):
  Calls Tryz.prog 115 #[.slice (some ⟨j,u,none⟩) zs.length D] w λe w'=>
   e=.returned (.tuple #[])/\∃n os,w'=grow (putRow (Value.int .i64) (Sort.ahead w n) j u (zs.mergeSort λx y=>decide (x<=y)).toArray) os:=Any.slices_Sort_int Tryz.lays189 j u D zs w G B E
def Tryz.laysNm220_ren:Go.Shelf.Ren:=⟨fun|20=>116|n=>n,fun|22=>55|3=>3|4=>4|0=>0|n=>n,fun|n=>n⟩
def Tryz.laysNm220:Go.Proofs.Lays2.n20 Tryz.prog Tryz.laysNm220_ren:={
 mixed:=by kernel_rfl
 f20:=Tryz.func116.trans (congrArg some (by kernel_rfl))
 t0:=Tryz.underlying0
 a0:=Tryz.isAgg0
 z0:=Tryz.sizeOf0
 v0:=Tryz.zeroValue0
 t3:=Tryz.underlying3
 a3:=Tryz.isAgg3
 z3:=Tryz.sizeOf3
 v3:=Tryz.zeroValue3
 t4:=Tryz.underlying4
 a4:=Tryz.isAgg4
 z4:=Tryz.sizeOf4
 v4:=Tryz.zeroValue4
 t22:=Tryz.underlying55
 a22:=Tryz.isAgg55
 z22:=Tryz.sizeOf55
 v22:=Tryz.zeroValue55
 i3:=by kernel_rfl}
open Go.RowKit Go.Lib Go.Sort in
def Tryz.slices_Compact_int(u j B:Nat)(zs:List Int)(w:World)(G:Holds (Value.int .i64) w u j zs.toArray)(E:zs.length<=9223372036854775807)(D:zs.length<=B):
  Calls Tryz.prog 116 #[.slice (some ⟨u,j,none⟩) zs.length B] w λe w'=>e=.returned (.slice (some ⟨u,j,none⟩) (Lib.compact zs).length B)/\∃q,w'=putRow (Value.int .i64) (Sort.ahead w q) u j (Lib.compact zs++List.replicate (zs.length-(Lib.compact zs).length) 0).toArray:=Any.slices_Compact_int Tryz.laysNm220 u j B zs w G E D
open Go.RowKit Go.Lib Go.Sort in
def Tryz.slices_Compact_int_empty(a:Option Addr)(j:Nat)(w:World):
  Calls Tryz.prog 116 #[.slice a 0 j] w λe w'=>e=.returned (.slice a 0 j)/\w'=w:=Any.slices_Compact_int_empty Tryz.laysNm220 a j w
open Go.RowKit Go.Sort in
def Tryz.slices_Sort_int_none(p:Option Addr)(j:Nat)(w:World):
  Calls Tryz.prog 115 #[.slice p 0 j] w λe w'=>e=.returned (.tuple #[])/\w'=w:=Any.slices_Sort_int_none Tryz.lays189 p j w
end Go.Proofs
end
section
namespace Go.Proofs.YtbofdbhnbodbiaaGreatDoor
open Go.ChangeShapes Go.WideShapes Go.ChangeAt Go.RowKit
def elemI:Elem Tryz.prog 55 3 (.int .i64 0) 1 8:=elem_mk Tryz.underlying55 (by kernel_rfl) rfl Ue
def cloneI_any(A:Option Addr)(n c:Nat)(xs:List Value)(w:World)(G:Flat w 1 A n xs)(N:∀x∈xs,x.oneCell'=true)(hn:n*8<=140737488355328)(M:A=none->n=0):
  Calls Tryz.prog 113 #[.slice A n c] w λe w'=>∃v,e=.returned v/\w'.ownsRow w.heap.size 3 1 v n xs/\Below w.heap.size w w':=by
 have D:=Lib.hid G;have S:=Lib.hid N;clear G N;have Y:=λ(W:World) (a:Option Addr) (l c:Nat)=>Lib.run_eql_slice_nil (P:=Tryz.prog) W 55 3 a l c 0 0 Tryz.underlying55;cases A with
 |none=>
  obtain rfl:n=0:=M rfl;have E:xs=[]:=TM (by have:=D.out.1;simpa using this);have Z:=Lib.hid E;clear E D S
  go_enter Tryz.func113,Tryz.ntmps113
  go_wp2_with fail
  go_ret
  exact⟨_,rfl,by rw[Z.out];exact World.ownsRow_nil _ _ _ _,Below.refl _ _⟩
 |some a=>
  clear M;have O:Hid ((w.alloc (.cells #[] 3)).ownsRow w.heap.size 3 1 (.slice (some ⟨w.heap.size,0,none⟩) 0 0) 0 []):=Lib.hid (World.ownsRow_made w #[] 0 (Fd _) (by simp[maxLen]) Ud)
  go_enter Tryz.func113,Tryz.ntmps113
  go_wp2_with (at_builtin;go_must (refine wpList_app rfl (.tmp 5) (.tmp 6) rfl elemI w.heap.size _ 0 [] rfl O.out (some a) n c xs rfl (D.out.kept ((Below.refl _ _).alloc (Fd _) _)) S.out (by simp only[maxLen];omega) Ua Ud ?_);intro v1 w1 j u)
  have B:=((Below.refl w.heap.size w).alloc (Fd _) _).grown u Ud (own_from O.out)
  go_wp2_with fail
  go_ret
  exact⟨_,rfl,by simpa using j,B⟩
end Go.Proofs.YtbofdbhnbodbiaaGreatDoor
end
section
namespace Go.Proofs.YtbofdbhnbodbiaaGreatDoor
open Go.ChangeShapes Go.WideShapes Go.ChangeAt Go.RowKit
def append_zero(t ty e:TypeId)(P:Program)(w:World)(ht:P.underlying t=some (.slice e))(j:∃i,P.info? e=some i)(A B:Option Addr)(c:Nat):(Builtin.append_ #[t,t] ty #[.slice A 0 0,.slice B 0 c]).run P w=.ok (.slice A 0 0) w:=by obtain⟨i,j⟩:=j;cases A<;>cases B<;>simp[Builtin.append_,run_underlying ht,sizeOf,typeInfo,j,Builtin.lenOf,Builtin.firstCells,loadCells,loadCellsFrom,storeCells]
def cloneI_zero(A:Option Addr)(c:Nat)(w:World):Calls Tryz.prog 113 #[.slice A 0 c] w λe w'=>∃B,e=.returned (.slice B 0 0)/\Below w.heap.size w w':=by
 have E:=λ(W:World) (a:Option Addr) (l c:Nat)=>Lib.run_eql_slice_nil (P:=Tryz.prog) W 55 3 a l c 0 0 Tryz.underlying55;cases A with
 |none=>
  go_enter Tryz.func113,Tryz.ntmps113
  go_wp2_with fail
  go_ret
  exact⟨_,rfl,Below.refl _ _⟩
 |some a=>
  have j:∃i,Tryz.prog.info? 3=some i:=Option.isSome_iff_exists.1 (show(Tryz.prog.info? 3).isSome=true by kernel_rfl);have u:=λ(W:World) (D:TypeId) (A B:Option Addr)=>append_zero 55 D 3 Tryz.prog W Tryz.underlying55 j A B c
  go_enter Tryz.func113,Tryz.ntmps113
  go_wp2_with fail
  go_ret
  exact⟨_,rfl,(Below.refl _ _).alloc (Fd _) _⟩
end Go.Proofs.YtbofdbhnbodbiaaGreatDoor
end
namespace Go.Proofs.YtbofdbhnbodbiaaGreatDoor.Am
section
open Go.RowKit Go.Sort
def tX(l:List Int):List Int:=l.mergeSort λx y=>decide (x<=y)
def oV(l:List Int):(tX l).length=l.length:=by simp[tX]
def DU{xs:List Int}{i:Nat}{r:List AV}(h:(xs.map ah)[i]? =some r):∃x,xs[i]? =some x/\r=[.int .i64 x]:=by
 rw[SJ]at h;cases j:xs[i]? with
 |none=>rw[j]at h;cases h
 |some x=>rw[j]at h;cases h;exact⟨x,rfl,rfl⟩
def DV{P:Program}{f:FuncId}(hbody:∃fn c,P.funcs[f]? =some fn/\fn.body=some c)(b:Nat)(xs G:List Int)(hlen:G.length=xs.length)(v:AV)(ret:Addr->Nat->Value)
  (hrep:∀(w':World) (σ:bE) (T:Nat->Prop) (B:cq) (a:Addr) (D:Nat),σ b=some B->B.ok->xs.length<=D->D<=maxLen->(0<D->a=⟨B.block,B.base+0*B.size,none⟩/\∃cs e,w'.heap[B.block]? =some (.cells cs e (0,0))/\B.base+(0+D)*B.size<=cs.size)->bn w' σ T v (ret a D))
  (hpos:∀(O S D:Nat) (w:World),Holds (Value.int .i64) w O S xs.toArray->O<w.heap.size->xs.length<=D->Calls P f #[.slice (some ⟨O,S,none⟩) xs.length D] w λe w'=>e=.returned (ret ⟨O,S,none⟩ D)/\∃n os,w'=grow (putRow (Value.int .i64) (Sort.ahead w n) O S G.toArray) os)
  (hzero:xs.length=0->∀(a:Addr) (D:Nat) (w:World),Calls P f #[.slice (some a) 0 D] w λe w'=>e=.returned (ret a D)/\w'=w) :
  ac P f [.sl b 0 xs.length] [(b,⟨1,xs.map ah⟩)] λu L=>u=v/\L=[(b,⟨1,G.map ah⟩)]:=by
 refine⟨hbody,λH hb hs=>⟨v,H.put b (some ⟨1,G.map ah⟩),[(b,⟨1,G.map ah⟩)],?_,?_,rfl,rfl⟩⟩
 .intro w σ vs hW hvs;obtain⟨v,rfl,hv⟩:=GQ hvs;obtain⟨B,a,D,rfl,E,hnc,hmx,ha⟩:=hv.sl_inv;have hg:H.get b=some ⟨1,xs.map ah⟩:=hs.get (b,⟨1,xs.map ah⟩) Ud;obtain⟨pl',cs,e,g1,N⟩:=hW.live b _ hg;rw[E]at g1;cases g1;replace N:=N.1 (hv.sl_ok E);have hsz:B.size=1:=N.size;rcases Ts xs.length with h0|h0
  .have Z:xs=[]:=Tp.1 h0;have hy:G=[]:=Tp.1 Ua;have hz:=hzero h0 a D w;rw[h0];refine hz.mono ?_;rintro e' w' ⟨rfl,rfl⟩;have hput:=hW.put hg E (kC.refl N.block) (x':=⟨1,G.map ah⟩) N.size.symm (by simp[hy]) (by simpa[hy,Z]using N.room) (by simp[hy]);exact⟨_,σ,rfl,hrep _ _ _ B a D E (hv.sl_ok E) hnc hmx ha,hput.1,hput.2,λc B M=>.inl M⟩
  .have ha':=ha;obtain⟨rfl,cs',te,hcs',hroom⟩:=ha Ua;rw[N.block]at hcs';cases hcs';have hr:=N.room;simp only[Ty,Nat.mul_one]at hr;have hcell:∀(i:Nat) (x:Int),xs[i]? =some x->cs[B.base+i]? =some (.int .i64 x):=λi x Z=>by
    have hi:=aA Z;have Y:B.base+i<cs.size:=by omega
    have:=N.rep i [.int .i64 x] 0 (.int .i64 x) cs[B.base+i] (by simp[Z,ah]) rfl (by simp[S1 Y]);cases hq:cs[B.base+i]with
    |_=>rw[hq]at this;cases this<;>rw[S1 Y,hq]
   have hH:Holds (Value.int .i64) w B.block (B.base+0*B.size) xs.toArray:=λj hj=>by
    have hj':j<xs.length:=by simpa using hj
    refine⟨?_,by simp[World.frozen?,N.block]⟩;have:=hcell j xs[j] (mt hj');simp[World.cell?,N.block,this,hj']
   refine(hpos B.block (B.base+0*B.size) D w hH (hW.lt b B E) hnc).mono ?_;rintro e' w' ⟨rfl,n,os,rfl⟩;have hz:B.base+0*B.size=B.base:=by omega
   rw[show putRow (Value.int .i64) (Sort.ahead w n) B.block (B.base+0*B.size) G.toArray=putRow (Value.int .i64) (Sort.ahead w n) B.block B.base G.toArray by rw[hz]];have hw:kC w (putRow (Value.int .i64) (Sort.ahead w n) B.block B.base G.toArray) B.block cs (putCells (Value.int .i64) B.base G.toArray cs) e:=
    ⟨rfl,rfl,rfl,by simp[Sort.ahead],N.block,by simp[putRow,mapBlock,Sort.ahead,Array.getElem?_modify,N.block,onCells],by simp[putCells],λd hd=>by
     have:B.block≠d:=λe=>hd e.symm
     simp[putRow,mapBlock,Sort.ahead,Array.getElem?_modify,this]⟩
   obtain⟨p1,p2⟩:=hW.put hg E hw (x':=⟨1,G.map ah⟩) N.size.symm (λi r hr=>by obtain⟨x,_,rfl⟩:=DU hr;rfl) (by simp only[Ty,Nat.mul_one];omega) (λi r j a u hr hj hu=>by
    obtain⟨x,Z,rfl⟩:=DU hr
    match j,hj with
    |0,hj=>
     cases hj;have hi:=aA Z;have Y:B.base+i<cs.size:=by omega
     simp only[Nat.mul_one,T2]at hu;have:(putCells (Value.int .i64) B.base G.toArray cs)[B.base+i]? =some (.int .i64 x):=by
      have hx':G[i]=x:=by rw[mt hi]at Z;exact TZ Z
      simp[putCells,Y,hi,hx']
     rw[this]at hu;cases hu;exact .int _ _
    |j+1,hj=>simp at hj)
   generalize hw1:putRow (Value.int .i64) (Sort.ahead w n) B.block B.base G.toArray=w1 at p1 p2;have hbl:Below w1.heap.size w1 (grow w1 os):=⟨rfl,rfl,rfl,by simp[grow],λk hk=>heap_grow_old _ _ hk⟩;have hE:=p2.trans (iM hbl λc M=>(p1.apart c M).1);exact⟨_,σ,rfl,hrep _ _ _ B _ D E (hv.sl_ok E) hnc hmx (λh=>⟨rfl,by obtain⟨cs2,k1,k2⟩:=hE.shape _ _ _ N.block;exact⟨cs2,_,k1,Ua⟩⟩),tU p1 hbl,p2.trans (iM hbl λc M=>(p1.apart c M).1),λc B M=>.inl M⟩
 .have hg:H.get b=some ⟨1,xs.map ah⟩:=hs.get (b,⟨1,xs.map ah⟩) Ud;refine⟨Fd _,λc M=>?_,⟨Ud,λp hp=>?_⟩,λc x M hn=>⟨?_,?_⟩,λc M h0=>?_,λc M hlt=>?_⟩
  .rw[ae.get_put,if_neg];exact hb c M;rintro rfl;rw[hb _ M]at hg;cases hg
  .simp only[Sz]at hp;subst hp;rw[ae.get_put,if_pos rfl]
  .rw[ae.get_put,if_neg];exact M;rintro rfl;exact hn Ud
  .simpa using hn
  .rw[ae.get_put,if_neg];exact h0;rintro rfl;rw[hg]at h0;cases h0
  .simpa using M
def GV(b:Nat)(xs:List Int)(E:xs.length<4611686018427387904):ac Tryz.prog 115 [.sl b 0 xs.length] [(b,⟨1,xs.map ah⟩)] λv L=>v=.tup []/\L=[(b,⟨1,(tX xs).map ah⟩)]:=
 DV ⟨_,_,Tryz.func115,rfl⟩ b xs (tX xs) (oV xs) (.tup []) (λ_ _=>.tuple #[]) (λ_ _ _ _ _ _ _ _ _ _ _=>.tup [] [] rfl Ud)
  (λD B j w G u _=>Tryz.slices_Sort_int D B j xs w G u E) (λ_ a j w=>Tryz.slices_Sort_int_none (some a) j w)
def nE(l:List Int):(Lib.compact l).length<=l.length:=by unfold Lib.compact Lib.compactUpTo;rw[Ty];exact SK (TP _ _) Ud
def xW(b:Nat)(xs:List Int)(Y:xs.length<=9223372036854775807):ac Tryz.prog 116 [.sl b 0 xs.length] [(b,⟨1,xs.map ah⟩)] λv L=>v=.sl b 0 (Lib.compact xs).length/\L=[(b,⟨1,(Lib.compact xs++List.replicate (xs.length-(Lib.compact xs).length) 0).map ah⟩)]:=
 DV ⟨_,_,Tryz.func116,rfl⟩ b xs _ (by have:=nE xs;simp;omega) (.sl b 0 (Lib.compact xs).length) (λa j=>.slice (some a) (Lib.compact xs).length j)
  (λw_ σ T O a j E G D h3 h4=>.sl b 0 _ O a j E G (SK (nE xs) D) h3 h4)
  (λM B j w Z N u=>(Tryz.slices_Compact_int M B j xs w Z Y u).mono λe w' ⟨E,q,D⟩=>⟨E,q,#[],by rw[D,grow_empty]⟩)
  (λG a j w=>by
   have S:xs=[]:=Tp.1 G;subst S;exact Tryz.slices_Compact_int_empty (some a) j w)
def Be(xs:List Int)(G:xs.length*8<=140737488355328):ac Tryz.prog 113 [.lst (xs.map ah)] [] λv L=>∃o,v=aj o xs.length/\L=ab o 1 (xs.map ah)/\(o=none->xs=[]):=by
 rcases List.eq_nil_or_concat xs with rfl|⟨S,y,j⟩
 .exact(FG cloneI_zero ⟨_,_,Tryz.func113,rfl⟩).mono λv L ⟨B,O⟩=>⟨none,B,O,λ_=>rfl⟩
 .have u:xs.map ah≠[]:=by rw[j];simp
  refine(xR (λA n c xs w M B E N=>cloneI_any A n c xs w M B E N) ⟨_,_,Tryz.func113,rfl⟩ (xs.map ah) u (by simp[ah,AV.one]) (λr D=>by obtain⟨x,_,rfl⟩:=Tl.1 D;rfl) (by simpa using G)).mono ?_;rintro v L ⟨b,rfl,rfl⟩;exact⟨some b,by simp[aj],rfl,λh=>by cases h⟩
end
end Go.Proofs.YtbofdbhnbodbiaaGreatDoor.Am
section
namespace Go.Proofs.YtbofdbhnbodbiaaGreatDoor
open Go.ChangeShapes Go.WideShapes Go.ChangeAt Go.RowKit
def elemB:Elem Tryz.prog 41 4 (.bool false) 1 1:=elem_mk Tryz.underlying41 (by kernel_rfl) rfl Ue
def cloneB_any(A:Option Addr)(n c:Nat)(xs:List Value)(w:World)(G:Flat w 1 A n xs)(N:∀x∈xs,x.oneCell'=true)(hn:n*1<=140737488355328)(M:A=none->n=0):
  Calls Tryz.prog 157 #[.slice A n c] w λe w'=>∃v,e=.returned v/\w'.ownsRow w.heap.size 4 1 v n xs/\Below w.heap.size w w':=by
 have D:=Lib.hid G;have S:=Lib.hid N;clear G N;have Y:=λ(W:World) (a:Option Addr) (l c:Nat)=>Lib.run_eql_slice_nil (P:=Tryz.prog) W 41 4 a l c 0 0 Tryz.underlying41;cases A with
 |none=>
  obtain rfl:n=0:=M rfl;have E:xs=[]:=TM (by have:=D.out.1;simpa using this);have Z:=Lib.hid E;clear E D S
  go_enter Tryz.func157,Tryz.ntmps157
  go_wp2_with fail
  go_ret
  exact⟨_,rfl,by rw[Z.out];exact World.ownsRow_nil _ _ _ _,Below.refl _ _⟩
 |some a=>
  clear M;have O:Hid ((w.alloc (.cells #[] 4)).ownsRow w.heap.size 4 1 (.slice (some ⟨w.heap.size,0,none⟩) 0 0) 0 []):=Lib.hid (World.ownsRow_made w #[] 0 (Fd _) (by simp[maxLen]) Ud)
  go_enter Tryz.func157,Tryz.ntmps157
  go_wp2_with (at_builtin;go_must (refine wpList_app rfl (.tmp 5) (.tmp 6) rfl elemB w.heap.size _ 0 [] rfl O.out (some a) n c xs rfl (D.out.kept ((Below.refl _ _).alloc (Fd _) _)) S.out (by simp only[maxLen];omega) Ua Ud ?_);intro v1 w1 j u)
  have B:=((Below.refl w.heap.size w).alloc (Fd _) _).grown u Ud (own_from O.out)
  go_wp2_with fail
  go_ret
  exact⟨_,rfl,by simpa using j,B⟩
end Go.Proofs.YtbofdbhnbodbiaaGreatDoor
end
namespace Go.Proofs.YtbofdbhnbodbiaaGreatDoor.Am
section
open Go.RowKit
def HR(xs:List Bool)(B:xs.length<=140737488355328):ac Tryz.prog 157 [.lst (xs.map aB)] [] λv L=>∃o,v=aJ o xs.length/\L=ab o 1 (xs.map aB)/\(o=none->xs=[]):=by refine(tV (λA n c xs w D G u E=>cloneB_any A n c xs w D G u E) ⟨_,_,Tryz.func157,rfl⟩ (xs.map aB) (by simp[aB,AV.one]) (λr j=>by obtain⟨x,_,rfl⟩:=Tl.1 j;rfl) (by simpa using B)).mono ?_;rintro v L ⟨o,rfl,rfl,h⟩;exact⟨o,Ud,rfl,λe=>by simpa using h e⟩
end
end Go.Proofs.YtbofdbhnbodbiaaGreatDoor.Am
section
namespace Go.Proofs.YtbofdbhnbodbiaaGreatDoor
open Go.ChangeShapes Go.WideShapes Go.ChangeAt Go.RowKit
def elemT:Elem Tryz.prog 42 98 (.agg #[.int .i64 0,.int .i64 0,.bool false]) 3 24:=elem_mk Tryz.underlying42 (by kernel_rfl) rfl Ue
def cloneT_any(A:Option Addr)(n c:Nat)(xs:List Value)(w:World)(G:Flat w 3 A n xs)(N:∀x∈xs,x.oneCell'=true)(hn:n*24<=140737488355328)(M:A=none->n=0):
  Calls Tryz.prog 158 #[.slice A n c] w λe w'=>∃v,e=.returned v/\w'.ownsRow w.heap.size 98 3 v n xs/\Below w.heap.size w w':=by
 have D:=Lib.hid G;have S:=Lib.hid N;clear G N;have Y:=λ(W:World) (a:Option Addr) (l c:Nat)=>Lib.run_eql_slice_nil (P:=Tryz.prog) W 42 98 a l c 0 0 Tryz.underlying42;cases A with
 |none=>
  obtain rfl:n=0:=M rfl;have E:xs=[]:=TM (by have:=D.out.1;simpa using this);have Z:=Lib.hid E;clear E D S
  go_enter Tryz.func158,Tryz.ntmps158
  go_wp2_with fail
  go_ret
  exact⟨_,rfl,by rw[Z.out];exact World.ownsRow_nil _ _ _ _,Below.refl _ _⟩
 |some a=>
  clear M;have O:Hid ((w.alloc (.cells #[] 98)).ownsRow w.heap.size 98 3 (.slice (some ⟨w.heap.size,0,none⟩) 0 0) 0 []):=Lib.hid (World.ownsRow_made w #[] 0 (Fd _) (by simp[maxLen]) Ud)
  go_enter Tryz.func158,Tryz.ntmps158
  go_wp2_with (at_builtin;go_must (refine wpList_app rfl (.tmp 5) (.tmp 6) rfl elemT w.heap.size _ 0 [] rfl O.out (some a) n c xs rfl (D.out.kept ((Below.refl _ _).alloc (Fd _) _)) S.out (by simp only[maxLen];omega) Ua Ud ?_);intro v1 w1 j u)
  have B:=((Below.refl w.heap.size w).alloc (Fd _) _).grown u Ud (own_from O.out)
  go_wp2_with fail
  go_ret
  exact⟨_,rfl,by simpa using j,B⟩
end Go.Proofs.YtbofdbhnbodbiaaGreatDoor
end
namespace Go.Proofs.YtbofdbhnbodbiaaGreatDoor.Am
section
open Go.RowKit
def Bf(xs:List ThrD)(B:xs.length*24<=140737488355328):ac Tryz.prog 158 [.lst (xs.map ThrD.enc)] [] λv L=>∃o,v=aJ o xs.length/\L=ab o 3 (xs.map ThrD.enc)/\(o=none->xs=[]):=by refine(tV (λA n c xs w D G u E=>cloneT_any A n c xs w D G u E) ⟨_,_,Tryz.func158,rfl⟩ (xs.map ThrD.enc) (by simp[ThrD.enc,AV.one]) (λr j=>by obtain⟨x,_,rfl⟩:=Tl.1 j;rfl) (by simpa using B)).mono ?_;rintro v L ⟨o,rfl,rfl,h⟩;exact⟨o,Ud,rfl,λe=>by simpa using h e⟩
end
end Go.Proofs.YtbofdbhnbodbiaaGreatDoor.Am
section
namespace Go.Proofs.YtbofdbhnbodbiaaGreatDoor
open Go.ChangeShapes Go.WideShapes Go.ChangeAt Go.RowKit
def elemJ:Elem Tryz.prog 45 2 (.int .i64 0) 1 8:=elem_mk Tryz.underlying45 (by kernel_rfl) rfl Ue
def cloneJ_any(A:Option Addr)(n c:Nat)(xs:List Value)(w:World)(G:Flat w 1 A n xs)(N:∀x∈xs,x.oneCell'=true)(hn:n*8<=140737488355328)(M:A=none->n=0):
  Calls Tryz.prog 121 #[.slice A n c] w λe w'=>∃v,e=.returned v/\w'.ownsRow w.heap.size 2 1 v n xs/\Below w.heap.size w w':=by
 have D:=Lib.hid G;have S:=Lib.hid N;clear G N;have Y:=λ(W:World) (a:Option Addr) (l c:Nat)=>Lib.run_eql_slice_nil (P:=Tryz.prog) W 45 2 a l c 0 0 Tryz.underlying45;cases A with
 |none=>
  obtain rfl:n=0:=M rfl;have E:xs=[]:=TM (by have:=D.out.1;simpa using this);have Z:=Lib.hid E;clear E D S
  go_enter Tryz.func121,Tryz.ntmps121
  go_wp2_with fail
  go_ret
  exact⟨_,rfl,by rw[Z.out];exact World.ownsRow_nil _ _ _ _,Below.refl _ _⟩
 |some a=>
  clear M;have O:Hid ((w.alloc (.cells #[] 2)).ownsRow w.heap.size 2 1 (.slice (some ⟨w.heap.size,0,none⟩) 0 0) 0 []):=Lib.hid (World.ownsRow_made w #[] 0 (Fd _) (by simp[maxLen]) Ud)
  go_enter Tryz.func121,Tryz.ntmps121
  go_wp2_with (at_builtin;go_must (refine wpList_app rfl (.tmp 5) (.tmp 6) rfl elemJ w.heap.size _ 0 [] rfl O.out (some a) n c xs rfl (D.out.kept ((Below.refl _ _).alloc (Fd _) _)) S.out (by simp only[maxLen];omega) Ua Ud ?_);intro v1 w1 j u)
  have B:=((Below.refl w.heap.size w).alloc (Fd _) _).grown u Ud (own_from O.out)
  go_wp2_with fail
  go_ret
  exact⟨_,rfl,by simpa using j,B⟩
end Go.Proofs.YtbofdbhnbodbiaaGreatDoor
end
namespace Go.Proofs.YtbofdbhnbodbiaaGreatDoor.Am
def pX:RF:=nv (bO Tryz.prog Tryz.f85 [(12,⟨[2,33,34,35],[],true,[]⟩)] [(0,[2,3]),(5,[6])])
abbrev zY(a b:AV)(L:SH)(Q:R):Prop:=Pc pX 20 Q 0 [] [a,b] L
def xX(j t1:AV)(L:SH)(Q:R)(h:zY j t1 L Q):ac Tryz.prog 85 [j,t1] L Q:=
 fv pX Tryz.func85 h
def nF:RF:=nv (bO Tryz.prog Tryz.f69 [(9,⟨[2,3,20,21],[],true,[]⟩)] [(0,[1]),(1,[3])])
abbrev xY(a:AV)(L:SH)(Q:R):Prop:=Pc nF 20 Q 0 [] [a] L
def vU(j:AV)(L:SH)(Q:R)(h:xY j L Q):ac Tryz.prog 69 [j] L Q:=
 fv nF Tryz.func69 h
def kN:RF:=nv (bO Tryz.prog Tryz.f47 [] [(0,[5,6]),(3,[11])])
abbrev tY(a b c d e:AV)(L:SH)(Q:R):Prop:=Pc kN 20 Q 0 [] [a,b,c,d,e] L
def sd(u t1 t2 t3 j:AV)(L:SH)(Q:R)(h:tY u t1 t2 t3 j L Q):ac Tryz.prog 47 [u,t1,t2,t3,j] L Q:=
 fv kN Tryz.func47 h
def kO:RF:=nv (bO Tryz.prog Tryz.f87 [(96091,⟨[2,3,79],[],true,[]⟩),(87082,⟨[2,3,7,71],[],true,[]⟩),(78073,⟨[2,3,7,61],[],true,[]⟩),(63058,⟨[2,3,7,43],[],true,[]⟩),(48043,⟨[2,3,7,26],[],true,[]⟩),(39034,⟨[2,3,7,18],[],true,[]⟩),(30025,⟨[2,3,7,8],[],true,[]⟩)] [(0,[3])])
abbrev tZ(a b c:AV)(L:SH)(Q:R):Prop:=Pc kO 20 Q 0 [] [a,b,c] L
def sf(j t1 t2:AV)(L:SH)(Q:R)(h:tZ j t1 t2 L Q):ac Tryz.prog 87 [j,t1,t2] L Q:=
 fv kO Tryz.func87 h
def nG:RF:=nv (bO Tryz.prog Tryz.f88 [(75070,⟨[2,4,5,6,11,109],[],true,[]⟩),(33028,⟨[2,4,5,6,11,60],[],true,[]⟩)] [(0,[5,6])])
abbrev dO(a b c d e:AV)(L:SH)(Q:R):Prop:=Pc nG 20 Q 0 [] [a,b,c,d,e] L
def vV(u t1 t2 t3 j:AV)(L:SH)(Q:R)(h:dO u t1 t2 t3 j L Q):ac Tryz.prog 88 [u,t1,t2,t3,j] L Q:=
 fv nG Tryz.func88 h
def nH:RF:=nv (bO Tryz.prog Tryz.f162 [] [(0,[2])])
abbrev xZ(a b:AV)(L:SH)(Q:R):Prop:=Pc nH 20 Q 0 [] [a,b] L
def vW(j t1:AV)(L:SH)(Q:R)(h:xZ j t1 L Q):ac Tryz.prog 162 [j,t1] L Q:=
 fv nH Tryz.func162 h
def gb:RF:=nv (bO Tryz.prog Tryz.f114 [(2411,⟨[1,2,32],[],true,[]⟩),(9,⟨[1,2,3,11,12,13],[],true,[]⟩)] [(4,[5])])
abbrev vX(Q:R)(a b c:AV)(d:SH):Prop:=Pc gb 18 Q 2411 [] [a,b,c] d
abbrev vY(Q:R):Vs->SH->Kn->Prop:=Lp gb 19 Q 9 []
abbrev x7(a:AV)(L:SH)(Q:R):Prop:=Pc gb 20 Q 0 [] [a] L
def vZ(j:AV)(L:SH)(Q:R)(h:x7 j L Q):ac Tryz.prog 114 [j] L Q:=
 fv gb Tryz.func114 h
def mi:RF:=nv (bO Tryz.prog Tryz.f119 [(9,⟨[1,2,3,7,11,12,13],[],true,[]⟩)] [(0,[3]),(4,[9])])
abbrev wa(a b c:AV)(L:SH)(Q:R):Prop:=Pc mi 20 Q 0 [] [a,b,c] L
def t6(j t1 t2:AV)(L:SH)(Q:R)(h:wa j t1 t2 L Q):ac Tryz.prog 119 [j,t1,t2] L Q:=
 fv mi Tryz.func119 h
def iU:RF:=nv (bO Tryz.prog Tryz.f120 [(9,⟨[1,2,5,9,10,11],[],true,[]⟩)] [(0,[2]),(4,[7])])
abbrev qN(a b:AV)(L:SH)(Q:R):Prop:=Pc iU 20 Q 0 [] [a,b] L
def o8(j t1:AV)(L:SH)(Q:R)(h:qN j t1 L Q):ac Tryz.prog 120 [j,t1] L Q:=
 fv iU Tryz.func120 h
def mj:RF:=nv (bO Tryz.prog Tryz.f86 [] [])
abbrev we(a b:AV)(L:SH)(Q:R):Prop:=Pc mj 20 Q 0 [] [a,b] L
def t7(j t1:AV)(L:SH)(Q:R)(h:we j t1 L Q):ac Tryz.prog 86 [j,t1] L Q:=
 fv mj Tryz.func86 h
def el:RF:=nv (bO Tryz.prog Tryz.f130 [] [])
abbrev ie(a b:AV)(L:SH)(Q:R):Prop:=Pc el 20 Q 0 [] [a,b] L
def gV(j t1:AV)(L:SH)(Q:R)(h:ie j t1 L Q):ac Tryz.prog 130 [j,t1] L Q:=
 fv el Tryz.func130 h
def fg:RF:=nv (bO Tryz.prog Tryz.f166 [(6,⟨[0,1,7,8],[],true,[]⟩)] [])
abbrev ju(a b:AV)(L:SH)(Q:R):Prop:=Pc fg 20 Q 0 [] [a,b] L
def iV(j t1:AV)(L:SH)(Q:R)(h:ju j t1 L Q):ac Tryz.prog 166 [j,t1] L Q:=
 fv fg Tryz.func166 h
def dV:RF:=nv (bO Tryz.prog Tryz.f161 [(6,⟨[0,1,7,8],[],true,[]⟩)] [])
abbrev gW(a b:AV)(L:SH)(Q:R):Prop:=Pc dV 20 Q 0 [] [a,b] L
def gJ(j t1:AV)(L:SH)(Q:R)(h:gW j t1 L Q):ac Tryz.prog 161 [j,t1] L Q:=
 fv dV Tryz.func161 h
def dP:RF:=nv (bO Tryz.prog Tryz.f117 [(15,⟨[0,1,5,6],[],true,[]⟩)] [])
abbrev gK(a b:AV)(L:SH)(Q:R):Prop:=Pc dP 20 Q 0 [] [a,b] L
def gu(j t1:AV)(L:SH)(Q:R)(h:gK j t1 L Q):ac Tryz.prog 117 [j,t1] L Q:=
 fv dP Tryz.func117 h
def kP:RF:=nv (bO Tryz.prog Tryz.f118 [] [])
abbrev t8(a b:AV)(L:SH)(Q:R):Prop:=Pc kP 20 Q 0 [] [a,b] L
def sg(j t1:AV)(L:SH)(Q:R)(h:t8 j t1 L Q):ac Tryz.prog 118 [j,t1] L Q:=
 fv kP Tryz.func118 h
structure aS where
 op:Int
 a:Int
 b:Int
 c:Int
 n:Int
 site:Int
 deriving Inhabited
def aS.enc(i:aS):List AV:=[.Uf i.op,.Uf i.a,.Uf i.b,.Uf i.c,.Uf i.n,.Uf i.site]
structure eb where
 regs:Int
 ins:List aS
def eb.enc(c:eb):List AV:=[.Uf c.regs,.lst (c.ins.map aS.enc)]
def iW(b:Bool):Int:=if b then 1 else 0
def x9(op a:Int):Int×Bool:=if op=4 then(IntKind.i64.wrap (0-a),true)else if op=5 then(iW (decide (a=0)),true)else(0,false)
def iI(op a b:Int):Int×Bool:=
 if op=6 then(IntKind.i64.wrap (a+b),true)else
 if op=7 then(IntKind.i64.wrap (a-b),true)else
 if op=8 then(IntKind.i64.wrap (a*b),true)else
 if op=9 then(if b=0 then 0 else IntKind.i64.wrap (a.tdiv b),true)else
 if op=10 then(if b=0 then 0 else a.tmod b,true)else
 if op=11 then(iW (decide (a=b)),true)else
 if op=12 then(iW (decide (a≠b)),true)else
 if op=13 then(iW (decide (a<b)),true)else
 if op=14 then(iW (decide (a<=b)),true)else
 if op=15 then(iW (decide (b<a)),true)else
 if op=16 then(iW (decide (b<=a)),true)else
 if op=17 then(iW (decide (a≠0)&&decide (b≠0)),true)else
 if op=18 then(iW (decide (a≠0)||decide (b≠0)),true)else(0,false)
def Qp{o:Nat}{x:AV}{L:SH}{K:AV->Prop}(h:HO o x L K):HO o x L K:=h
def N5{o:Nat}{x:AV}{L:SH}{K:AV->Prop}(h:HP o x L K):HP o x L K:=h
def R7{x:AV}{L:SH}{K:AV->Prop}(h:wl x L K):wl x L K:=h
def Qq{n:Nat}{x i:AV}{L:SH}{K:AV->Prop}(h:Pw n x i L K):Pw n x i L K:=h
def Qr{n:Nat}{x i:AV}{L:SH}{K:AV->Prop}(h:Px n x i L K):Px n x i L K:=h
def N6{n o:Nat}{x i:AV}{L:SH}{K:AV->Prop}(h:HQ n o x i L K):HQ n o x i L K:=h
def R8{us:List W.WR}{i:Nat}{x:AV}{L:SH}{K:AV->Fp->Prop}(h:dl us i x L K):dl us i x L K:=h
def Qs{o:Nat}{x:AV}{us:List W.WR}{i:Nat}{L:SH}{K:AV->Fp->Prop}(h:Py o x us i L K):Py o x us i L K:=h
def R9{us:List W.WR}{i n:Nat}{x:AV}{L:SH}{K:AV->Fp->Prop}(h:dr us i n x L K):dr us i n x L K:=h
def Sa{us:List W.WR}{i n:Nat}{x j:AV}{L:SH}{K:AV->Fp->Prop}(h:di us i n x j L K):di us i n x j L K:=h
def st{P Q:Prop}(k:Q)(h:Q->P:=by
 intro k
 first
 |(refine Qp ?_;first|exact M9 k|exact Na k|exact JC k)
 |(refine jt ?_;first|exact MX k|exact Jg k|exact MY k|exact MW k|exact MV k|exact MU k|exact qM k|exact Jh k|exact iS k|exact Ji k|exact MZ k|exact M1 k|exact M2 k|exact Nb k|exact Nc k|exact M4 k|exact M5 k)
 |(refine NY ?_;first|exact DN k|exact DO k)
 |(refine Qg ?_;first|exact Cc k|exact Cd k|exact B0 k)
 |(refine R7 ?_;first|exact LR k|exact Qk k|exact NX k)
 |(refine M7 ?_;first|exact Cc k|exact Cd k|exact B0 k)
 |(refine NT ?_;first|exact Ju k|exact Jv k)
 |(refine N5 ?_;first|exact wnfl_q k|exact N0 k|exact JD k)
 |(refine Qb ?_;first|exact LG k|exact LF k|exact B5 k|exact a_len_n k|exact B9 k)
 |(refine N6 ?_;first|exact N1 k|exact JE k)
 |(refine Qr ?_;first|exact Qm k|exact M6 k)
 |(refine Qq ?_;first|exact Ql k|exact Bc k)
 |(refine LL ?_;first|exact tS k|exact tR k)
 |(refine JB ?_;first|exact w7 k|exact b_row_i k|exact GT k|exact DR k|exact DS k)
 |(refine Qs ?_;first|exact Qo k|exact M8 k)
 |(refine R8 ?_;first|exact Qn k|exact Qh k)
 |(refine R9 ?_;first|exact RW k|exact Qi k)
 |(refine Sa ?_;first|exact RX k|exact NZ k)
 |(refine M3 ?_;first|exact Cc k|exact Cd k|exact B0 k)
 |(refine Jq ?_;first|exact Jw k|exact Jx k|exact Jb k)
 |(refine h_load1 ?_;first|exact DL k|exact b_load_i k|exact DM k)
 |(refine Qa ?_;first|exact sa k|exact LN k|exact b_idx_i k|exact dN k|exact LO k)
 |(refine h_row ?_;first|exact w7 k|exact b_row_i k|exact GT k|exact DR k|exact DS k)
 |(refine Qc ?_;exact Qe k)
 |(refine NR ?_;exact Ce k)
 |exact RV (qL k)
 |(refine NS ?_;exact qL k)
 |(refine Jt ?_;first|exact GK k|exact a_nil_q k|exact a_nil_f k)
 |(refine RM ?_;first|exact P6 k|exact P7 k)
 |(refine NU ?_;first|exact LP k|exact b_frz_s k)
 |(refine LM ?_;first|exact DP k|exact vl k|exact DQ k)
 |(refine NV ?_;first|exact b_idxP_p k|exact Jy k)
 |(refine h_bin ?_;first|exact MX k|exact Jg k|exact MY k|exact MW k|exact MV k|exact MU k|exact qM k|exact Jh k|exact iS k|exact Ji k|exact MZ k|exact M1 k|exact M2 k|exact Nb k|exact Nc k|exact M4 k|exact M5 k)
 |(refine h_cond ?_;first|exact DN k|exact DO k)
 |exact N2 k
 |exact xU k
 |exact nA (FH k)
 |exact RU (GS k)
 |exact Qj k
 |exact RL k
 |exact NP k
 |exact LQ k
 |(first|exact wo1_ok k|exact wo2_ok k|exact wo3_ok k|exact wo4_ok k|exact wo5_ok k|exact wo6_ok k|exact wo7_ok k|exact wo8_ok k|exact wo9_ok k|exact wo10_ok k|exact wo11_ok k|exact wo12_ok k|exact wo13_ok k|exact wo14_ok k|exact wo15_ok k|exact wo16_ok k)
 |exact NN k
 |exact a_convS k
 |exact b_fld k
 |exact NO k
 |exact FH k
 |exact GS k
 |((with_reducible refine R4 ?_);exact GU k)
 |((with_reducible refine h_lp ?_);exact Nh k)
 |((with_reducible refine R6 ?_);exact Ni k)
 |((with_reducible refine R5 ?_);exact Ng k)
 |fail):P:=h k
def sb{P:Prop}{Q:Nat->Prop}{N:Nat->Prop}(k:∀b,N b->Q b)(h:(∀b,N b->Q b)->P:=by
 intro k
 first
 |(refine Qd ?_;exact Qf k)
 |(refine Js ?_;exact Jz k)
 |(refine Jr ?_;exact JA k)
 |(exact GL k)
 |fail):P:=h k
def s2{P D B G E:Prop}(u:G->D)(j:E->B)(h:(G->D)->(E->B)->P:=by
 intro u j
 first
 |(refine NY ?_;exact Jf u j)
 |(refine Qg ?_;first|exact B1 u j|exact B2 u j)
 |(refine M7 ?_;first|exact B1 u j|exact B2 u j)
 |(refine M3 ?_;first|exact B1 u j|exact B2 u j)
 |(refine Jq ?_;first|exact Jc u j|exact Jd u j)
 |(refine h_cond ?_;exact Jf u j)
 |fail):P:=h u j
def mm{α:Type}{a:α}{l:List α}(h:a∈l:=by first|exact .head _|exact .tail _ (.head _)|exact .tail _ (.tail _ (.head _))|exact .tail _ (.tail _ (.tail _ (.head _)))|exact .tail _ (.tail _ (.tail _ (.tail _ (.head _))))|exact .tail _ (.tail _ (.tail _ (.tail _ (.tail _ (.head _)))))|exact .tail _ (.tail _ (.tail _ (.tail _ (.tail _ (.tail _ (.head _))))))|exact .tail _ (.tail _ (.tail _ (.tail _ (.tail _ (.tail _ (.tail _ (.head _)))))))|exact .tail _ (.tail _ (.tail _ (.tail _ (.tail _ (.tail _ (.tail _ (.tail _ (.head _))))))))|exact .tail _ (.tail _ (.tail _ (.tail _ (.tail _ (.tail _ (.tail _ (.tail _ (.tail _ (.head _)))))))))|exact .tail _ (.tail _ (.tail _ (.tail _ (.tail _ (.tail _ (.tail _ (.tail _ (.tail _ (.tail _ (.head _))))))))))|exact .tail _ (.tail _ (.tail _ (.tail _ (.tail _ (.tail _ (.tail _ (.tail _ (.tail _ (.tail _ (.tail _ (.head _)))))))))))|exact .tail _ (.tail _ (.tail _ (.tail _ (.tail _ (.tail _ (.tail _ (.tail _ (.tail _ (.tail _ (.tail _ (.tail _ (.head _))))))))))))):a∈l:=h
def rp{P:Prop}(h:P:=by repeat constructor):P:=h
inductive aw where
 |mk (op n:Int) (name:bu) (l:List aw)
def aw.op:aw->Int|.mk a _ _ _=>a
def aw.n:aw->Int|.mk _ a _ _=>a
def aw.name:aw->bu|.mk _ _ a _=>a
def aw.l:aw->List aw|.mk _ _ _ a=>a
mutual
def aw.enc:aw->List AV
 |.mk op n name l=>[.int .i64 op,.int .i64 n,.str name,.lst (aw.encs l)]
def aw.encs:List aw->List (List AV)
 |[]=>[]
 |x::l=>x.enc::aw.encs l
end
def aw.encs_eq:∀l:List aw,aw.encs l=l.map aw.enc
 |[]=>rfl
 |x::l=>by rw[aw.encs,aw.encs_eq l];rfl
def aw.row(x:aw):List AV:=[.Uf x.op,.Uf x.n,.str x.name,.lst (x.l.map aw.enc)]
def aw.enc_row(x:aw):x.enc=x.row:=by cases x;rw[aw.enc,aw.encs_eq];rfl
def yb{l:List aw}{i:Nat}(h:i<l.length):(l.map aw.enc)[i]? =some [.Uf l[i].op,.Uf l[i].n,.str l[i].name,.lst (l[i].l.map aw.enc)]:=by rw[ao h,aw.enc_row];rfl
def z0(op:Int):Nat:=if op=0 then 2^50 else 0
def z3(op:Int):Nat:=if op=3 then 2^50 else 0
def yd(op:Int)(name:bu)(n:Nat):Nat:=(if n=0 then(if op=0\/op=1\/op=2 then 0 else 2^50)else 0)+(if name=[113]then 0 else z3 op)
mutual
def aw.wt:aw->Nat
 |.mk op _ name l=>1+name.length+yd op name l.length+aw.wts l
def aw.wts:List aw->Nat
 |[]=>0
 |x::l=>x.wt+z0 x.op+aw.wts l
end
def aw.wt_eq(x:aw):x.wt=1+x.name.length+yd x.op x.name x.l.length+aw.wts x.l:=by cases x;rfl
def aw.wts_get0:∀(l:List aw) (i:Nat) (h:i<l.length),l[i].wt+z0 l[i].op<=aw.wts l
 |x::l,0,_=>by simp[aw.wts]
 |x::l,i+1,h=>by have:=aw.wts_get0 l i (by simpa using h);simp only[List.getElem_cons_succ,aw.wts];omega
def aw.wts_get(l:List aw)(i:Nat)(h:i<l.length):l[i].wt<=aw.wts l:=by have:=aw.wts_get0 l i h;omega
def aw.wts_len:∀l:List aw,l.length<=aw.wts l
 |[]=>Fd _
 |x::l=>by have:=aw.wts_len l;have:=x.wt_eq;simp only[SQ,aw.wts];omega
def aw.kid(x:aw){i:Nat}(h:i<x.l.length):x.l[i].wt<x.wt:=by have:=aw.wts_get x.l i h;have:=x.wt_eq;omega
def aw.len(x:aw):x.l.length<x.wt:=by have:=aw.wts_len x.l;have:=x.wt_eq;omega
inductive aa where
 |mk (op line:Int) (name arg:bu) (index:List aw) (expr:aw) (body els:List aa)
def aa.op:aa->Int|.mk a _ _ _ _ _ _ _=>a
def aa.line:aa->Int|.mk _ a _ _ _ _ _ _=>a
def aa.name:aa->bu|.mk _ _ a _ _ _ _ _=>a
def aa.arg:aa->bu|.mk _ _ _ a _ _ _ _=>a
def aa.index:aa->List aw|.mk _ _ _ _ a _ _ _=>a
def aa.expr:aa->aw|.mk _ _ _ _ _ a _ _=>a
def aa.body:aa->List aa|.mk _ _ _ _ _ _ a _=>a
def aa.els:aa->List aa|.mk _ _ _ _ _ _ _ a=>a
mutual
def aa.enc:aa->List AV
 |.mk op line name arg index e body els=>[.int .i64 op,.int .i64 line,.str name,.str arg,.lst (index.map aw.enc),.int .i64 e.op,.int .i64 e.n,.str e.name,.lst (e.l.map aw.enc),.lst (aa.encs body),.lst (aa.encs els)]
def aa.encs:List aa->List (List AV)
 |[]=>[]
 |x::l=>x.enc::aa.encs l
end
def aa.encs_eq:∀l:List aa,aa.encs l=l.map aa.enc
 |[]=>rfl
 |x::l=>by rw[aa.encs,aa.encs_eq l];rfl
def aa.row(x:aa):List AV:=[.Uf x.op,.Uf x.line,.str x.name,.str x.arg,.lst (x.index.map aw.enc),.Uf x.expr.op,.Uf x.expr.n,.str x.expr.name,.lst (x.expr.l.map aw.enc),.lst (x.body.map aa.enc),.lst (x.els.map aa.enc)]
def aa.enc_row(x:aa):x.enc=x.row:=by cases x;rw[aa.enc,aa.encs_eq,aa.encs_eq];rfl
def Bg{l:List aa}{i:Nat}(h:i<l.length):(l.map aa.enc)[i]? =some [.Uf l[i].op,.Uf l[i].line,.str l[i].name,.str l[i].arg,.lst (l[i].index.map aw.enc),.Uf l[i].expr.op,.Uf l[i].expr.n,.str l[i].expr.name,.lst (l[i].expr.l.map aw.enc),.lst (l[i].body.map aa.enc),.lst (l[i].els.map aa.enc)]:=by rw[ao h,aa.enc_row];rfl
def zv(op eop:Int):Nat:=if op=1\/op=2\/op=3\/op=14 then z0 eop else 0
def zi(name:bu)(n:Nat):Nat:=if n=0\/name=[113]then 0 else 2^50
mutual
def aa.wt:aa->Nat
 |.mk op _ name arg index e body els=>1+name.length+arg.length+aw.wts index+e.wt+zv op e.op+zi name index.length+aa.wts body+aa.wts els
def aa.wts:List aa->Nat
 |[]=>0
 |x::l=>x.wt+aa.wts l
end
def aa.wt_eq(x:aa):x.wt=1+x.name.length+x.arg.length+aw.wts x.index+x.expr.wt+zv x.op x.expr.op+zi x.name x.index.length+aa.wts x.body+aa.wts x.els:=by cases x;rfl
def aa.wts_get:∀(l:List aa) (i:Nat) (h:i<l.length),l[i].wt<=aa.wts l
 |x::l,0,_=>by simp[aa.wts]
 |x::l,i+1,h=>by have:=aa.wts_get l i (by simpa using h);simp only[List.getElem_cons_succ,aa.wts];omega
def aa.wts_len:∀l:List aa,l.length<=aa.wts l
 |[]=>Fd _
 |x::l=>by have:=aa.wts_len l;have:=x.wt_eq;simp only[SQ,aa.wts];omega
structure aM where
 kind:Int
 line:Int
 name:bu
 size:Int
 init:Int
 on:bu
 deriving Inhabited
def aM.enc(d:aM):List AV:=[.Uf d.kind,.Uf d.line,.str d.name,.Uf d.size,.Uf d.init,.str d.on]
structure ai where
 name:bu
 line:Int
 locals:List bu
 body:List aa
def ai.enc(t:ai):List AV:=[.str t.name,.Uf t.line,.lst (t.locals.map au),.lst (t.body.map aa.enc)]
structure bT where
 decls:List aM
 threads:List ai
def bT.enc(p:bT):List AV:=[.lst (p.decls.map aM.enc),.lst (p.threads.map ai.enc)]
def aM.wt(d:aM):Nat:=1+d.name.length+d.on.length
def ai.wt(t:ai):Nat:=1+t.name.length+t.locals.length+(t.locals.map List.length).sum+aa.wts t.body
def bT.wt(p:bT):Nat:=(p.decls.map aM.wt).sum+(p.threads.map ai.wt).sum
def w8{α:Type}{f:α->Nat}:∀(l:List α) (i:Nat) (h:i<l.length),f l[i]<=(l.map f).sum
 |x::l,0,_=>by simp
 |x::l,i+1,h=>by have:=w8 (f:=f) l i (by simpa using h);simp only[List.getElem_cons_succ,Sx,Tx];omega
def Cf{α:Type}{f:α->Nat}(j:∀x,1<=f x):∀l:List α,l.length<=(l.map f).sum
 |[]=>Fd _
 |x::l=>by have:=Cf j l;have:=j x;simp only[SQ,Sx,Tx];omega
def ye{α:Type}{p:α->Prop}{l:List α}{i:Nat}(h:i<l.length)(u:∀x∈l.take i,p x)(h2:p l[i]):∀x∈l.take (i+1),p x:=by
 rw[Sw h];intro x j;rcases SC.1 j with j|j
 .exact u x j
 .simp at j;subst j;exact h2
def Qt(n:Nat)(G:Nat->Prop)(S:Nat->List AV×SH){B:List AV->SH->W.Kn->Prop}{vs:List AV}{L:SH}(O:n<2^62)(h0:G 0)(N:vs=(S 0).1)(Z:L=(S 0).2)
  (h1:∀i,i<n->decide ((i:Int)<(n:Int))=true->IntKind.i64.wrap ((i:Int)+1)=((i+1:Nat):Int)->G i->∀u:W.Kn,(G (i+1)->∀j D,az j D (S (i+1)).1 (S (i+1)).2->u j D)->B (S i).1 (S i).2 u)
  (h2:∀i,i=n->decide ((i:Int)<(n:Int))=false->G i->∀u:W.Kn,B (S i).1 (S i).2 u):W.loop B vs L:=by
 refine iR n S G h0 N Z λi hi E=>?_
 rcases Fn i n with h|h
 .exact h1 i h (aW h) (ax h O) E _ λY j D M=>⟨i+1,Ua,Ua,Y,M⟩
 .exact h2 i Ua (aX h) E _
def eB(n:Nat)(G:Nat->Prop)(S:Nat->List AV){B:List AV->SH->W.Kn->Prop}{vs:List AV}{L:SH}(E:n<2^62)(h0:G 0)(u:vs=S 0)
  (Z:∀i,i<n->decide ((i:Int)<(n:Int))=true->IntKind.i64.wrap ((i:Int)+1)=((i+1:Nat):Int)->G i->∀j:W.Kn,(G (i+1)->j (S (i+1)) L)->B (S i) L j)
  (h2:∀i,i=n->decide ((i:Int)<(n:Int))=false->G i->∀j:W.Kn,B (S i) L j):W.loop B vs L:=
 Qt n G (λi=>(S i,L)) E h0 u rfl (λi h O M Y j D=>Z i h O M Y j λN=>D N _ _ (.refl _ _)) h2
def dy{α:Type}(l:List α)(p:α->Bool)(S:Nat->List AV){B:List AV->SH->W.Kn->Prop}{vs:List AV}{L:SH}(M:l.length<2^62)(E:vs=S 0)
  (O:∀i (h:i<l.length),decide ((i:Int)<(l.length:Int))=true->IntKind.i64.wrap ((i:Int)+1)=((i+1:Nat):Int)->(∀x∈l.take i,p x=false)->∀j:W.Kn,(p l[i]=false->j (S (i+1)) L)->B (S i) L j)
  (h2:∀i,i=l.length->decide ((i:Int)<(l.length:Int))=false->(∀x∈l,p x=false)->∀j:W.Kn,B (S i) L j):W.loop B vs L:=
 eB l.length (λi=>∀x∈l.take i,p x=false) S M Ud E (λi h D N u j G=>O i h D N u j λhp=>G (ye h u hp))
  λi e D u j=>h2 i e D (by rw[SX Ua]at u;exact u) j
def JF{α:Type}{p:α->Bool}{l:List α}(h:∀x∈l,p x=false):l.any p=false:=by simpa using h
def GW{α:Type}{p:α->Bool}{l:List α}{i:Nat}(h:i<l.length)(hp:p l[i]=true):l.any p=true:=TW.2 ⟨_,Sy h,hp⟩
def FI{α:Type}{p:α->Bool}{l:List α}{i:Nat}(h:i<l.length)(hp:p l[i]=false):l.all p=false:=List.all_eq_false.2 ⟨_,Sy h,by simp[hp]⟩
def GX{s:bu}{k:IntKind}{i:Nat}{K:AV->Prop}(h:K (.int .u8 (s.getD i 0).toNat))(j:i<s.length:=by assumption):W.ixS (.str s) (.int k (i:Int)) K:=⟨s,k,i,s[i],rfl,rfl,Ua,by simp[j],by simpa[List.getD,j]using h⟩
def jv{α:Type}(p:α->Bool):List α->Nat->Int
 |[],_=>-1
 |x::l,i=>if p x then(i:Int)else jv p l (i+1)
def eY{α:Type}{p:α->Bool}:∀{l:List α} {i:Nat},(∀x∈l,p x=false)->jv p l i=-1
 |[],_,_=>rfl
 |x::l,i,h=>by rw[jv,h x Ud];exact eY λy j=>h y (by simp[j])
def GY{α:Type}{p:α->Bool}:∀{l:List α} {j k:Nat} (u:k<l.length),(∀x∈l.take k,p x=false)->p l[k]=true->jv p l j=(j+k:Nat)
 |x::l,j,0,u,h,hp=>by simp at hp;simp[jv,hp]
 | x::l,j,k+1,u,h,hp=>by rw[jv,h x Ud];have:=GY (p:=p) (l:=l) (j:=j+1) (k:=k) (by simpa using u) (λy B=>h y (by simp[B])) (by simpa using hp);simp only[SO,if_false,this];congr 1;omega
def kQ{α:Type}{p:α->Bool}{l:List α}{k:Nat}(j:k<l.length)(h:∀x∈l.take k,p x=false)(hp:p l[k]=true):jv p l 0=k:=by rw[GY j h hp];simp
structure aH where
 name:bu
 index:Int
 size:Int
 vol:Bool
 init:Int
 deriving Inhabited
def aH.enc(c:aH):List AV:=[.str c.name,.Uf c.index,.Uf c.size,.bool c.vol,.Uf c.init]
structure bC where
 name:bu
 rw:Bool
 deriving Inhabited
def bC.enc(c:bC):List AV:=[.str c.name,.bool c.rw]
structure bR where
 name:bu
 mutex:Int
 deriving Inhabited
def bR.enc(c:bR):List AV:=[.str c.name,.Uf c.mutex]
structure bU where
 thread:Int
 stmt:Int
 line:Int
 deriving Inhabited
def bU.enc(c:bU):List AV:=[.Uf c.thread,.Uf c.stmt,.Uf c.line]
structure aI where
 cells:List aH
 locks:List bC
 conds:List bR
 futures:List bu
 threads:List bu
 sites:List bU
def aI.enc(w:aI):List AV:=[.lst (w.cells.map aH.enc),.lst (w.locks.map bC.enc),.lst (w.conds.map bR.enc),.lst (w.futures.map au),.lst (w.threads.map au),.lst (w.sites.map bU.enc)]
structure o9 where
 thread:Int
 wake:Int
def o9.enc(c:o9):List AV:=[.Uf c.thread,.Uf c.wake]
structure aZ where
 w:aI
 ts:List eb
def aZ.enc(c:aZ):List AV:=[.lst (c.w.cells.map aH.enc),.lst (c.w.locks.map bC.enc),.lst (c.w.conds.map bR.enc),.lst (c.w.futures.map au),.lst (c.w.threads.map au),.lst (c.w.sites.map bU.enc),.lst (c.ts.map eb.enc)]
def ge(l:List bC)(s:bu):Int:=jv (λx=>decide (x.name=s)) l 0
def sh(l:List aH)(s:bu):Int:=jv (λx=>decide (x.name=s)) l 0
def aN(i:aS):List Int:=
 if i.op=1\/i.op=6\/i.op=10\/i.op=27 then [i.a]else
 if i.op=2\/i.op=3 then [i.a,i.b]else
 if i.op=4 then [i.a,i.b,i.c]else
 if i.op=7 then [i.a,i.c]else
 if i.op=8\/i.op=26 then [i.b]else
 if i.op=9 then [i.b,i.c]else []
def vn(w:aI)(i:Int):Bool:=inB i w.cells.length&&decide ((w.cells.getD i.toNat default).size=0)
def wh(w:aI)(i n:Int):Bool:=inB i w.cells.length&&decide ((w.cells.getD i.toNat default).index=0)&&decide ((w.cells.getD i.toNat default).size≠0)&&decide ((w.cells.getD i.toNat default).size=n)
def jw(w:aI)(i:Int)(rw:Bool):Bool:=inB i w.locks.length&&((w.locks.getD i.toNat ⟨[],false⟩).rw==rw)
def j9(w:aI)(i:aS):Bool:=
 if i.op=6 then vn w i.b else if i.op=8 then vn w i.a else if i.op=7 then wh w i.b i.n else if i.op=9 then wh w i.a i.n else
 if i.op=11\/i.op=12 then jw w i.a false else if i.op=13\/i.op=14\/i.op=15\/i.op=16 then jw w i.a true else
 if i.op=21\/i.op=22\/i.op=23 then inB i.a w.conds.length else if i.op=24\/i.op=25 then inB i.a w.threads.length else
 if i.op=26 then inB i.a w.futures.length else if i.op=27 then inB i.b w.futures.length else
 if i.op=3 then decide (i.n=4\/i.n=5)else if i.op=4 then decide (6<=i.n/\i.n<=18)else true
def aS.sil(i:aS):Prop:=1<=i.op/\i.op<=5
inductive tG (ins:List aS):Nat->Nat->Prop where
 |ev (k:Nat) (i:aS):ins[k]? =some i->¬i.sil->tG ins k 0
 |go (k m:Nat) (i:aS):ins[k]? =some i->i.sil->i.op≠5->tG ins (k+1) m->tG ins k (m+1)
 |jump (k m j:Nat) (i:aS):ins[k]? =some i->i.op=5->i.a=(j:Nat)->tG ins j m->tG ins k (m+1)
def gg(ins:List aS)(k:Nat):Prop:=∃m,tG ins k m
def tG.uniq{O:List aS}{k m1:Nat}(h1:tG O k m1):∀{N:Nat},tG O k N->m1=N:=by
 induction h1 with
 |ev k i E M=>
  intro N S;cases S with
  |ev=>rfl
  |go _ _ G u B=>rw[E]at u;cases u;exact absurd B M
  |jump _ _ j G u B=>rw[E]at u;cases u;exact absurd ⟨Ua,Ua⟩ M
 |go k m i E M Z hm Y=>
  intro N S;cases S with
  |ev _ G u B=>rw[E]at u;cases u;exact absurd M B
  |go _ _ G u B _ D=>rw[Y D]
  |jump _ _ j G u B=>rw[E]at u;cases u;exact absurd B Z
 |jump k m j i E M ha hm Y=>
  intro N S;cases S with
  |ev _ G u B=>rw[E]at u;cases u;exact absurd ⟨Ua,Ua⟩ B
  |go _ _ G u B Z D=>rw[E]at u;cases u;exact absurd M Z
  |jump _ _ j' G u B ha' D=>
   rw[E]at u;cases u;have:j=j':=by omega
   subst this;rw[Y D]
def tG.lt{u:List aS}{k m:Nat}(h:tG u k m):k<u.length:=by
 cases h with
 |ev _ i B _=>exact(Tf.1 B).1
 |go _ _ i B=>exact(Tf.1 B).1
 |jump _ _ j i B=>exact(Tf.1 B).1
def tG.path{u:List aS}{k m:Nat}(h:tG u k m):∃l:List Nat,l.length=m+1/\(∀j∈l,j<u.length/\∃q,q<=m/\tG u j q)/\l.Nodup:=by
 induction h with
 |ev k i N M=>exact⟨[k],rfl,by simp only[Sz,forall_eq];exact⟨(tG.ev k i N M).lt,0,Fd _,.ev k i N M⟩,Ud⟩
 |go k m i N M h5 Z Y=>
  obtain⟨l,h1,O,h3⟩:=Y;have D:=tG.go k m i N M h5 Z;refine⟨k::l,by simp[h1],λj E=>?_,Tc.2 ⟨λB=>?_,h3⟩⟩
  .rcases SB.1 E with rfl|E
   .exact⟨D.lt,_,Fd _,D⟩
   .obtain⟨S,q,g2,G⟩:=O j E;exact⟨S,q,Ua,G⟩
  .obtain⟨S,q,g2,G⟩:=O k B;have:=D.uniq G;omega
 |jump k m j i N M ha Z Y=>
  obtain⟨l,h1,O,h3⟩:=Y;have D:=tG.jump k m j i N M ha Z;refine⟨k::l,by simp[h1],λj E=>?_,Tc.2 ⟨λB=>?_,h3⟩⟩
  .rcases SB.1 E with rfl|E
   .exact⟨D.lt,_,Fd _,D⟩
   .obtain⟨S,q,g2,G⟩:=O j E;exact⟨S,q,Ua,G⟩
  .obtain⟨S,q,g2,G⟩:=O k B;have:=D.uniq G;omega
def Bh{α:Type}[BEq α][LawfulBEq α]:∀{l U:List α},l.Nodup->(∀x∈l,x∈U)->l.length<=U.length
 |[],U,_,_=>by simp
 | x::l,U,hn,hs=>by
  have u:x∈U:=hs x Ud;have B:=Tc.1 hn;have:=Bh (l:=l) (U:=U.erase x) B.2 λy j=>(List.mem_erase_of_ne (by rintro rfl;exact B.1 j)).2 (hs y (by simp[j]))
  rw[List.length_erase_of_mem u]at this;have:=List.length_pos_of_mem u;simp only[SQ];omega
def DW:∀{n:Nat} {l:List Nat},l.Nodup->(∀j∈l,j<n)->l.length<=n:=by
 intro n l u h;have:=Bh u (U:=List.range n) λj B=>Tw.2 (h j B)
 simpa using this
def tG.bound{u:List aS}{k m:Nat}(h:tG u k m):m<u.length:=by obtain⟨l,G,E,D⟩:=h.path;have:=DW D (λj B=>(E j B).1);omega
def cU(t:ThrD)(c:Int):Bool:=decide (t.status=3)&&decide (t.cond=c)
def fitsS(w:aI)(s:SyncD):Bool:=decide (s.locks.length=w.locks.length)&&decide (s.done.length=w.futures.length)&&decide (s.threads.length=w.threads.length)&&w.conds.all λc=>inB c.mutex w.locks.length
def rwAt(w:aI)(o:Int):Bool:=(w.locks.getD o.toNat default).rw
def allowedS(w:aI)(k o:Int):Bool:=
 if k=1\/k=2\/k=5\/k=12\/k=13\/k=14\/k=15 then decide (o=-1)
 else if k=3\/k=4 then inB o w.cells.length
 else if k=6\/k=7 then inB o w.locks.length&&!rwAt w o
 else if k=8\/k=9\/k=10\/k=11 then inB o w.locks.length&&rwAt w o
 else if k=16\/k=17\/k=18\/k=19 then inB o w.conds.length
 else if k=20\/k=21 then inB o w.threads.length
 else if k=22\/k=23 then inB o w.futures.length
 else false
def aF(s:SyncD)(o:Int):LockD:=s.locks.getD o.toNat default
def aR(s:SyncD)(o:Int):ThrD:=s.threads.getD o.toNat default
def nI(s:SyncD)(o:Int):Bool:=s.done.getD o.toNat default
def ig(w:aI)(o:Int):Int:=(w.conds.getD o.toNat default).mutex
def cJ(w:aI)(s:SyncD)(t k o:Int):Bool:=
 if k=6 then decide ((aF s o).owner=-1)
 else if k=10 then decide ((aF s o).owner=-1)&&decide ((aF s o).readers.length=0)
 else if k=8 then decide ((aF s o).owner=-1)&&!(aF s o).readers.contains t
 else if k=7\/k=11 then decide ((aF s o).owner=t)
 else if k=9 then(aF s o).readers.contains t
 else if k=12 then decide (s.tx=-1)
 else if k=13 then decide (s.tx=t)
 else if k=14 then !(aR s t).atomic
 else if k=15 then(aR s t).atomic
 else if k=16\/k=18\/k=19 then decide ((aF s (ig w o)).owner=t)
 else if k=20 then decide (o≠t)&&decide ((aR s o).status=0)
 else if k=21 then decide (o≠t)&&decide ((aR s o).status=5)
 else if k=22 then !nI s o
 else if k=23 then nI s o
 else true
def aE(w:aI)(s:SyncD)(t k o:Int):Bool:=
  fitsS w s&&inB t w.threads.length&&allowedS w k o &&
    (if k=1 then decide ((aR s t).status=1)
     else if k=17 then decide ((aR s t).status=4)&&decide ((aR s t).cond=o)&&decide ((aF s (ig w o)).owner=-1)
     else decide ((aR s t).status=2)&&cJ w s t k o)
structure wi(w:aI)(s:SyncD):Prop where
 locks:s.locks.length=w.locks.length
 done:s.done.length=w.futures.length
 threads:s.threads.length=w.threads.length
 conds:∀c∈w.conds,inB c.mutex w.locks.length=true
def fO{w:aI}{s:SyncD}:fitsS w s=true↔wi w s:=by simp only[fitsS,SN,decide_eq_true_eq,SM];exact⟨λ⟨⟨⟨D,B⟩,u⟩,j⟩=>⟨D,B,u,j⟩,λ⟨D,B,u,j⟩=>⟨⟨⟨D,B⟩,u⟩,j⟩⟩
def Bi{w:aI}{s:SyncD}(h:wi w s){o:Int}(u:inB o w.conds.length=true):inB (ig w o) s.locks.length=true:=by
 obtain⟨D,B⟩:=av.1 u;have j:o.toNat<w.conds.length:=by omega
 rw[h.locks];have:w.conds.getD o.toNat default=w.conds[o.toNat]:=by simp[j]
 unfold ig;rw[this];exact h.conds _ (Sy j)
def DX{s:SyncD}(j:∀l∈s.locks,l.readers.length<2^40)(o:Int):(aF s o).readers.length<2^62:=by
 unfold aF;rcases Fn o.toNat s.locks.length with h|h
 .have:=j _ (Sy h);simp[h];omega
 .simp[List.getD,LE h];decide
def kinds(k:Int):(k<1\/23<k)\/k=1\/k=2\/k=3\/k=4\/k=5\/k=6\/k=7\/k=8\/k=9\/k=10\/k=11\/k=12\/k=13\/k=14\/k=15\/k=16\/k=17\/k=18\/k=19\/k=20\/k=21\/k=22\/k=23:=by omega
def LU{k c:Int}(j:k<1\/23<k)(u:1<=c)(h2:c<=23):decide (k=c)=false:=by simp;omega
def eQ{w:aI}{k o:Int}(j:k<1\/23<k):allowedS w k o=false:=by
 unfold allowedS
 repeat (rw[if_neg Ua])
end Go.Proofs.YtbofdbhnbodbiaaGreatDoor.Am
