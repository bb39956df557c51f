/- A part of the proof; the statement is proved in the last part. -/
import Derived.Test.YtdnpdghlggbklaaGreatDoorQtf
import Derived.Shelf.Small.Wraps
import Derived.Shelf.Sort.Plain
import Derived.Shelf.Slices.Turned
import Derived.Ground.Names2Prog
import Derived.Shelf.Slices.Clone
import Derived.Shelf.Slices.CompactI
import Derived.Shelf.Slices.In.SortNone
import Derived.Ground.SlgnProg
import Derived.Shelf.SlicesE.Clone
import Derived.Test.YtdnpdghlggbklaaGreatDoorProg
import Derived.WalkSpells
import Derived.Deep.DeepMust
import Derived.Sort.OwnSortedInts
set_option linter.unusedSimpArgs false
set_option linter.unusedVariables false
section
namespace Go.Proofs
open Go.Shelf
def Tryz.lays189_ren:Go.Shelf.Ren:=⟨fun|189=>74|125=>113|257=>112|128=>139|129=>140|294=>130|295=>131|296=>132|297=>133|298=>134|299=>135|216=>136|300=>137|301=>138|328=>148|329=>149|330=>150|331=>151|332=>152|215=>153|343=>155|n=>n,fun|28=>51|3=>3|46=>209|0=>0|51=>230|53=>232|4=>4|183=>223|182=>222|131=>227|5=>5|9=>9|218=>239|222=>243|228=>245|229=>236|n=>n,fun|n=>n⟩
theorem Tryz.lays189:Go.Proofs.Lays.n189 Tryz.prog Tryz.lays189_ren:={
 mixed:=by kernel_rfl
 f125:=Tryz.func113.trans (congrArg some (by kernel_rfl))
 f128:=Tryz.func139.trans (congrArg some (by kernel_rfl))
 f129:=Tryz.func140.trans (congrArg some (by kernel_rfl))
 f189:=Tryz.func74.trans (congrArg some (by kernel_rfl))
 f215:=Tryz.func153.trans (congrArg some (by kernel_rfl))
 f216:=Tryz.func136.trans (congrArg some (by kernel_rfl))
 f257:=Tryz.func112.trans (congrArg some (by kernel_rfl))
 f294:=Tryz.func130.trans (congrArg some (by kernel_rfl))
 f295:=Tryz.func131.trans (congrArg some (by kernel_rfl))
 f296:=Tryz.func132.trans (congrArg some (by kernel_rfl))
 f297:=Tryz.func133.trans (congrArg some (by kernel_rfl))
 f298:=Tryz.func134.trans (congrArg some (by kernel_rfl))
 f299:=Tryz.func135.trans (congrArg some (by kernel_rfl))
 f300:=Tryz.func137.trans (congrArg some (by kernel_rfl))
 f301:=Tryz.func138.trans (congrArg some (by kernel_rfl))
 f328:=Tryz.func148.trans (congrArg some (by kernel_rfl))
 f329:=Tryz.func149.trans (congrArg some (by kernel_rfl))
 f330:=Tryz.func150.trans (congrArg some (by kernel_rfl))
 f331:=Tryz.func151.trans (congrArg some (by kernel_rfl))
 f332:=Tryz.func152.trans (congrArg some (by kernel_rfl))
 f343:=Tryz.func155.trans (congrArg some (by kernel_rfl))
 t0:=Tryz.underlying0
 a0:=Tryz.isAgg0
 z0:=Tryz.sizeOf0
 v0:=Tryz.zeroValue0
 t3:=Tryz.underlying3
 a3:=Tryz.isAgg3
 z3:=Tryz.sizeOf3
 v3:=Tryz.zeroValue3
 t4:=Tryz.underlying4
 a4:=Tryz.isAgg4
 z4:=Tryz.sizeOf4
 v4:=Tryz.zeroValue4
 t5:=Tryz.underlying5
 a5:=Tryz.isAgg5
 z5:=Tryz.sizeOf5
 v5:=Tryz.zeroValue5
 t9:=Tryz.underlying9
 a9:=Tryz.isAgg9
 z9:=Tryz.sizeOf9
 v9:=Tryz.zeroValue9
 t28:=Tryz.underlying51
 a28:=Tryz.isAgg51
 z28:=Tryz.sizeOf51
 v28:=Tryz.zeroValue51
 t46:=Tryz.underlying209
 a46:=Tryz.isAgg209
 z46:=Tryz.sizeOf209
 v46:=Tryz.zeroValue209
 t51:=Tryz.underlying230
 a51:=Tryz.isAgg230
 z51:=Tryz.sizeOf230
 v51:=Tryz.zeroValue230
 t53:=Tryz.underlying232
 a53:=Tryz.isAgg232
 z53:=Tryz.sizeOf232
 v53:=Tryz.zeroValue232
 t131:=Tryz.underlying227
 a131:=Tryz.isAgg227
 z131:=Tryz.sizeOf227
 v131:=Tryz.zeroValue227
 t182:=Tryz.underlying222
 a182:=Tryz.isAgg222
 z182:=Tryz.sizeOf222
 v182:=Tryz.zeroValue222
 t183:=Tryz.underlying223
 a183:=Tryz.isAgg223
 z183:=Tryz.sizeOf223
 v183:=Tryz.zeroValue223
 t218:=Tryz.underlying239
 a218:=Tryz.isAgg239
 z218:=Tryz.sizeOf239
 v218:=Tryz.zeroValue239
 t222:=Tryz.underlying243
 a222:=Tryz.isAgg243
 z222:=Tryz.sizeOf243
 v222:=Tryz.zeroValue243
 t228:=Tryz.underlying245
 a228:=Tryz.isAgg245
 z228:=Tryz.sizeOf245
 v228:=Tryz.zeroValue245
 t229:=Tryz.underlying236
 a229:=Tryz.isAgg236
 z229:=Tryz.sizeOf236
 v229:=Tryz.zeroValue236}
open Go.Sort Go.RowKit in
theorem Tryz.slices_Sort_int(blk off cap:Nat)(zs:List Int)(w:World)(hH:Holds (Value.int .i64) w blk off zs.toArray)(hblk:blk<w.heap.size)(hsz:zs.length<4611686018427387904):
  Calls Tryz.prog 74 #[.slice (some ⟨blk,off,none⟩) zs.length cap] w λe w'=>
   e=.returned (.tuple #[])∧∃n os,w'=grow (putRow (Value.int .i64) (Sort.ahead w n) blk off (zs.mergeSort λx y=>decide (x≤y)).toArray) os:=Any.slices_Sort_int Tryz.lays189 blk off cap zs w hH hblk hsz
def Tryz.laysNm220_ren:Go.Shelf.Ren:=⟨fun|20=>75|n=>n,fun|22=>51|3=>3|4=>4|0=>0|n=>n,fun|n=>n⟩
theorem Tryz.laysNm220:Go.Proofs.Lays2.n20 Tryz.prog Tryz.laysNm220_ren:={
 mixed:=by kernel_rfl
 f20:=Tryz.func75.trans (congrArg some (by kernel_rfl))
 t0:=Tryz.underlying0
 a0:=Tryz.isAgg0
 z0:=Tryz.sizeOf0
 v0:=Tryz.zeroValue0
 t3:=Tryz.underlying3
 a3:=Tryz.isAgg3
 z3:=Tryz.sizeOf3
 v3:=Tryz.zeroValue3
 t4:=Tryz.underlying4
 a4:=Tryz.isAgg4
 z4:=Tryz.sizeOf4
 v4:=Tryz.zeroValue4
 t22:=Tryz.underlying51
 a22:=Tryz.isAgg51
 z22:=Tryz.sizeOf51
 v22:=Tryz.zeroValue51
 i3:=by kernel_rfl}
open Go.RowKit Go.Lib Go.Sort in
theorem Tryz.slices_Compact_int(blk off cap:Nat)(zs:List Int)(w:World)(hH:Holds (Value.int .i64) w blk off zs.toArray)(hsz:zs.length≤9223372036854775807)(hcap:zs.length≤cap):
  Calls Tryz.prog 75 #[.slice (some ⟨blk,off,none⟩) zs.length cap] w λe w'=>e=.returned (.slice (some ⟨blk,off,none⟩) (Lib.compact zs).length cap)∧∃q,w'=putRow (Value.int .i64) (Sort.ahead w q) blk off (Lib.compact zs++List.replicate (zs.length-(Lib.compact zs).length) 0).toArray:=Any.slices_Compact_int Tryz.laysNm220 blk off cap zs w hH hsz hcap
open Go.RowKit Go.Lib Go.Sort in
theorem Tryz.slices_Compact_int_empty(a:Option Addr)(cap:Nat)(w:World):
  Calls Tryz.prog 75 #[.slice a 0 cap] w λe w'=>e=.returned (.slice a 0 cap)∧w'=w:=Any.slices_Compact_int_empty Tryz.laysNm220 a cap w
open Go.RowKit Go.Sort in
theorem Tryz.slices_Sort_int_none(p:Option Addr)(cap:Nat)(w:World):
  Calls Tryz.prog 74 #[.slice p 0 cap] w λe w'=>e=.returned (.tuple #[])∧w'=w:=Any.slices_Sort_int_none Tryz.lays189 p cap w
end Go.Proofs
end
section
namespace Go.Proofs.YtdnpdghlggbklaaGreatDoor
open Go.ChangeShapes Go.WideShapes Go.ChangeAt Go.RowKit
theorem elemI:Elem Tryz.prog 51 3 (.int .i64 0) 1 8:=elem_mk Tryz.underlying51 (by kernel_rfl) rfl ZN
set_option maxHeartbeats 1000000 in
set_option maxRecDepth 100000 in
theorem cloneI_any(A:Option Addr)(n c:Nat)(xs:List Value)(w:World)(hf:Flat w 1 A n xs)(h1:∀x∈xs,x.oneCell'=true)(hn:n*8≤140737488355328)(hA:A=none→n=0):
  Calls Tryz.prog 81 #[.slice A n c] w λe w'=>∃v,e=.returned v∧w'.ownsRow w.heap.size 3 1 v n xs∧Below w.heap.size w w':=by
 have HF:=Lib.hid hf;have H1:=Lib.hid h1;clear hf h1;have heq:=λ(W:World) (a:Option Addr) (l c:Nat)=>Lib.run_eql_slice_nil (P:=Tryz.prog) W 51 3 a l c 0 0 Tryz.underlying51;cases A with
 |none=>
  obtain rfl:n=0:=hA rfl;have hx:xs=[]:=YV (by have:=HF.out.1;simpa using this);have Hx:=Lib.hid hx;clear hx HF H1
  go_enter Tryz.func81,Tryz.ntmps81
  go_wp2_with fail
  go_ret
  exact⟨_,rfl,by rw[Hx.out];exact Zp _ _ _ _,Below.refl _ _⟩
 |some a=>
  clear hA;have M0:Hid ((w.alloc (.cells #[] 3)).ownsRow w.heap.size 3 1 (.slice (some ⟨w.heap.size,0,none⟩) 0 0) 0 []):=Lib.hid (Zl w #[] 0 (X7 _) (by simp[maxLen]) ZM)
  go_enter Tryz.func81,Tryz.ntmps81
  go_wp2_with (at_builtin;go_must (refine wpList_app rfl (.tmp 5) (.tmp 6) rfl elemI w.heap.size _ 0 [] rfl M0.out (some a) n c xs rfl (HF.out.kept ((Below.refl _ _).alloc (X7 _) _)) H1.out (by simp only[maxLen];omega) ZJ ZM ?_);intro v1 w1 hown1 hg1)
  have hb1:=((Below.refl w.heap.size w).alloc (X7 _) _).grown hg1 ZM (own_from M0.out)
  go_wp2_with fail
  go_ret
  exact⟨_,rfl,by simpa using hown1,hb1⟩
end Go.Proofs.YtdnpdghlggbklaaGreatDoor
end
section
namespace Go.Proofs.YtdnpdghlggbklaaGreatDoor
open Go.ChangeShapes Go.WideShapes Go.ChangeAt Go.RowKit
set_option maxRecDepth 100000
theorem append_zero(t ty e:TypeId)(P:Program)(w:World)(ht:P.underlying t=some (.slice e))(hi:∃i,P.info? e=some i)(A B:Option Addr)(c:Nat):(Builtin.append_ #[t,t] ty #[.slice A 0 0,.slice B 0 c]).run P w=.ok (.slice A 0 0) w:=by obtain⟨i,hi⟩:=hi;cases A<;>cases B<;>simp[Builtin.append_,run_underlying ht,sizeOf,typeInfo,hi,Builtin.lenOf,Builtin.firstCells,loadCells,loadCellsFrom,storeCells]
theorem cloneI_zero(A:Option Addr)(c:Nat)(w:World):Calls Tryz.prog 81 #[.slice A 0 c] w λe w'=>∃B,e=.returned (.slice B 0 0)∧Below w.heap.size w w':=by
 have heq:=λ(W:World) (a:Option Addr) (l c:Nat)=>Lib.run_eql_slice_nil (P:=Tryz.prog) W 51 3 a l c 0 0 Tryz.underlying51;cases A with
 |none=>
  go_enter Tryz.func81,Tryz.ntmps81
  go_wp2_with fail
  go_ret
  exact⟨_,rfl,Below.refl _ _⟩
 |some a=>
  have hinf:∃i,Tryz.prog.info? 3=some i:=Option.isSome_iff_exists.1 (show(Tryz.prog.info? 3).isSome=true by kernel_rfl);have happ:=λ(W:World) (ty:TypeId) (A B:Option Addr)=>append_zero 51 ty 3 Tryz.prog W Tryz.underlying51 hinf A B c
  go_enter Tryz.func81,Tryz.ntmps81
  go_wp2_with fail
  go_ret
  exact⟨_,rfl,(Below.refl _ _).alloc (X7 _) _⟩
end Go.Proofs.YtdnpdghlggbklaaGreatDoor
end
namespace Go.Proofs.YtdnpdghlggbklaaGreatDoor.Am
section
open Go.RowKit Go.Sort
def AT(l:List Int):List Int:=l.mergeSort λx y=>decide (x≤y)
theorem rt(l:List Int):(AT l).length=l.length:=by simp[AT]
theorem J2{xs:List Int}{i:Nat}{r:List AV}(h:(xs.map aj)[i]? =some r):∃x,xs[i]? =some x∧r=[.int .i64 x]:=by
 rw[Ym]at h;cases hx:xs[i]? with
 |none=>rw[hx]at h;cases h
 |some x=>rw[hx]at h;cases h;exact⟨x,rfl,rfl⟩
theorem J3{P:Program}{f:FuncId}(hbody:∃fn c,P.funcs[f]? =some fn∧fn.body=some c)(b:Nat)(xs ys:List Int)(hlen:ys.length=xs.length)(v:AV)(ret:Addr→Nat→Value)
  (hrep:∀(w':World) (σ:bD) (T:Nat→Prop) (pl:cv) (a:Addr) (cap:Nat),σ b=some pl→pl.ok→xs.length≤cap→cap≤maxLen→(0<cap→a=⟨pl.block,pl.base+0*pl.size,none⟩∧∃cs e,w'.heap[pl.block]? =some (.cells cs e (0,0))∧pl.base+(0+cap)*pl.size≤cs.size)→bb w' σ T v (ret a cap))
  (hpos:∀(blk off cap:Nat) (w:World),Holds (Value.int .i64) w blk off xs.toArray→blk<w.heap.size→xs.length≤cap→Calls P f #[.slice (some ⟨blk,off,none⟩) xs.length cap] w λe w'=>e=.returned (ret ⟨blk,off,none⟩ cap)∧∃n os,w'=grow (putRow (Value.int .i64) (Sort.ahead w n) blk off ys.toArray) os)
  (hzero:xs.length=0→∀(a:Addr) (cap:Nat) (w:World),Calls P f #[.slice (some a) 0 cap] w λe w'=>e=.returned (ret a cap)∧w'=w) :
  af P f [.sl b 0 xs.length] [(b,⟨1,xs.map aj⟩)] λu L=>u=v∧L=[(b,⟨1,ys.map aj⟩)]:=by
 refine⟨hbody,λH hb hs=>⟨v,H.put b (some ⟨1,ys.map aj⟩),[(b,⟨1,ys.map aj⟩)],?_,?_,rfl,rfl⟩⟩
 ·intro w σ vs hW hvs;obtain⟨v,rfl,hv⟩:=MS hvs;obtain⟨pl,a,cap,rfl,hsg,hnc,hmx,ha⟩:=hv.sl_inv;have hg:H.get b=some ⟨1,xs.map aj⟩:=hs.get (b,⟨1,xs.map aj⟩) ZM;obtain⟨pl',cs,e,g1,g2⟩:=hW.live b _ hg;rw[hsg]at g1;cases g1;replace g2:=g2.1 (hv.sl_ok hsg);have hsz:pl.size=1:=g2.size;rcases Y0 xs.length with h0|h0
  ·have hx:xs=[]:=Y5.1 h0;have hy:ys=[]:=Y5.1 ZJ;have hz:=hzero h0 a cap w;rw[h0];refine hz.mono ?_;rintro e' w' ⟨rfl,rfl⟩;have hput:=hW.put hg hsg (md.refl g2.block) (x':=⟨1,ys.map aj⟩) g2.size.symm (by simp[hy]) (by simpa[hy,hx]using g2.room) (by simp[hy]);exact⟨_,σ,rfl,hrep _ _ _ pl a cap hsg (hv.sl_ok hsg) hnc hmx ha,hput.1,hput.2,λc pl hc=>.inl hc⟩
  ·have ha':=ha;obtain⟨rfl,cs',te,hcs',hroom⟩:=ha ZJ;rw[g2.block]at hcs';cases hcs';have hr:=g2.room;simp only[Y9,Nat.mul_one]at hr;have hcell:∀(i:Nat) (x:Int),xs[i]? =some x→cs[pl.base+i]? =some (.int .i64 x):=λi x hx=>by
    have hi:=aB hx;have hi':pl.base+i<cs.size:=by omega
    have:=g2.rep i [.int .i64 x] 0 (.int .i64 x) cs[pl.base+i] (by simp[hx,aj]) rfl (by simp[YA hi']);cases hq:cs[pl.base+i]with
    |_=>rw[hq]at this;cases this<;>rw[YA hi',hq]
   have hH:Holds (Value.int .i64) w pl.block (pl.base+0*pl.size) xs.toArray:=λj hj=>by
    have hj':j<xs.length:=by simpa using hj
    refine⟨?_,by simp[World.frozen?,g2.block]⟩;have:=hcell j xs[j] (X6 hj');simp[World.cell?,g2.block,this,hj']
   refine(hpos pl.block (pl.base+0*pl.size) cap w hH (hW.lt b pl hsg) hnc).mono ?_;rintro e' w' ⟨rfl,n,os,rfl⟩;have hz:pl.base+0*pl.size=pl.base:=by omega
   rw[show putRow (Value.int .i64) (Sort.ahead w n) pl.block (pl.base+0*pl.size) ys.toArray=putRow (Value.int .i64) (Sort.ahead w n) pl.block pl.base ys.toArray by rw[hz]];have hw:md w (putRow (Value.int .i64) (Sort.ahead w n) pl.block pl.base ys.toArray) pl.block cs (putCells (Value.int .i64) pl.base ys.toArray cs) e:=
    ⟨rfl,rfl,rfl,by simp[Sort.ahead],g2.block,by simp[putRow,mapBlock,Sort.ahead,Array.getElem?_modify,g2.block,onCells],by simp[putCells],λd hd=>by
     have:pl.block≠d:=λe=>hd e.symm
     simp[putRow,mapBlock,Sort.ahead,Array.getElem?_modify,this]⟩
   obtain⟨p1,p2⟩:=hW.put hg hsg hw (x':=⟨1,ys.map aj⟩) g2.size.symm (λi r hr=>by obtain⟨x,_,rfl⟩:=J2 hr;rfl) (by simp only[Y9,Nat.mul_one];omega) (λi r j a u hr hj hu=>by
    obtain⟨x,hx,rfl⟩:=J2 hr
    match j,hj with
    |0,hj=>
     cases hj;have hi:=aB hx;have hi':pl.base+i<cs.size:=by omega
     simp only[Nat.mul_one,Zy]at hu;have:(putCells (Value.int .i64) pl.base ys.toArray cs)[pl.base+i]? =some (.int .i64 x):=by
      have hx':ys[i]=x:=by rw[X6 hi]at hx;exact ZE hx
      simp[putCells,hi',hi,hx']
     rw[this]at hu;cases hu;exact .int _ _
    |j+1,hj=>simp at hj)
   generalize hw1:putRow (Value.int .i64) (Sort.ahead w n) pl.block pl.base ys.toArray=w1 at p1 p2;have hbl:Below w1.heap.size w1 (grow w1 os):=⟨rfl,rfl,rfl,by simp[grow],λk hk=>heap_grow_old _ _ hk⟩;have hE:=p2.trans (jt hbl λc hc=>(p1.apart c hc).1);exact⟨_,σ,rfl,hrep _ _ _ pl _ cap hsg (hv.sl_ok hsg) hnc hmx (λh=>⟨rfl,by obtain⟨cs2,k1,k2⟩:=hE.shape _ _ _ g2.block;exact⟨cs2,_,k1,ZJ⟩⟩),AI p1 hbl,p2.trans (jt hbl λc hc=>(p1.apart c hc).1),λc pl hc=>.inl hc⟩
 ·have hg:H.get b=some ⟨1,xs.map aj⟩:=hs.get (b,⟨1,xs.map aj⟩) ZM;refine⟨X7 _,λc hc=>?_,⟨ZM,λp hp=>?_⟩,λc x hc hn=>⟨?_,?_⟩,λc hc h0=>?_,λc hc hlt=>?_⟩
  ·rw[ac.get_put,if_neg];exact hb c hc;rintro rfl;rw[hb _ hc]at hg;cases hg
  ·simp only[Ye]at hp;subst hp;rw[ac.get_put,if_pos rfl]
  ·rw[ac.get_put,if_neg];exact hc;rintro rfl;exact hn ZM
  ·simpa using hn
  ·rw[ac.get_put,if_neg];exact h0;rintro rfl;rw[hg]at h0;cases h0
  ·simpa using hc
theorem MX(b:Nat)(xs:List Int)(hl:xs.length<4611686018427387904):af Tryz.prog 74 [.sl b 0 xs.length] [(b,⟨1,xs.map aj⟩)] λv L=>v=.tup []∧L=[(b,⟨1,(AT xs).map aj⟩)]:=
 J3 ⟨_,_,Tryz.func74,rfl⟩ b xs (AT xs) (rt xs) (.tup []) (λ_ _=>.tuple #[]) (λ_ _ _ _ _ _ _ _ _ _ _=>.tup [] [] rfl ZM)
  (λblk off cap w hH hblk _=>Tryz.slices_Sort_int blk off cap xs w hH hblk hl) (λ_ a cap w=>Tryz.slices_Sort_int_none (some a) cap w)
theorem qj(l:List Int):(Lib.compact l).length≤l.length:=by unfold Lib.compact Lib.compactUpTo;rw[Y9];exact Yn (Zb _ _) ZM
theorem EE(b:Nat)(xs:List Int)(hl:xs.length≤9223372036854775807):af Tryz.prog 75 [.sl b 0 xs.length] [(b,⟨1,xs.map aj⟩)] λv L=>v=.sl b 0 (Lib.compact xs).length∧L=[(b,⟨1,(Lib.compact xs++List.replicate (xs.length-(Lib.compact xs).length) 0).map aj⟩)]:=
 J3 ⟨_,_,Tryz.func75,rfl⟩ b xs _ (by have:=qj xs;simp;omega) (.sl b 0 (Lib.compact xs).length) (λa cap=>.slice (some a) (Lib.compact xs).length cap)
  (λw_ σ T pl a cap h1 h0 h2 h3 h4=>.sl b 0 _ pl a cap h1 h0 (Yn (qj xs) h2) h3 h4)
  (λblk off cap w hH hblk hcap=>(Tryz.slices_Compact_int blk off cap xs w hH hl hcap).mono λe w' ⟨h1,q,h2⟩=>⟨h1,q,#[],by rw[h2,grow_empty]⟩)
  (λh0 a cap w=>by
   have hx:xs=[]:=Y5.1 h0;subst hx;exact Tryz.slices_Compact_int_empty (some a) cap w)
theorem Hl(xs:List Int)(hl:xs.length*8≤140737488355328):af Tryz.prog 81 [.lst (xs.map aj)] [] λv L=>∃o,v=ao o xs.length∧L=ae o 1 (xs.map aj)∧(o=none→xs=[]):=by
 rcases List.eq_nil_or_concat xs with rfl|⟨ys,y,hxs⟩
 ·exact(Lz cloneI_zero ⟨_,_,Tryz.func81,rfl⟩).mono λv L ⟨h1,h2⟩=>⟨none,h1,h2,λ_=>rfl⟩
 ·have hne:xs.map aj≠[]:=by rw[hxs];simp
  refine(Ew (λA n c xs w hf h1 hn hA=>cloneI_any A n c xs w hf h1 hn hA) ⟨_,_,Tryz.func81,rfl⟩ (xs.map aj) hne (by simp[aj,AV.one]) (λr hr=>by obtain⟨x,_,rfl⟩:=YH.1 hr;rfl) (by simpa using hl)).mono ?_;rintro v L ⟨b,rfl,rfl⟩;exact⟨some b,by simp[ao],rfl,λh=>by cases h⟩
end
end Go.Proofs.YtdnpdghlggbklaaGreatDoor.Am
section
namespace Go.Proofs.YtdnpdghlggbklaaGreatDoor
open Go.ChangeShapes Go.WideShapes Go.ChangeAt Go.RowKit
theorem elemB:Elem Tryz.prog 39 4 (.bool false) 1 1:=elem_mk Tryz.underlying39 (by kernel_rfl) rfl ZN
set_option maxHeartbeats 1000000 in
set_option maxRecDepth 100000 in
theorem cloneB_any(A:Option Addr)(n c:Nat)(xs:List Value)(w:World)(hf:Flat w 1 A n xs)(h1:∀x∈xs,x.oneCell'=true)(hn:n*1≤140737488355328)(hA:A=none→n=0):
  Calls Tryz.prog 110 #[.slice A n c] w λe w'=>∃v,e=.returned v∧w'.ownsRow w.heap.size 4 1 v n xs∧Below w.heap.size w w':=by
 have HF:=Lib.hid hf;have H1:=Lib.hid h1;clear hf h1;have heq:=λ(W:World) (a:Option Addr) (l c:Nat)=>Lib.run_eql_slice_nil (P:=Tryz.prog) W 39 4 a l c 0 0 Tryz.underlying39;cases A with
 |none=>
  obtain rfl:n=0:=hA rfl;have hx:xs=[]:=YV (by have:=HF.out.1;simpa using this);have Hx:=Lib.hid hx;clear hx HF H1
  go_enter Tryz.func110,Tryz.ntmps110
  go_wp2_with fail
  go_ret
  exact⟨_,rfl,by rw[Hx.out];exact Zp _ _ _ _,Below.refl _ _⟩
 |some a=>
  clear hA;have M0:Hid ((w.alloc (.cells #[] 4)).ownsRow w.heap.size 4 1 (.slice (some ⟨w.heap.size,0,none⟩) 0 0) 0 []):=Lib.hid (Zl w #[] 0 (X7 _) (by simp[maxLen]) ZM)
  go_enter Tryz.func110,Tryz.ntmps110
  go_wp2_with (at_builtin;go_must (refine wpList_app rfl (.tmp 5) (.tmp 6) rfl elemB w.heap.size _ 0 [] rfl M0.out (some a) n c xs rfl (HF.out.kept ((Below.refl _ _).alloc (X7 _) _)) H1.out (by simp only[maxLen];omega) ZJ ZM ?_);intro v1 w1 hown1 hg1)
  have hb1:=((Below.refl w.heap.size w).alloc (X7 _) _).grown hg1 ZM (own_from M0.out)
  go_wp2_with fail
  go_ret
  exact⟨_,rfl,by simpa using hown1,hb1⟩
end Go.Proofs.YtdnpdghlggbklaaGreatDoor
end
namespace Go.Proofs.YtdnpdghlggbklaaGreatDoor.Am
section
open Go.RowKit
theorem NO(xs:List Bool)(hl:xs.length≤140737488355328):af Tryz.prog 110 [.lst (xs.map bj)] [] λv L=>∃o,v=aS o xs.length∧L=ae o 1 (xs.map bj)∧(o=none→xs=[]):=by refine(fZ (λA n c xs w hf h1 hn hA=>cloneB_any A n c xs w hf h1 hn hA) ⟨_,_,Tryz.func110,rfl⟩ (xs.map bj) (by simp[bj,AV.one]) (λr hr=>by obtain⟨x,_,rfl⟩:=YH.1 hr;rfl) (by simpa using hl)).mono ?_;rintro v L ⟨o,rfl,rfl,h⟩;exact⟨o,ZM,rfl,λe=>by simpa using h e⟩
end
end Go.Proofs.YtdnpdghlggbklaaGreatDoor.Am
section
namespace Go.Proofs.YtdnpdghlggbklaaGreatDoor
open Go.ChangeShapes Go.WideShapes Go.ChangeAt Go.RowKit
theorem elemT:Elem Tryz.prog 40 66 (.agg #[.int .i64 0,.int .i64 0,.bool false]) 3 24:=elem_mk Tryz.underlying40 (by kernel_rfl) rfl ZN
set_option maxHeartbeats 1000000 in
set_option maxRecDepth 100000 in
theorem cloneT_any(A:Option Addr)(n c:Nat)(xs:List Value)(w:World)(hf:Flat w 3 A n xs)(h1:∀x∈xs,x.oneCell'=true)(hn:n*24≤140737488355328)(hA:A=none→n=0):
  Calls Tryz.prog 111 #[.slice A n c] w λe w'=>∃v,e=.returned v∧w'.ownsRow w.heap.size 66 3 v n xs∧Below w.heap.size w w':=by
 have HF:=Lib.hid hf;have H1:=Lib.hid h1;clear hf h1;have heq:=λ(W:World) (a:Option Addr) (l c:Nat)=>Lib.run_eql_slice_nil (P:=Tryz.prog) W 40 66 a l c 0 0 Tryz.underlying40;cases A with
 |none=>
  obtain rfl:n=0:=hA rfl;have hx:xs=[]:=YV (by have:=HF.out.1;simpa using this);have Hx:=Lib.hid hx;clear hx HF H1
  go_enter Tryz.func111,Tryz.ntmps111
  go_wp2_with fail
  go_ret
  exact⟨_,rfl,by rw[Hx.out];exact Zp _ _ _ _,Below.refl _ _⟩
 |some a=>
  clear hA;have M0:Hid ((w.alloc (.cells #[] 66)).ownsRow w.heap.size 66 3 (.slice (some ⟨w.heap.size,0,none⟩) 0 0) 0 []):=Lib.hid (Zl w #[] 0 (X7 _) (by simp[maxLen]) ZM)
  go_enter Tryz.func111,Tryz.ntmps111
  go_wp2_with (at_builtin;go_must (refine wpList_app rfl (.tmp 5) (.tmp 6) rfl elemT w.heap.size _ 0 [] rfl M0.out (some a) n c xs rfl (HF.out.kept ((Below.refl _ _).alloc (X7 _) _)) H1.out (by simp only[maxLen];omega) ZJ ZM ?_);intro v1 w1 hown1 hg1)
  have hb1:=((Below.refl w.heap.size w).alloc (X7 _) _).grown hg1 ZM (own_from M0.out)
  go_wp2_with fail
  go_ret
  exact⟨_,rfl,by simpa using hown1,hb1⟩
end Go.Proofs.YtdnpdghlggbklaaGreatDoor
end
namespace Go.Proofs.YtdnpdghlggbklaaGreatDoor.Am
section
open Go.RowKit
theorem Hm(xs:List ThrD)(hl:xs.length*24≤140737488355328):af Tryz.prog 111 [.lst (xs.map ThrD.enc)] [] λv L=>∃o,v=aS o xs.length∧L=ae o 3 (xs.map ThrD.enc)∧(o=none→xs=[]):=by refine(fZ (λA n c xs w hf h1 hn hA=>cloneT_any A n c xs w hf h1 hn hA) ⟨_,_,Tryz.func111,rfl⟩ (xs.map ThrD.enc) (by simp[ThrD.enc,AV.one]) (λr hr=>by obtain⟨x,_,rfl⟩:=YH.1 hr;rfl) (by simpa using hl)).mono ?_;rintro v L ⟨o,rfl,rfl,h⟩;exact⟨o,ZM,rfl,λe=>by simpa using h e⟩
end
end Go.Proofs.YtdnpdghlggbklaaGreatDoor.Am
section
namespace Go.Proofs.YtdnpdghlggbklaaGreatDoor
open Go.ChangeShapes Go.WideShapes Go.ChangeAt Go.RowKit
theorem elemJ:Elem Tryz.prog 43 2 (.int .i64 0) 1 8:=elem_mk Tryz.underlying43 (by kernel_rfl) rfl ZN
set_option maxHeartbeats 1000000 in
set_option maxRecDepth 100000 in
theorem cloneJ_any(A:Option Addr)(n c:Nat)(xs:List Value)(w:World)(hf:Flat w 1 A n xs)(h1:∀x∈xs,x.oneCell'=true)(hn:n*8≤140737488355328)(hA:A=none→n=0):
  Calls Tryz.prog 80 #[.slice A n c] w λe w'=>∃v,e=.returned v∧w'.ownsRow w.heap.size 2 1 v n xs∧Below w.heap.size w w':=by
 have HF:=Lib.hid hf;have H1:=Lib.hid h1;clear hf h1;have heq:=λ(W:World) (a:Option Addr) (l c:Nat)=>Lib.run_eql_slice_nil (P:=Tryz.prog) W 43 2 a l c 0 0 Tryz.underlying43;cases A with
 |none=>
  obtain rfl:n=0:=hA rfl;have hx:xs=[]:=YV (by have:=HF.out.1;simpa using this);have Hx:=Lib.hid hx;clear hx HF H1
  go_enter Tryz.func80,Tryz.ntmps80
  go_wp2_with fail
  go_ret
  exact⟨_,rfl,by rw[Hx.out];exact Zp _ _ _ _,Below.refl _ _⟩
 |some a=>
  clear hA;have M0:Hid ((w.alloc (.cells #[] 2)).ownsRow w.heap.size 2 1 (.slice (some ⟨w.heap.size,0,none⟩) 0 0) 0 []):=Lib.hid (Zl w #[] 0 (X7 _) (by simp[maxLen]) ZM)
  go_enter Tryz.func80,Tryz.ntmps80
  go_wp2_with (at_builtin;go_must (refine wpList_app rfl (.tmp 5) (.tmp 6) rfl elemJ w.heap.size _ 0 [] rfl M0.out (some a) n c xs rfl (HF.out.kept ((Below.refl _ _).alloc (X7 _) _)) H1.out (by simp only[maxLen];omega) ZJ ZM ?_);intro v1 w1 hown1 hg1)
  have hb1:=((Below.refl w.heap.size w).alloc (X7 _) _).grown hg1 ZM (own_from M0.out)
  go_wp2_with fail
  go_ret
  exact⟨_,rfl,by simpa using hown1,hb1⟩
end Go.Proofs.YtdnpdghlggbklaaGreatDoor
end
namespace Go.Proofs.YtdnpdghlggbklaaGreatDoor.Am
section
set_option maxRecDepth 100000
def EF(Q:R)(b:Kn)(c d e f g:AV)(a:SH):Prop:=W.un .not g λh=>wk h (Q (.bool false) a) (wb .add 3 c (.ZO 1) λi=>b [d,e,f,i] a)
def EG(Q:R)(f:Kn)(b:SH)(c d e g:AV):Prop:=ma 2 c d b λh=>rE [(.str []),(.ZO 0)] 2 h b λi a=>aC 1 i a λj=>aC 1 e a λk=>W.len k λl=>wc (.fn 47 []) [j,l] a (EF Q f d e c g)
def qk(Q:R)(d:Vs)(a:SH)(e:Kn):Prop:=ug 2 33 34 35 d λf g b c=>wb .lss 3 c b λh=>wk h ((EG Q e a g c f b)) (Q (.bool true) a)
def tJ(l m:AV)(L:SH)(Q:R):Prop:=W.box l L λn o=>W.box m o λp q=>W.frz1 n q λc r=>W.frz1 p r λd e=>aC 0 d e λs=>W.len s λt=>aC 1 c e λu=>W.len u λv=>wb .neq 3 t v λa=>wg a false (W.faddr 2 d) e λw g=>wg a false (wl w g) g λx y=>wg a false (W.len x) y λz A=>wg a false (W.faddr 3 c) A λB h=>wg a false (wl B h) h λC D=>wg a false (W.len C) D λE F=>wg a false (wb .neq 3 z E) F λG H=>W.pick a (.bool true) G λb=>wg b false (W.faddr 3 d) H λI i=>wg b false (wl I i) i λJ M=>wg b false (W.len J) M λN O=>wg b false (W.faddr 4 c) O λP j=>wg b false (wl P j) j λS T=>wg b false (W.len S) T λU V=>wg b false (wb .neq 3 N U) V λX f=>W.pick b (.bool true) X λY=>wk Y (Q (.bool false) f) (aC 2 c f λk=>W.len k λZ=>W.loop (qk Q) [c,k,Z,(.ZO 0)] f)
theorem EH(t0 t1:AV)(L:SH)(Q:R)(h:tJ t0 t1 L Q):af Tryz.prog 46 [t0,t1] L Q:=
 fs [] [(4,[2,33,34,35])] [(0,[2,3]),(5,[6])] [] Tryz.func46 h
def CV(d:Kn)(a:SH)(b c e f:AV):Prop:=aC 0 b a λg=>W.idx 2 g c a λh=>W.faddr 0 h λi=>W.store 1 i (.ZO (-1)) a λj=>wb .add 3 c (.ZO 1) λk=>d [e,b,f,k] j
def CW(Q:R)(a:SH)(b c:AV):Prop:=aC 3 b a λf=>W.idx 3 f (.ZO 0) a λg=>W.faddr 0 g λh=>W.store 1 h (.ZO 1) a λd=>cp 4 b d λi=>W.store 4 c i d λe=>W.load true 4 c e λj=>Q j e
def CX(Q:R)(a:SH)(b c:AV):Prop:=aC 3 b a λe=>W.len e λf=>wb .gtr 3 f (.ZO 0) λg=>wk g ((CW Q a b c)) (cp 4 b a λh=>W.store 4 c h a λd=>W.load true 4 c d λi=>Q i d)
def oD(Q:R)(f:Vs)(a:SH)(g:Kn):Prop:=ug 2 3 20 21 f λb c d e=>wb .lss 3 e d λh=>wk h ((CV g a c e b d)) ((CX Q a c b))
def ql(r:AV)(L:SH)(Q:R):Prop:=W.box r L λs t=>W.alloc [.nils,(.ZO 0),.nils,.nils] t λu v=>W.frz1 s v λc g=>(true=true)∧(aN 1 c [] 1 g λw a=>W.len w λh=>W.calm [] ⟨3,[],[],[],false,[]⟩ (W.mslice 2 32 [(.ZO 0),.nils] h h g λi j=>wn [] [] (aa i) [] λb=>aN 3 c [rm 3 b,rm 1 a] 5 j λx d=>W.len x λk=>W.calm [rm 3 b,rm 1 a] ⟨7,[],[],[],false,[]⟩ (W.mslice 1 1 [(.bool false)] k k j λl m=>wn [] [] (aa l) [] λe=>aN 4 c [rm 7 e,rm 5 d,rm 3 b,rm 1 a] 9 m λy z=>W.len y λn=>W.calm [rm 7 e,rm 5 d,rm 3 b,rm 1 a] ⟨11,[],[],[],false,[]⟩ (W.mslice 3 24 [(.ZO 0),(.ZO 0),(.bool false)] n n m λo A=>wn [] [] (aa o) [] λB=>W.build [.nils,(.ZO 0),.nils,.nils] [(0,1,i),(1,1,(.ZO (-1))),(2,1,l),(3,1,o)] λC=>W.calm [rm 11 B,rm 9 z,rm 7 e,rm 5 d,rm 3 b,rm 1 a] ⟨13,[],[],[],false,[]⟩ (W.alloc [.nils,(.ZO 0),.nils,.nils] A λf D=>wn [] [] (aa f) [] λH=>ds [] 14 4 f C D λE I=>W.frz1 f E λp q=>aC 0 p q λF=>W.len F λG=>W.loop (oD Q) [u,p,G,(.ZO 0)] q)))))
theorem CY(t0:AV)(L:SH)(Q:R)(h:ql t0 L Q):af Tryz.prog 71 [t0] L Q:=
 fs [] [(3,[2,3,20,21])] [(0,[1]),(1,[3])] [(1,[0,1,3,7,0,16,48,112,0,256,768,1792,4095,0,16383])] Tryz.func71 h
def xT(Q:R)(c:SH)(l m v w:AV):Prop:=(true=true)∧(aN 0 m [] 1 c λx d2=>wb .eql 3 x (.ZO 4) λb=>W.dgrd b true (λy=>W.faddr 1 m λz=>y z c rz) c λA d d3=>W.dgrd b true (λB=>dl [] 5 A d λC D=>B C d D) d λE n d4=>W.dgrd b true (λF=>F l n rz) n λG o d5=>W.dgrd b true (λH=>wb .eql 3 E G λI=>H I o rz) o λJ p d6=>W.pick b J (.bool false) λa=>W.dgrd a true (λM=>W.faddr 0 v λN=>M N p rz) p λO e d7=>W.dgrd a true (λP=>dl [] 11 O e λS T=>P S e T) e λU q f=>W.dgrd a true (λV=>W.faddr 2 w λX=>V X q rz) q λY g d8=>W.dgrd a true (λZ=>dl [rm 11 f] 13 Y g λa0 a1=>Z a0 g a1) g λa2 r d9=>W.dgrd a true (λa3=>a3 l r rz) r λa4 h e0=>W.dgrd a true (λa5=>di [rm 11 f] 15 2 a2 a4 h λa6 a7=>a5 a6 h a7) h λa8 s e1=>W.dgrd a true (λa9=>W.faddr 1 a8 λb0=>a9 b0 s rz) s λb1 i e2=>W.dgrd a true (λb2=>dl [rm 11 f] 17 b1 i λb3 b4=>b2 b3 i b4) i λb5 j e3=>W.dgrd a true (λb6=>di [] 18 2 U b5 j λb7 b8=>b6 b7 j b8) j λb9 t e4=>W.dgrd a true (λc0=>W.faddr 0 b9 λc1=>c0 c1 t rz) t λc2 k e5=>W.dgrd a true (λc3=>dl [] 20 c2 k λc4 c5=>c3 c4 k c5) k λc6 u e6=>W.dgrd a true (λc7=>wb .eql 3 c6 (.ZO (-1)) λc8=>c7 c8 u rz) u λc9 d0 e7=>W.pick a c9 (.bool false) λd1=>Q d1 d0)
def xU(Q:R)(b:SH)(e f g h i j:AV):Prop:=aC 0 h b λk=>wb .eql 3 k (.ZO 2) λa=>wg a true (cp 6 i b) b λl c=>wg a true (cp 4 j c) c λm n=>bJ a true e n λo p=>bJ a true f p λq r=>bJ a true g r λs d=>W.grd a true (λt=>wc (.fn 49 []) [l,m,o,q,s] d λu v=>t u v) d λw x=>W.pick a w (.bool false) λy=>Q y x
def xV(Q:R)(b:SH)(f c g d h:AV):Prop:=aC 3 d b λi=>ma 3 i f b λj=>rE [(.ZO 0),(.ZO 0),(.bool false)] 3 j b λe a=>wb .eql 3 c (.ZO 1) λk=>wk k (aC 0 e a λl=>wb .eql 3 l (.ZO 1) λm=>Q m a) (wb .eql 3 c (.ZO 17) λn=>wk n ((xT Q a g e d h)) ((xU Q a f c g e h d)))
def xW(Q:R)(d e f c l m:AV)(n:SH):Prop:=W.un .not m λa=>bJ a false d n λo p=>wg a false (W.faddr 4 c) p λq g=>wg a false (wl q g) g λr s=>wg a false (W.len r) s λt h=>W.grd a false (λu=>wc (.fn 47 []) [o,t] h λv w=>u v w) h λx y=>wg a false (W.un .not x) y λz i=>W.pick a (.bool true) z λb=>wg b false (cp 6 c i) i λA B=>bJ b false e B λC D=>bJ b false f D λE j=>W.grd b false (λF=>wc (.fn 48 []) [A,C,E] j λG H=>F G H) j λI J=>wg b false (W.un .not I) J λM k=>W.pick b (.bool true) M λN=>wk N (Q (.bool false) k) ((xV Q k d e f l c))
def mo(d e f g h:AV)(L:SH)(Q:R):Prop:=W.box d L λi j=>W.box e j λk l=>W.frz1 i l λb m=>W.frz1 k m λc a=>cp 6 b a λn=>cp 4 c a λo=>wc (.fn 46 []) [n,o] a (xW Q f g h b c)
theorem xX(t0 t1 t2 t3 t4:AV)(L:SH)(Q:R)(h:mo t0 t1 t2 t3 t4 L Q):af Tryz.prog 24 [t0,t1,t2,t3,t4] L Q:=
 fs [] [] [(0,[5,6]),(3,[11])] [(8,[0,1,3,7,15,31,15,127,255,511,1023,2047,1023,5119,1023,29695,62463,127999,262143,524287,1048575,2097151,4194303,8388607])] Tryz.func24 h
def xY(Q:R)(e f a:AV)(g:SH):Prop:=wg a true (W.faddr 1 e) g λh b=>wg a true (wl h b) b λi j=>bJ a true f j λk c=>wg a true (W.idx 2 i k c) c λl m=>wg a true (W.faddr 1 l) m λn d=>wg a true (wl n d) d λo p=>wg a true (W.un .not o) p λq r=>W.pick a q (.bool false) λs=>Q s r
def xZ(Q:R)(e f a:AV)(g:SH):Prop:=wg a true (W.faddr 1 e) g λh b=>wg a true (wl h b) b λi j=>bJ a true f j λk c=>wg a true (W.idx 2 i k c) c λl m=>wg a true (W.faddr 1 l) m λn d=>wg a true (wl n d) d λo p=>W.pick a o (.bool false) λq=>Q q p
def x7(Q:R)(b:Vs)(a:SH):Prop:=tI 2 3 79 b λc d e=>wk e (aC 3 d a λf=>W.len f λg=>wc (.fn 47 []) [c,g] a λh i=>Q h i) (Q (.bool false) a)
def x9(Q:R)(a:SH)(b c d:AV):Prop:=W.join (x7 Q) λe=>wb .eql 3 b (.ZO 22) λf=>wk f (e [c,d,f] a) (wb .eql 3 b (.ZO 23) λg=>e [c,d,g] a)
def ya(Q:R)(d:Vs)(a:SH):Prop:=ug 2 3 7 71 d λb c e f=>wk f (aC 4 c a λg=>W.len g λh=>wc (.fn 47 []) [b,h] a λi j=>Q i j) ((x9 Q a e b c))
def yb(Q:R)(b:SH)(a c d:AV):Prop:=W.join (ya Q) λe=>wb .eql 3 a (.ZO 20) λf=>wk f (e [c,d,a,f] b) (wb .eql 3 a (.ZO 21) λg=>e [c,d,a,g] b)
def yc(Q:R)(d:Vs)(a:SH):Prop:=ug 2 3 7 61 d λb c e f=>wk f (aC 2 c a λg=>W.len g λh=>wc (.fn 47 []) [b,h] a λi j=>Q i j) ((yb Q a e b c))
def yd(b:Kn)(c:SH)(a d e:AV):Prop:=wb .eql 3 a (.ZO 17) λf=>wk f (b [d,e,a,f] c) (wb .eql 3 a (.ZO 18) λg=>wk g (b [d,e,a,g] c) (wb .eql 3 a (.ZO 19) λh=>b [d,e,a,h] c))
def ye(Q:R)(b:SH)(a c d:AV):Prop:=W.join (yc Q) λe=>wb .eql 3 a (.ZO 16) λf=>wk f (e [c,d,a,f] b) ((yd e b a c d))
def yf(Q:R)(d:Vs)(a:SH):Prop:=ug 2 3 7 43 d λb c e f=>wk f (aC 1 c a λg=>W.len g λh=>wc (.fn 47 []) [b,h] a (xZ Q c b)) ((ye Q a e b c))
def yg(b:Kn)(c:SH)(a d e:AV):Prop:=wb .eql 3 a (.ZO 9) λf=>wk f (b [d,e,a,f] c) (wb .eql 3 a (.ZO 10) λg=>wk g (b [d,e,a,g] c) (wb .eql 3 a (.ZO 11) λh=>b [d,e,a,h] c))
def yh(Q:R)(b:SH)(a c d:AV):Prop:=W.join (yf Q) λe=>wb .eql 3 a (.ZO 8) λf=>wk f (e [c,d,a,f] b) ((yg e b a c d))
def yi(Q:R)(d:Vs)(a:SH):Prop:=ug 2 3 7 26 d λb c e f=>wk f (aC 1 c a λg=>W.len g λh=>wc (.fn 47 []) [b,h] a (xY Q c b)) ((yh Q a e b c))
def yj(Q:R)(b:SH)(a c d:AV):Prop:=W.join (yi Q) λe=>wb .eql 3 a (.ZO 6) λf=>wk f (e [c,d,a,f] b) (wb .eql 3 a (.ZO 7) λg=>e [c,d,a,g] b)
def yk(Q:R)(d:Vs)(a:SH):Prop:=ug 2 3 7 18 d λb c e f=>wk f (aC 0 c a λg=>W.len g λh=>wc (.fn 47 []) [b,h] a λi j=>Q i j) ((yj Q a e b c))
def yl(Q:R)(b:SH)(a c d:AV):Prop:=W.join (yk Q) λe=>wb .eql 3 a (.ZO 3) λf=>wk f (e [c,d,a,f] b) (wb .eql 3 a (.ZO 4) λg=>e [c,d,a,g] b)
def ym(Q:R)(c:Vs)(a:SH):Prop:=ug 2 3 7 8 c λb d e f=>wk f (wb .eql 3 b (.ZO (-1)) λg=>Q g a) ((yl Q a e b d))
def yn(b:Kn)(c:SH)(a d e:AV):Prop:=wb .eql 3 a (.ZO 13) λf=>wk f (b [d,e,a,f] c) (wb .eql 3 a (.ZO 14) λg=>wk g (b [d,e,a,g] c) (wb .eql 3 a (.ZO 15) λh=>b [d,e,a,h] c))
def yo(b:Kn)(c:SH)(a d e:AV):Prop:=wb .eql 3 a (.ZO 5) λf=>wk f (b [d,e,a,f] c) (wb .eql 3 a (.ZO 12) λg=>wk g (b [d,e,a,g] c) ((yn b c a d e)))
def mq(h a b:AV)(L:SH)(Q:R):Prop:=rF h L λc d=>W.join (ym Q) λe=>wb .eql 3 a (.ZO 1) λf=>wk f (e [b,c,a,f] d) (wb .eql 3 a (.ZO 2) λg=>wk g (e [b,c,a,g] d) ((yo e d a b c)))
theorem yp(t0 t1 t2:AV)(L:SH)(Q:R)(h:mq t0 t1 t2 L Q):af Tryz.prog 48 [t0,t1,t2] L Q:=
 fs [(8,[2,3,7,8]),(11,[2,3,7,18]),(14,[2,3,7,26]),(19,[2,3,7,43]),(24,[2,3,7,61]),(27,[2,3,7,71]),(30,[2,3,79])] [] [(0,[3])] [] Tryz.func48 h
def CZ(Q:R)(b:SH)(c d:AV):Prop:=aC 0 d b λh=>fb 2 0 h c b λi=>wb .eql 3 i (.ZO (-1)) λa=>wg a true (W.faddr 0 d) b λj e=>wg a true (wl j e) e λk l=>bJ a true c l λm f=>wg a true (W.idx 2 k m f) f λn o=>wg a true (W.faddr 1 n) o λp g=>wg a true (wl p g) g λq r=>wg a true (W.len q) r λs t=>wg a true (wb .eql 3 s (.ZO 0)) t λu v=>W.pick a u (.bool false) λw=>Q w v
def C0(Q:R)(b:SH)(c i d:AV):Prop:=aC 0 d b λj=>fb 2 0 j c b λk=>wb .eql 3 k (.ZO (-1)) λa=>wg a true (W.faddr 0 d) b λl e=>wg a true (wl l e) e λm n=>bJ a true c n λo f=>wg a true (W.idx 2 m o f) f λp q=>wg a true (W.faddr 1 p) q λr g=>wg a true (wl r g) g λs t=>bJ a true i t λu h=>W.grd a true (λv=>wc (.fn 72 []) [s,u] h λw x=>v w x) h λy z=>wg a true (W.un .not y) z λA B=>W.pick a A (.bool false) λC=>Q C B
def C1(Q:R)(a:SH)(c d e f:AV):Prop:=(true=true)∧(aN 0 c [] 1 a λg b=>aN 2 d [rm 1 b] 3 a λh n=>di [rm 1 b] 5 2 h e a λi o=>aN 1 i [rm 1 b] 7 a λj p=>di [] 8 2 g j a λk q=>aN 0 k [] 10 a λl r=>wb .eql 3 l f λm=>Q m a)
def C2(Q:R)(f:SH)(b g h:AV):Prop:=wb .neq 3 b g λa=>wg a true (W.faddr 3 h) f λi c=>wg a true (wl i c) c λj k=>bJ a true b k λl d=>wg a true (W.idx 3 j l d) d λm n=>wg a true (W.faddr 0 m) n λo e=>wg a true (wl o e) e λp q=>wg a true (wb .eql 3 p (.ZO 0)) q λr s=>W.pick a r (.bool false) λt=>Q t s
def C3(Q:R)(f:SH)(b g h:AV):Prop:=wb .neq 3 b g λa=>wg a true (W.faddr 3 h) f λi c=>wg a true (wl i c) c λj k=>bJ a true b k λl d=>wg a true (W.idx 3 j l d) d λm n=>wg a true (W.faddr 0 m) n λo e=>wg a true (wl o e) e λp q=>wg a true (wb .eql 3 p (.ZO 5)) q λr s=>W.pick a r (.bool false) λt=>Q t s
def C4(Q:R)(a:SH)(b c d:AV):Prop:=wb .eql 3 b (.ZO 22) λe=>wk e (aC 2 c a λf=>tH 1 f d a λg=>W.un .not g λh=>Q h a) (wb .eql 3 b (.ZO 23) λi=>wk i (aC 2 c a λj=>tH 1 j d a λk=>Q k a) (Q (.bool true) a))
def C5(Q:R)(a:SH)(b c e d:AV):Prop:=wb .eql 3 b (.ZO 20) λf=>wk f ((C2 Q a c e d)) (wb .eql 3 b (.ZO 21) λg=>wk g ((C3 Q a c e d)) ((C4 Q a b d c)))
def C6(Q:R)(e:Vs)(a:SH):Prop:=J1 2 4 5 6 11 109 e λb c f d g h=>wk h ((C1 Q a d f c b)) ((C5 Q a g c b d))
def C7(b:Kn)(c:SH)(a d e f g:AV):Prop:=wb .eql 3 a (.ZO 18) λh=>wk h (b [d,e,f,g,a,h] c) (wb .eql 3 a (.ZO 19) λi=>b [d,e,f,g,a,i] c)
def C8(Q:R)(b:SH)(a c d e f:AV):Prop:=W.join (C6 Q) λg=>wb .eql 3 a (.ZO 16) λh=>wk h (g [c,d,e,f,a,h] b) ((C7 g b a c d e f))
def C9(Q:R)(a:SH)(b c d e f:AV):Prop:=wb .eql 3 b (.ZO 15) λg=>wk g (aC 3 c a λh=>fb 3 2 h d a λi=>Q i a) ((C8 Q a b d e f c))
def AU(Q:R)(a:SH)(b c d e f:AV):Prop:=wb .eql 3 b (.ZO 14) λg=>wk g (aC 3 c a λh=>fb 3 2 h d a λi=>W.un .not i λj=>Q j a) ((C9 Q a b c d e f))
def AW(Q:R)(a:SH)(b c d e f:AV):Prop:=wb .eql 3 b (.ZO 13) λg=>wk g (aC 1 c a λh=>wb .eql 3 h d λi=>Q i a) ((AU Q a b c d e f))
def AX(Q:R)(a:SH)(b c d e f:AV):Prop:=wb .eql 3 b (.ZO 12) λg=>wk g (aC 1 c a λh=>wb .eql 3 h (.ZO (-1)) λi=>Q i a) ((AW Q a b c d e f))
def AY(Q:R)(a:SH)(b c d e f:AV):Prop:=wb .eql 3 b (.ZO 9) λg=>wk g (aC 0 c a λh=>fb 2 1 h d a λi=>wc (.fn 72 []) [i,e] a λj k=>Q j k) ((AX Q a b c e d f))
def Da(Q:R)(e:Vs)(a:SH):Prop:=J1 2 4 5 6 11 60 e λb c f d g h=>wk h (aC 0 d a λi=>fb 2 0 i c a λj=>wb .eql 3 j b λk=>Q k a) ((AY Q a g d c b f))
def AZ(Q:R)(b:SH)(a c d e f:AV):Prop:=W.join (Da Q) λg=>wb .eql 3 a (.ZO 7) λh=>wk h (g [c,d,e,f,a,h] b) (wb .eql 3 a (.ZO 11) λi=>g [c,d,e,f,a,i] b)
def A0(Q:R)(a:SH)(b c e d f:AV):Prop:=wb .eql 3 b (.ZO 10) λg=>wk g ((CZ Q a c d)) (wb .eql 3 b (.ZO 8) λh=>wk h ((C0 Q a c e d)) ((AZ Q a b e c f d)))
def bY(e f g b c:AV)(L:SH)(Q:R):Prop:=W.box e L λh i=>W.box f i λj k=>W.frz1 h k λl m=>W.frz1 j m λd a=>wb .eql 3 b (.ZO 6) λn=>wk n (aC 0 d a λo=>fb 2 0 o c a λp=>wb .eql 3 p (.ZO (-1)) λq=>Q q a) ((A0 Q a b c g d l))
theorem Db(t0 t1 t2 t3 t4:AV)(L:SH)(Q:R)(h:bY t0 t1 t2 t3 t4 L Q):af Tryz.prog 49 [t0,t1,t2,t3,t4] L Q:=
 fs [(9,[2,4,5,6,11,60]),(23,[2,4,5,6,11,109])] [] [(0,[5,6])] [(24,[0,1,0,4,0,28,60,124,255,511,1023,0,4095,8191])] Tryz.func49 h
def qm(e f:AV)(L:SH)(Q:R):Prop:=rF e L λb c=>aC 0 b c λg=>wb .eql 3 g (.ZO 3) λa=>wg a true (W.faddr 1 b) c λh d=>wg a true (wl h d) d λi j=>bJ a true f j λk l=>wg a true (wb .eql 3 i k) l λm n=>W.pick a m (.bool false) λo=>Q o n
theorem Dc(t0 t1:AV)(L:SH)(Q:R)(h:qm t0 t1 L Q):af Tryz.prog 115 [t0,t1] L Q:=
 fs [] [] [(0,[2])] [] Tryz.func115 h
def oE(d:Kn)(e:SH)(f a b g h i j k:AV)(c:SH)(l:Ns):Prop:=wn [] l [] e.names λq=>W.build [(.ZO 0),.nils] [(0,1,f),(1,1,k)] λm=>di [] 8 2 a b c λn r=>ds [] 9 2 n m c λo s=>wb .add 3 b (.ZO 1) λp=>d [g,h,a,i,j,p] o
def Dd(g:Kn)(b:SH)(c d h i j k:AV):Prop:=ma 2 c d b λl=>rE [(.ZO 0),.nils] 2 l b λe a=>(true=true)∧(aN 0 e [] 3 a λm f=>aN 1 e [rm 3 f] 5 a λn o=>wd [rm 3 f] 6 (.fn 81 []) [n] a (oE g a m h d i j c k))
def iI(Q:R)(a b e:AV)(f:SH):Prop:=W.faddr 3 a λg=>W.store 1 g e f λc=>cp 4 a c λh=>W.store 4 b h c λd=>W.load true 4 b d λi=>Q i d
def iJ(Q:R)(a c d:AV)(e:SH):Prop:=W.faddr 2 a λf=>W.store 1 f d e λb=>aC 3 a b λg=>wc (.fn 111 []) [g] b (iI Q a c)
def iK(Q:R)(h:Vs)(b:SH)(i:Kn):Prop:=J1 1 2 3 11 12 13 h λa c d j e f=>wb .lss 3 f e λk=>wk k ((Dd i b j f d a c e)) (W.faddr 0 a λl=>W.store 1 l d b λg=>aC 2 a g λm=>wc (.fn 110 []) [m] g (iJ Q a c))
def qn(f:AV)(L:SH)(Q:R):Prop:=W.box f L λa g=>W.alloc [.nils,(.ZO 0),.nils,.nils] g λh b=>aC 0 a b λi=>W.len i λc=>W.mslice 2 32 [(.ZO 0),.nils] c c b λj d=>aC 0 a d λe=>W.len e λk=>W.loop (iK Q) [a,h,j,e,k,(.ZO 0)] d
theorem De(t0:AV)(L:SH)(Q:R)(h:qn t0 L Q):af Tryz.prog 73 [t0] L Q:=
 fs [] [(3,[1,2,3,11,12,13])] [(4,[5])] [(5,[0,0,0,4,0,16,48,124,255,511])] Tryz.func73 h
def A3(e:Kn)(f b d g h i j a:AV)(l:SH):Prop:=bJ a true f l λm n=>wg a true (wb .lss 3 m (.ZO 0)) n λo p=>bJ a true o p λc q=>bJ c false b q λr s=>bJ c false d s λt u=>wg c false (wb .eql 3 r t) u λv w=>wg a true (W.pick c (.bool true) v) w λx k=>W.pick a x (.bool false) λy=>wk y (wb .add 3 b (.ZO 1) λz=>e [g,d,h,b,i,j,z] k) (wb .add 3 b (.ZO 1) λA=>e [g,d,h,f,i,j,A] k)
def A4(f:Kn)(a:SH)(b c d g h i j:AV):Prop:=ma 3 b c a λk=>rE [(.ZO 0),(.ZO 0),(.bool false)] 3 k a λl e=>cp 3 l e λm=>wc (.fn 115 []) [m,d] e (A3 f g c h d i b j)
def A5(Q:R)(a:SH)(b c:AV):Prop:=wb .geq 3 b (.ZO 0) λd=>wk d (aC 3 c a λe=>W.idx 3 e b a λf=>W.faddr 0 f λg=>W.store 1 g (.ZO 4) a λh=>Q b h) (Q b a)
def ms(Q:R)(f:Vs)(a:SH)(g:Kn):Prop:=NN 1 2 3 7 11 12 13 f λh i b c j d e=>wb .lss 3 e d λk=>wk k ((A4 g a j e h c i b d)) ((A5 Q a c b))
def oF(d e f:AV)(L:SH)(Q:R):Prop:=rF d L λa b=>aC 3 a b λc=>W.len c λg=>W.loop (ms Q) [e,f,a,(.ZO (-1)),c,g,(.ZO 0)] b
theorem A6(t0 t1 t2:AV)(L:SH)(Q:R)(h:oF t0 t1 t2 L Q):af Tryz.prog 78 [t0,t1,t2] L Q:=
 fs [] [(3,[1,2,3,7,11,12,13])] [(0,[3]),(4,[9])] [] Tryz.func78 h
def rG(d:Kn)(a:SH)(b c e f g h:AV):Prop:=aC 3 b a λi=>W.idx 3 i c a λj=>W.faddr 0 j λk=>W.store 1 k (.ZO 4) a λl=>wb .add 3 e (.ZO 1) λm=>wb .add 3 c (.ZO 1) λn=>d [f,b,m,g,h,n] l
def rH(a:Kn)(b c d e f g i:AV)(h:SH):Prop:=wk i ((rG a h b c d e f g)) (wb .add 3 c (.ZO 1) λj=>a [e,b,d,f,g,j] h)
def rI(f:Kn)(a:SH)(b c d g h i:AV):Prop:=ma 3 b c a λj=>rE [(.ZO 0),(.ZO 0),(.bool false)] 3 j a λk e=>cp 3 k e λl=>wc (.fn 115 []) [l,d] e (rH f g c h d b i)
def iW(Q:R)(e:Vs)(a:SH)(f:Kn):Prop:=J1 1 2 5 9 10 11 e λg h b i c d=>wb .lss 3 d c λj=>wk j ((rI f a i d g h b c)) (Q b a)
def jC(d e:AV)(L:SH)(Q:R):Prop:=rF d L λa b=>aC 3 a b λc=>W.len c λf=>W.loop (iW Q) [e,a,(.ZO 0),c,f,(.ZO 0)] b
theorem rJ(t0 t1:AV)(L:SH)(Q:R)(h:jC t0 t1 L Q):af Tryz.prog 79 [t0,t1] L Q:=
 fs [] [(3,[1,2,5,9,10,11])] [(0,[2]),(4,[7])] [] Tryz.func79 h
def oG(b c:AV)(L:SH)(Q:R):Prop:=wb .geq 3 b (.ZO 0) λa=>bJ a true b L λd e=>bJ a true c e λf g=>wg a true (wb .lss 3 d f) g λh i=>W.pick a h (.bool false) λj=>Q j i
theorem A7(t0 t1:AV)(L:SH)(Q:R)(h:oG t0 t1 L Q):af Tryz.prog 47 [t0,t1] L Q:=
 fs [] [] [] [] Tryz.func47 h
def ee(a b:AV)(L:SH)(Q:R):Prop:=wc (.fn 109 []) [a,b] L λc d=>wb .geq 3 c (.ZO 0) λe=>Q e d
theorem iz(t0 t1:AV)(L:SH)(Q:R)(h:ee t0 t1 L Q):af Tryz.prog 72 [t0,t1] L Q:=
 fs [] [] [] [] Tryz.func72 h
def eR(Q:R)(f:Vs)(a:SH)(g:Kn):Prop:=ug 0 1 7 8 f λc d e b=>wb .lss 3 b e λh=>wk h (tH 1 c b a λi=>wb .eql 3 d i λj=>wk j (Q b a) (wb .add 3 b (.ZO 1) λk=>g [c,d,e,k] a)) (Q (.ZO (-1)) a)
def fk(a b:AV)(L:SH)(Q:R):Prop:=W.len a λc=>W.loop (eR Q) [a,b,c,(.ZO 0)] L
theorem jD(t0 t1:AV)(L:SH)(Q:R)(h:fk t0 t1 L Q):af Tryz.prog 109 [t0,t1] L Q:=
 fs [] [(2,[0,1,7,8])] [] [] Tryz.func109 h
def hD(Q:R)(c:Kn)(a d e f g:AV)(b:SH):Prop:=wk g (Q a b) (wb .add 3 a (.ZO 1) λh=>c [d,e,f,h] b)
def dK(Q:R)(f:Vs)(a:SH)(g:Kn):Prop:=ug 0 1 7 8 f λc d e b=>wb .lss 3 b e λh=>wk h (tH 1 c b a λi=>wc d [i] a (hD Q g b c d e)) (Q (.ZO (-1)) a)
def dR(a b:AV)(L:SH)(Q:R):Prop:=W.len a λc=>W.loop (dK Q) [a,b,c,(.ZO 0)] L
theorem hO(t0 t1:AV)(L:SH)(Q:R)(h:dR t0 t1 L Q):af Tryz.prog 114 [t0,t1] L Q:=
 fs [] [(2,[0,1,7,8])] [] [] Tryz.func114 h
def gK(d:Kn)(a:SH)(b c e f g:AV):Prop:=W.idx 1 b c a λh=>W.store 1 h e a λi=>wb .add 3 c (.ZO 1) λj=>wb .add 3 f (.ZO 1) λk=>d [b,g,j,k] i
def gL(a:Kn)(b c g d e h:AV)(f:SH):Prop:=W.un .not h λi=>wk i ((gK a f b c g d e)) (wb .add 3 d (.ZO 1) λj=>a [b,e,c,j] f)
def dC(Q:R)(h:Vs)(b:SH)(i:Kn):Prop:=ug 0 1 5 6 h λa e c d=>W.len a λj=>wb .lss 3 d j λk=>wk k (tH 1 a d b λf=>wc e [f] b (gL i a c f d e)) (W.slice 1 a (some c) none none b λl=>W.clear 1 [(.ZO 0)] l b λg=>W.slice 1 a none (some c) none g λm=>Q m g)
def dD(Q:R)(b d a:AV)(c:SH):Prop:=wb .eql 3 a (.ZO (-1)) λe=>wk e (Q b c) (wb .add 3 a (.ZO 1) λf=>W.loop (dC Q) [b,d,a,f] c)
def dL(a b:AV)(L:SH)(Q:R):Prop:=wc (.fn 114 []) [a,b] L (dD Q a b)
theorem gM(t0 t1:AV)(L:SH)(Q:R)(h:dL t0 t1 L Q):af Tryz.prog 76 [t0,t1] L Q:=
 fs [] [(5,[0,1,5,6])] [] [] Tryz.func76 h
def mt(a b:AV)(L:SH)(Q:R):Prop:=wl b L λc=>wb .eql 3 a c λd=>Q d L
theorem yq(t0 t1:AV)(L:SH)(Q:R)(h:mt t0 t1 L Q):af Tryz.prog 77 [t0,t1] L Q:=
 fs [] [] [] [] Tryz.func77 h
end
structure bq where
 op:Int
 a:Int
 b:Int
 c:Int
 n:Int
 site:Int
 deriving Inhabited
def bq.enc(i:bq):List AV:=[.ZO i.op,.ZO i.a,.ZO i.b,.ZO i.c,.ZO i.n,.ZO i.site]
structure hY where
 regs:Int
 ins:List bq
def hY.enc(c:hY):List AV:=[.ZO c.regs,.lst (c.ins.map bq.enc)]
def lD(b:Bool):Int:=if b then 1 else 0
def NP(op a:Int):Int×Bool:=if op=4 then(IntKind.i64.wrap (0-a),true)else if op=5 then(lD (decide (a=0)),true)else(0,false)
def yr(op a b:Int):Int×Bool:=
 if op=6 then(IntKind.i64.wrap (a+b),true)else
 if op=7 then(IntKind.i64.wrap (a-b),true)else
 if op=8 then(IntKind.i64.wrap (a*b),true)else
 if op=9 then(if b=0 then 0 else IntKind.i64.wrap (a.tdiv b),true)else
 if op=10 then(if b=0 then 0 else a.tmod b,true)else
 if op=11 then(lD (decide (a=b)),true)else
 if op=12 then(lD (decide (a≠b)),true)else
 if op=13 then(lD (decide (a<b)),true)else
 if op=14 then(lD (decide (a≤b)),true)else
 if op=15 then(lD (decide (b<a)),true)else
 if op=16 then(lD (decide (b≤a)),true)else
 if op=17 then(lD (decide (a≠0)&&decide (b≠0)),true)else
 if op=18 then(lD (decide (a≠0)||decide (b≠0)),true)else(0,false)
theorem Wm{o:Nat}{x:AV}{L:SH}{K:AV→Prop}(h:aC o x L K):aC o x L K:=h
theorem Ue{o:Nat}{x:AV}{L:SH}{K:AV→Prop}(h:dV o x L K):dV o x L K:=h
theorem XN{x:AV}{L:SH}{K:AV→Prop}(h:wl x L K):wl x L K:=h
theorem Wn{n:Nat}{x i:AV}{L:SH}{K:AV→Prop}(h:tH n x i L K):tH n x i L K:=h
theorem Wo{n:Nat}{x i:AV}{L:SH}{K:AV→Prop}(h:ma n x i L K):ma n x i L K:=h
theorem Uf{n o:Nat}{x i:AV}{L:SH}{K:AV→Prop}(h:fb n o x i L K):fb n o x i L K:=h
theorem XO{us:List W.WR}{i:Nat}{x:AV}{L:SH}{K:AV→Fp→Prop}(h:dl us i x L K):dl us i x L K:=h
theorem Wp{o:Nat}{x:AV}{us:List W.WR}{i:Nat}{L:SH}{K:AV→Fp→Prop}(h:aN o x us i L K):aN o x us i L K:=h
theorem XP{us:List W.WR}{i n:Nat}{x:AV}{L:SH}{K:AV→Fp→Prop}(h:dr us i n x L K):dr us i n x L K:=h
theorem XQ{us:List W.WR}{i n:Nat}{x ix:AV}{L:SH}{K:AV→Fp→Prop}(h:di us i n x ix L K):di us i n x ix L K:=h
theorem st{P Q:Prop}(k:Q)(h:Q→P:=by
 intro k
 first
 |(refine Wm ?_;first|exact Te k|exact Tf k|exact Px k)
 |(refine nK ?_;first|exact S2 k|exact O8 k|exact S3 k|exact S1 k|exact S0 k|exact SZ k|exact ue k|exact O9 k|exact jA k|exact Pa k|exact S4 k|exact S5 k|exact S6 k|exact Tg k|exact Th k|exact S9 k|exact Ta k)
 |(refine TZ ?_;first|exact JV k|exact JW k)
 |(refine Wd ?_;first|exact Ig k|exact Ih k|exact H5 k)
 |(refine XN ?_;first|exact RU k|exact Wh k|exact TY k)
 |(refine Tc ?_;first|exact Ig k|exact Ih k|exact H5 k)
 |(refine TV ?_;first|exact Pp k|exact Pq k)
 |(refine Ue ?_;first|exact wnfl_q k|exact T1 k|exact Py k)
 |(refine V8 ?_;first|exact RG k|exact xQ k|exact H9 k|exact a_len_n k|exact Ic k)
 |(refine Uf ?_;first|exact T2 k|exact Pz k)
 |(refine Wo ?_;first|exact Wj k|exact Tb k)
 |(refine Wn ?_;first|exact Wi k|exact Hk k)
 |(refine RM ?_;first|exact AF k|exact AE k)
 |(refine Pw ?_;first|exact DR k|exact b_row_i k|exact MW k|exact JZ k|exact J0 k)
 |(refine Wp ?_;first|exact Wl k|exact Td k)
 |(refine XO ?_;first|exact Wk k|exact We k)
 |(refine XP ?_;first|exact XH k|exact Wf k)
 |(refine XQ ?_;first|exact XI k|exact T0 k)
 |(refine S8 ?_;first|exact Ig k|exact Ih k|exact H5 k)
 |(refine Pj ?_;first|exact Pr k|exact Ps k|exact O3 k)
 |(refine RL ?_;first|exact JT k|exact Po k|exact JU k)
 |(refine V7 ?_;first|exact xS k|exact RO k|exact RP k|exact dJ k|exact RQ k)
 |(refine V6 ?_;first|exact DR k|exact b_row_i k|exact MW k|exact JZ k|exact J0 k)
 |(refine V9 ?_;exact Wb k)
 |(refine TS ?_;exact Ij k)
 |exact XG (ud k)
 |(refine TU ?_;exact ud k)
 |(refine Pn ?_;first|exact MM k|exact a_nil_q k|exact a_nil_f k)
 |(refine XE ?_;first|exact V2 k|exact V3 k)
 |(refine TW ?_;first|exact RS k|exact b_frz_s k)
 |(refine RN ?_;first|exact JX k|exact Cl k|exact JY k)
 |(refine TX ?_;first|exact b_idxP_p k|exact Pt k)
 |(refine h_bin ?_;first|exact S2 k|exact O8 k|exact S3 k|exact S1 k|exact S0 k|exact SZ k|exact ue k|exact O9 k|exact jA k|exact Pa k|exact S4 k|exact S5 k|exact S6 k|exact Tg k|exact Th k|exact S9 k|exact Ta k)
 |(refine h_cond ?_;first|exact JV k|exact JW k)
 |exact T3 k
 |exact Ii k
 |exact qg (LA k)
 |exact XF (MU k)
 |exact Wg k
 |exact XD k
 |exact TQ k
 |exact RT k
 |(first|exact T4 k|exact T5 k|exact T6 k|exact T7 k|exact T8 k|exact PA k|exact T9 k|exact Ub k|exact Uc k|exact RX k|exact RY k|exact wo12_ok k|exact wo13_ok k|exact wo14_ok k|exact wo15_ok k|exact wo16_ok k)
 |exact TO k
 |exact a_convS k
 |exact b_fld k
 |exact TP k
 |exact LA k
 |exact MU k
 |fail):P:=h k
theorem sb{P:Prop}{Q:Nat→Prop}{N:Nat→Prop}(k:∀b,N b→Q b)(h:(∀b,N b→Q b)→P:=by
 intro k
 first
 |(refine Wa ?_;exact Wc k)
 |(refine Pm ?_;exact Pu k)
 |(refine Pk ?_;exact Pv k)
 |(exact MN k)
 |fail):P:=h k
theorem s2{P Q1 Q2 A1 A2:Prop}(k1:A1→Q1)(k2:A2→Q2)(h:(A1→Q1)→(A2→Q2)→P:=by
 intro k1 k2
 first
 |(refine TZ ?_;exact O7 k1 k2)
 |(refine Wd ?_;first|exact H6 k1 k2|exact H7 k1 k2)
 |(refine Tc ?_;first|exact H6 k1 k2|exact H7 k1 k2)
 |(refine S8 ?_;first|exact H6 k1 k2|exact H7 k1 k2)
 |(refine Pj ?_;first|exact O4 k1 k2|exact O5 k1 k2)
 |(refine h_cond ?_;exact O7 k1 k2)
 |fail):P:=h k1 k2
theorem mm{α:Type}{a:α}{l:List α}(h:a∈l:=by first|exact .head _|exact .tail _ (.head _)|exact .tail _ (.tail _ (.head _))|exact .tail _ (.tail _ (.tail _ (.head _)))|exact .tail _ (.tail _ (.tail _ (.tail _ (.head _))))|exact .tail _ (.tail _ (.tail _ (.tail _ (.tail _ (.head _)))))|exact .tail _ (.tail _ (.tail _ (.tail _ (.tail _ (.tail _ (.head _))))))|exact .tail _ (.tail _ (.tail _ (.tail _ (.tail _ (.tail _ (.tail _ (.head _)))))))|exact .tail _ (.tail _ (.tail _ (.tail _ (.tail _ (.tail _ (.tail _ (.tail _ (.head _))))))))|exact .tail _ (.tail _ (.tail _ (.tail _ (.tail _ (.tail _ (.tail _ (.tail _ (.tail _ (.head _)))))))))|exact .tail _ (.tail _ (.tail _ (.tail _ (.tail _ (.tail _ (.tail _ (.tail _ (.tail _ (.tail _ (.head _))))))))))|exact .tail _ (.tail _ (.tail _ (.tail _ (.tail _ (.tail _ (.tail _ (.tail _ (.tail _ (.tail _ (.tail _ (.head _)))))))))))|exact .tail _ (.tail _ (.tail _ (.tail _ (.tail _ (.tail _ (.tail _ (.tail _ (.tail _ (.tail _ (.tail _ (.tail _ (.head _))))))))))))):a∈l:=h
theorem rp{P:Prop}(h:P:=by repeat constructor):P:=h
inductive aq where
 |mk (op n:Int) (name:bC) (l:List aq)
def aq.op:aq→Int|.mk a _ _ _=>a
def aq.n:aq→Int|.mk _ a _ _=>a
def aq.name:aq→bC|.mk _ _ a _=>a
def aq.l:aq→List aq|.mk _ _ _ a=>a
mutual
def aq.enc:aq→List AV
 |.mk op n name l=>[.int .i64 op,.int .i64 n,.str name,.lst (aq.encs l)]
def aq.encs:List aq→List (List AV)
 |[]=>[]
 |x::l=>x.enc::aq.encs l
end
theorem aq.encs_eq:∀l:List aq,aq.encs l=l.map aq.enc
 |[]=>rfl
 |x::l=>by rw[aq.encs,aq.encs_eq l];rfl
def aq.row(x:aq):List AV:=[.ZO x.op,.ZO x.n,.str x.name,.lst (x.l.map aq.enc)]
theorem aq.enc_row(x:aq):x.enc=x.row:=by cases x;rw[aq.enc,aq.encs_eq];rfl
theorem EI{l:List aq}{i:Nat}(h:i<l.length):(l.map aq.enc)[i]? =some [.ZO l[i].op,.ZO l[i].n,.str l[i].name,.lst (l[i].l.map aq.enc)]:=by rw[ay h,aq.enc_row];rfl
def z0(op:Int):Nat:=if op=0 then 2^50 else 0
def z3(op:Int):Nat:=if op=3 then 2^50 else 0
def EJ(op:Int)(name:bC)(n:Nat):Nat:=(if n=0 then(if op=0∨op=1∨op=2 then 0 else 2^50)else 0)+(if name=[113]then 0 else z3 op)
mutual
def aq.wt:aq→Nat
 |.mk op _ name l=>1+name.length+EJ op name l.length+aq.wts l
def aq.wts:List aq→Nat
 |[]=>0
 |x::l=>x.wt+z0 x.op+aq.wts l
end
theorem aq.wt_eq(x:aq):x.wt=1+x.name.length+EJ x.op x.name x.l.length+aq.wts x.l:=by cases x;rfl
theorem aq.wts_get0:∀(l:List aq) (i:Nat) (h:i<l.length),l[i].wt+z0 l[i].op≤aq.wts l
 |x::l,0,_=>by simp[aq.wts]
 |x::l,i+1,h=>by have:=aq.wts_get0 l i (by simpa using h);simp only[List.getElem_cons_succ,aq.wts];omega
theorem aq.wts_get(l:List aq)(i:Nat)(h:i<l.length):l[i].wt≤aq.wts l:=by have:=aq.wts_get0 l i h;omega
theorem aq.wts_len:∀l:List aq,l.length≤aq.wts l
 |[]=>X7 _
 |x::l=>by have:=aq.wts_len l;have:=x.wt_eq;simp only[Ys,aq.wts];omega
theorem aq.kid(x:aq){i:Nat}(h:i<x.l.length):x.l[i].wt<x.wt:=by have:=aq.wts_get x.l i h;have:=x.wt_eq;omega
theorem aq.len(x:aq):x.l.length<x.wt:=by have:=aq.wts_len x.l;have:=x.wt_eq;omega
inductive ab where
 |mk (op line:Int) (name arg:bC) (index:List aq) (expr:aq) (body els:List ab)
def ab.op:ab→Int|.mk a _ _ _ _ _ _ _=>a
def ab.line:ab→Int|.mk _ a _ _ _ _ _ _=>a
def ab.name:ab→bC|.mk _ _ a _ _ _ _ _=>a
def ab.arg:ab→bC|.mk _ _ _ a _ _ _ _=>a
def ab.index:ab→List aq|.mk _ _ _ _ a _ _ _=>a
def ab.expr:ab→aq|.mk _ _ _ _ _ a _ _=>a
def ab.body:ab→List ab|.mk _ _ _ _ _ _ a _=>a
def ab.els:ab→List ab|.mk _ _ _ _ _ _ _ a=>a
mutual
def ab.enc:ab→List AV
 |.mk op line name arg index e body els=>[.int .i64 op,.int .i64 line,.str name,.str arg,.lst (index.map aq.enc),.int .i64 e.op,.int .i64 e.n,.str e.name,.lst (e.l.map aq.enc),.lst (ab.encs body),.lst (ab.encs els)]
def ab.encs:List ab→List (List AV)
 |[]=>[]
 |x::l=>x.enc::ab.encs l
end
theorem ab.encs_eq:∀l:List ab,ab.encs l=l.map ab.enc
 |[]=>rfl
 |x::l=>by rw[ab.encs,ab.encs_eq l];rfl
def ab.row(x:ab):List AV:=[.ZO x.op,.ZO x.line,.str x.name,.str x.arg,.lst (x.index.map aq.enc),.ZO x.expr.op,.ZO x.expr.n,.str x.expr.name,.lst (x.expr.l.map aq.enc),.lst (x.body.map ab.enc),.lst (x.els.map ab.enc)]
theorem ab.enc_row(x:ab):x.enc=x.row:=by cases x;rw[ab.enc,ab.encs_eq,ab.encs_eq];rfl
theorem Hp{l:List ab}{i:Nat}(h:i<l.length):(l.map ab.enc)[i]? =some [.ZO l[i].op,.ZO l[i].line,.str l[i].name,.str l[i].arg,.lst (l[i].index.map aq.enc),.ZO l[i].expr.op,.ZO l[i].expr.n,.str l[i].expr.name,.lst (l[i].expr.l.map aq.enc),.lst (l[i].body.map ab.enc),.lst (l[i].els.map ab.enc)]:=by rw[ay h,ab.enc_row];rfl
def zv(op eop:Int):Nat:=if op=1∨op=2∨op=3∨op=14 then z0 eop else 0
def zi(name:bC)(n:Nat):Nat:=if n=0∨name=[113]then 0 else 2^50
mutual
def ab.wt:ab→Nat
 |.mk op _ name arg index e body els=>1+name.length+arg.length+aq.wts index+e.wt+zv op e.op+zi name index.length+ab.wts body+ab.wts els
def ab.wts:List ab→Nat
 |[]=>0
 |x::l=>x.wt+ab.wts l
end
theorem ab.wt_eq(x:ab):x.wt=1+x.name.length+x.arg.length+aq.wts x.index+x.expr.wt+zv x.op x.expr.op+zi x.name x.index.length+ab.wts x.body+ab.wts x.els:=by cases x;rfl
theorem ab.wts_get:∀(l:List ab) (i:Nat) (h:i<l.length),l[i].wt≤ab.wts l
 |x::l,0,_=>by simp[ab.wts]
 |x::l,i+1,h=>by have:=ab.wts_get l i (by simpa using h);simp only[List.getElem_cons_succ,ab.wts];omega
theorem ab.wts_len:∀l:List ab,l.length≤ab.wts l
 |[]=>X7 _
 |x::l=>by have:=ab.wts_len l;have:=x.wt_eq;simp only[Ys,ab.wts];omega
structure aJ where
 kind:Int
 line:Int
 name:bC
 size:Int
 init:Int
 on:bC
 deriving Inhabited
def aJ.enc(d:aJ):List AV:=[.ZO d.kind,.ZO d.line,.str d.name,.ZO d.size,.ZO d.init,.str d.on]
structure ah where
 name:bC
 line:Int
 locals:List bC
 body:List ab
def ah.enc(t:ah):List AV:=[.str t.name,.ZO t.line,.lst (t.locals.map av),.lst (t.body.map ab.enc)]
structure bZ where
 decls:List aJ
 threads:List ah
def bZ.enc(p:bZ):List AV:=[.lst (p.decls.map aJ.enc),.lst (p.threads.map ah.enc)]
def aJ.wt(d:aJ):Nat:=1+d.name.length+d.on.length
def ah.wt(t:ah):Nat:=1+t.name.length+t.locals.length+(t.locals.map List.length).sum+ab.wts t.body
def bZ.wt(p:bZ):Nat:=(p.decls.map aJ.wt).sum+(p.threads.map ah.wt).sum
theorem DS{α:Type}{f:α→Nat}:∀(l:List α) (i:Nat) (h:i<l.length),f l[i]≤(l.map f).sum
 |x::l,0,_=>by simp
 |x::l,i+1,h=>by have:=DS (f:=f) l i (by simpa using h);simp only[List.getElem_cons_succ,Yb,Y8];omega
theorem Ik{α:Type}{f:α→Nat}(hf:∀x,1≤f x):∀l:List α,l.length≤(l.map f).sum
 |[]=>X7 _
 |x::l=>by have:=Ik hf l;have:=hf x;simp only[Ys,Yb,Y8];omega
theorem J4{α:Type}{p:α→Prop}{l:List α}{i:Nat}(h:i<l.length)(h1:∀x∈l.take i,p x)(h2:p l[i]):∀x∈l.take (i+1),p x:=by
 rw[Yd h];intro x hx;rcases Yg.1 hx with hx|hx
 ·exact h1 x hx
 ·simp at hx;subst hx;exact h2
theorem Wq(n:Nat)(G:Nat→Prop)(S:Nat→List AV×SH){B:List AV→SH→W.Kn→Prop}{vs:List AV}{L:SH}(hl:n<2^62)(h0:G 0)(hv:vs=(S 0).1)(hL:L=(S 0).2)
  (h1:∀i,i<n→decide ((i:Int)<(n:Int))=true→IntKind.i64.wrap ((i:Int)+1)=((i+1:Nat):Int)→G i→∀nx:W.Kn,(G (i+1)→∀vs' L',aG vs' L' (S (i+1)).1 (S (i+1)).2→nx vs' L')→B (S i).1 (S i).2 nx)
  (h2:∀i,i=n→decide ((i:Int)<(n:Int))=false→G i→∀nx:W.Kn,B (S i).1 (S i).2 nx):W.loop B vs L:=by
 refine qf n S G h0 hv hL λi hi hG=>?_
 rcases X9 i n with h|h
 ·exact h1 i h (bE h) (aA h hl) hG _ λhg vs' L' hz=>⟨i+1,ZJ,ZJ,hg,hz⟩
 ·exact h2 i ZJ (bI h) hG _
theorem mu(n:Nat)(G:Nat→Prop)(S:Nat→List AV){B:List AV→SH→W.Kn→Prop}{vs:List AV}{L:SH}(hl:n<2^62)(h0:G 0)(hv:vs=S 0)
  (h1:∀i,i<n→decide ((i:Int)<(n:Int))=true→IntKind.i64.wrap ((i:Int)+1)=((i+1:Nat):Int)→G i→∀nx:W.Kn,(G (i+1)→nx (S (i+1)) L)→B (S i) L nx)
  (h2:∀i,i=n→decide ((i:Int)<(n:Int))=false→G i→∀nx:W.Kn,B (S i) L nx):W.loop B vs L:=
 Wq n G (λi=>(S i,L)) hl h0 hv rfl (λi h hd hi hG nx hn=>h1 i h hd hi hG nx λhg=>hn hg _ _ (.refl _ _)) h2
theorem fH{α:Type}(l:List α)(p:α→Bool)(S:Nat→List AV){B:List AV→SH→W.Kn→Prop}{vs:List AV}{L:SH}(hl:l.length<2^62)(hv:vs=S 0)
  (h1:∀i (h:i<l.length),decide ((i:Int)<(l.length:Int))=true→IntKind.i64.wrap ((i:Int)+1)=((i+1:Nat):Int)→(∀x∈l.take i,p x=false)→∀nx:W.Kn,(p l[i]=false→nx (S (i+1)) L)→B (S i) L nx)
  (h2:∀i,i=l.length→decide ((i:Int)<(l.length:Int))=false→(∀x∈l,p x=false)→∀nx:W.Kn,B (S i) L nx):W.loop B vs L:=
 mu l.length (λi=>∀x∈l.take i,p x=false) S hl ZM hv (λi h hd hi hG nx hn=>h1 i h hd hi hG nx λhp=>hn (J4 h hG hp))
  λi e hd hG nx=>h2 i e hd (by rw[YL ZJ]at hG;exact hG) nx
theorem PB{α:Type}{p:α→Bool}{l:List α}(h:∀x∈l,p x=false):l.any p=false:=by simpa using h
theorem MY{α:Type}{p:α→Bool}{l:List α}{i:Nat}(h:i<l.length)(hp:p l[i]=true):l.any p=true:=ZI.2 ⟨_,Yr h,hp⟩
theorem PC{α:Type}{p:α→Bool}{l:List α}{i:Nat}(h:i<l.length)(hp:p l[i]=false):l.all p=false:=List.all_eq_false.2 ⟨_,Yr h,by simp[hp]⟩
theorem MZ{s:bC}{k:IntKind}{i:Nat}{K:AV→Prop}(h:K (.int .u8 (s.getD i 0).toNat))(hi:i<s.length:=by assumption):W.ixS (.str s) (.int k (i:Int)) K:=⟨s,k,i,s[i],rfl,rfl,ZJ,by simp[hi],by simpa[List.getD,hi]using h⟩
def nL{α:Type}(p:α→Bool):List α→Nat→Int
 |[],_=>-1
 |x::l,i=>if p x then(i:Int)else nL p l (i+1)
theorem hZ{α:Type}{p:α→Bool}:∀{l:List α} {i:Nat},(∀x∈l,p x=false)→nL p l i=-1
 |[],_,_=>rfl
 |x::l,i,h=>by rw[nL,h x ZM];exact hZ λy hy=>h y (by simp[hy])
theorem M1{α:Type}{p:α→Bool}:∀{l:List α} {j k:Nat} (hk:k<l.length),(∀x∈l.take k,p x=false)→p l[k]=true→nL p l j=(j+k:Nat)
 |x::l,j,0,hk,h,hp=>by simp at hp;simp[nL,hp]
 | x::l,j,k+1,hk,h,hp=>by rw[nL,h x ZM];have:=M1 (p:=p) (l:=l) (j:=j+1) (k:=k) (by simpa using hk) (λy hy=>h y (by simp[hy])) (by simpa using hp);simp only[YB,if_false,this];congr 1;omega
theorem qo{α:Type}{p:α→Bool}{l:List α}{k:Nat}(hk:k<l.length)(h:∀x∈l.take k,p x=false)(hp:p l[k]=true):nL p l 0=k:=by rw[M1 hk h hp];simp
structure bA where
 name:bC
 index:Int
 size:Int
 vol:Bool
 init:Int
 deriving Inhabited
def bA.enc(c:bA):List AV:=[.str c.name,.ZO c.index,.ZO c.size,.bool c.vol,.ZO c.init]
structure cq where
 name:bC
 rw:Bool
 deriving Inhabited
def cq.enc(c:cq):List AV:=[.str c.name,.bool c.rw]
structure db where
 name:bC
 mutex:Int
 deriving Inhabited
def db.enc(c:db):List AV:=[.str c.name,.ZO c.mutex]
structure cQ where
 thread:Int
 stmt:Int
 line:Int
 deriving Inhabited
def cQ.enc(c:cQ):List AV:=[.ZO c.thread,.ZO c.stmt,.ZO c.line]
structure aO where
 cells:List bA
 locks:List cq
 conds:List db
 futures:List bC
 threads:List bC
 sites:List cQ
def aO.enc(w:aO):List AV:=[.lst (w.cells.map bA.enc),.lst (w.locks.map cq.enc),.lst (w.conds.map db.enc),.lst (w.futures.map av),.lst (w.threads.map av),.lst (w.sites.map cQ.enc)]
structure dq where
 thread:Int
 wake:Int
def dq.enc(c:dq):List AV:=[.ZO c.thread,.ZO c.wake]
structure bB where
 w:aO
 ts:List hY
def bB.enc(c:bB):List AV:=[.lst (c.w.cells.map bA.enc),.lst (c.w.locks.map cq.enc),.lst (c.w.conds.map db.enc),.lst (c.w.futures.map av),.lst (c.w.threads.map av),.lst (c.w.sites.map cQ.enc),.lst (c.ts.map hY.enc)]
def gt(l:List cq)(s:bC):Int:=nL (λx=>decide (x.name=s)) l 0
def yu(l:List bA)(s:bC):Int:=nL (λx=>decide (x.name=s)) l 0
def cf(i:bq):List Int:=
 if i.op=1∨i.op=6∨i.op=10∨i.op=27 then [i.a]else
 if i.op=2∨i.op=3 then [i.a,i.b]else
 if i.op=4 then [i.a,i.b,i.c]else
 if i.op=7 then [i.a,i.c]else
 if i.op=8∨i.op=26 then [i.b]else
 if i.op=9 then [i.b,i.c]else []
def M2(w:aO)(i:Int):Bool:=inB i w.cells.length&&decide ((w.cells.getD i.toNat default).size=0)
def LB(w:aO)(i n:Int):Bool:=inB i w.cells.length&&decide ((w.cells.getD i.toNat default).index=0)&&decide ((w.cells.getD i.toNat default).size≠0)&&decide ((w.cells.getD i.toNat default).size=n)
def J5(w:aO)(i:Int)(rw:Bool):Bool:=inB i w.locks.length&&((w.locks.getD i.toNat ⟨[],false⟩).rw==rw)
def LC(w:aO)(i:bq):Bool:=
 if i.op=6 then M2 w i.b else if i.op=8 then M2 w i.a else if i.op=7 then LB w i.b i.n else if i.op=9 then LB w i.a i.n else
 if i.op=11∨i.op=12 then J5 w i.a false else if i.op=13∨i.op=14∨i.op=15∨i.op=16 then J5 w i.a true else
 if i.op=21∨i.op=22∨i.op=23 then inB i.a w.conds.length else if i.op=24∨i.op=25 then inB i.a w.threads.length else
 if i.op=26 then inB i.a w.futures.length else if i.op=27 then inB i.b w.futures.length else
 if i.op=3 then decide (i.n=4∨i.n=5)else if i.op=4 then decide (6≤i.n∧i.n≤18)else true
def bq.sil(i:bq):Prop:=1≤i.op∧i.op≤5
inductive LD (ins:List bq):Nat→Nat→Prop where
 |ev (k:Nat) (i:bq):ins[k]? =some i→¬i.sil→LD ins k 0
 |go (k m:Nat) (i:bq):ins[k]? =some i→i.sil→i.op≠5→LD ins (k+1) m→LD ins k (m+1)
 |jump (k m j:Nat) (i:bq):ins[k]? =some i→i.op=5→i.a=(j:Nat)→LD ins j m→LD ins k (m+1)
def qp(ins:List bq)(k:Nat):Prop:=∃m,LD ins k m
theorem LD.uniq{ins:List bq}{k m1:Nat}(h1:LD ins k m1):∀{m2:Nat},LD ins k m2→m1=m2:=by
 induction h1 with
 |ev k i hi hs=>
  intro m2 h2;cases h2 with
  |ev=>rfl
  |go _ _ i' hi' hs'=>rw[hi]at hi';cases hi';exact absurd hs' hs
  |jump _ _ j i' hi' hs'=>rw[hi]at hi';cases hi';exact absurd ⟨ZJ,ZJ⟩ hs
 |go k m i hi hs h5 hm ih=>
  intro m2 h2;cases h2 with
  |ev _ i' hi' hs'=>rw[hi]at hi';cases hi';exact absurd hs hs'
  |go _ _ i' hi' hs' _ hm'=>rw[ih hm']
  |jump _ _ j i' hi' hs'=>rw[hi]at hi';cases hi';exact absurd hs' h5
 |jump k m j i hi hs ha hm ih=>
  intro m2 h2;cases h2 with
  |ev _ i' hi' hs'=>rw[hi]at hi';cases hi';exact absurd ⟨ZJ,ZJ⟩ hs'
  |go _ _ i' hi' hs' h5 hm'=>rw[hi]at hi';cases hi';exact absurd hs h5
  |jump _ _ j' i' hi' hs' ha' hm'=>
   rw[hi]at hi';cases hi';have:j=j':=by omega
   subst this;rw[ih hm']
theorem LD.lt{ins:List bq}{k m:Nat}(h:LD ins k m):k<ins.length:=by
 cases h with
 |ev _ i hi _=>exact(YR.1 hi).1
 |go _ _ i hi=>exact(YR.1 hi).1
 |jump _ _ j i hi=>exact(YR.1 hi).1
theorem Hq{α:Type}[BEq α][LawfulBEq α]:∀{l U:List α},l.Nodup→(∀x∈l,x∈U)→l.length≤U.length
 |[],U,_,_=>by simp
 | x::l,U,hn,hs=>by
  have hx:x∈U:=hs x ZM;have h1:=Yj.1 hn;have:=Hq (l:=l) (U:=U.erase x) h1.2 λy hy=>(List.mem_erase_of_ne (by rintro rfl;exact h1.1 hy)).2 (hs y (by simp[hy]))
  rw[List.length_erase_of_mem hx]at this;have:=List.length_pos_of_mem hx;simp only[Ys];omega
theorem PD:∀{n:Nat} {l:List Nat},l.Nodup→(∀j∈l,j<n)→l.length≤n:=by
 intro n l hn h;have:=Hq hn (U:=List.range n) λj hj=>Y3.2 (h j hj)
 simpa using this
def eh(t:ThrD)(c:Int):Bool:=decide (t.status=3)&&decide (t.cond=c)
def fitsS(w:aO)(s:SyncD):Bool:=decide (s.locks.length=w.locks.length)&&decide (s.done.length=w.futures.length)&&decide (s.threads.length=w.threads.length)&&w.conds.all λc=>inB c.mutex w.locks.length
def rwAt(w:aO)(o:Int):Bool:=(w.locks.getD o.toNat default).rw
def allowedS(w:aO)(k o:Int):Bool:=
 if k=1∨k=2∨k=5∨k=12∨k=13∨k=14∨k=15 then decide (o=-1)
 else if k=3∨k=4 then inB o w.cells.length
 else if k=6∨k=7 then inB o w.locks.length&&!rwAt w o
 else if k=8∨k=9∨k=10∨k=11 then inB o w.locks.length&&rwAt w o
 else if k=16∨k=17∨k=18∨k=19 then inB o w.conds.length
 else if k=20∨k=21 then inB o w.threads.length
 else if k=22∨k=23 then inB o w.futures.length
 else false
def aP(s:SyncD)(o:Int):LockD:=s.locks.getD o.toNat default
def aE(s:SyncD)(o:Int):ThrD:=s.threads.getD o.toNat default
def A8(s:SyncD)(o:Int):Bool:=s.done.getD o.toNat default
def mv(w:aO)(o:Int):Int:=(w.conds.getD o.toNat default).mutex
def cL(w:aO)(s:SyncD)(t k o:Int):Bool:=
 if k=6 then decide ((aP s o).owner=-1)
 else if k=10 then decide ((aP s o).owner=-1)&&decide ((aP s o).readers.length=0)
 else if k=8 then decide ((aP s o).owner=-1)&&!(aP s o).readers.contains t
 else if k=7∨k=11 then decide ((aP s o).owner=t)
 else if k=9 then(aP s o).readers.contains t
 else if k=12 then decide (s.tx=-1)
 else if k=13 then decide (s.tx=t)
 else if k=14 then !(aE s t).atomic
 else if k=15 then(aE s t).atomic
 else if k=16∨k=18∨k=19 then decide ((aP s (mv w o)).owner=t)
 else if k=20 then decide (o≠t)&&decide ((aE s o).status=0)
 else if k=21 then decide (o≠t)&&decide ((aE s o).status=5)
 else if k=22 then !A8 s o
 else if k=23 then A8 s o
 else true
def bn(w:aO)(s:SyncD)(t k o:Int):Bool:=
  fitsS w s&&inB t w.threads.length&&allowedS w k o &&
    (if k=1 then decide ((aE s t).status=1)
     else if k=17 then decide ((aE s t).status=4)&&decide ((aE s t).cond=o)&&decide ((aP s (mv w o)).owner=-1)
     else decide ((aE s t).status=2)&&cL w s t k o)
structure PE(w:aO)(s:SyncD):Prop where
 locks:s.locks.length=w.locks.length
 done:s.done.length=w.futures.length
 threads:s.threads.length=w.threads.length
 conds:∀c∈w.conds,inB c.mutex w.locks.length=true
theorem A9{w:aO}{s:SyncD}:fitsS w s=true↔PE w s:=by simp only[fitsS,Yl,decide_eq_true_eq,Yo];exact⟨λ⟨⟨⟨h1,h2⟩,h3⟩,h4⟩=>⟨h1,h2,h3,h4⟩,λ⟨h1,h2,h3,h4⟩=>⟨⟨⟨h1,h2⟩,h3⟩,h4⟩⟩
theorem M3{w:aO}{s:SyncD}(h:PE w s){o:Int}(ho:inB o w.conds.length=true):inB (mv w o) s.locks.length=true:=by
 obtain⟨h1,h2⟩:=ax.1 ho;have hlt:o.toNat<w.conds.length:=by omega
 rw[h.locks];have:w.conds.getD o.toNat default=w.conds[o.toNat]:=by simp[hlt]
 unfold mv;rw[this];exact h.conds _ (Yr hlt)
theorem PF{s:SyncD}(hr:∀l∈s.locks,l.readers.length<2^40)(o:Int):(aP s o).readers.length<2^62:=by
 unfold aP;rcases X9 o.toNat s.locks.length with h|h
 ·have:=hr _ (Yr h);simp[h];omega
 ·simp[List.getD,X8 h];decide
theorem kinds(k:Int):(k<1∨23<k)∨k=1∨k=2∨k=3∨k=4∨k=5∨k=6∨k=7∨k=8∨k=9∨k=10∨k=11∨k=12∨k=13∨k=14∨k=15∨k=16∨k=17∨k=18∨k=19∨k=20∨k=21∨k=22∨k=23:=by omega
theorem qq{w:aO}{k o:Int}(hk:k<1∨23<k):allowedS w k o=false:=by
 unfold allowedS
 repeat (rw[if_neg ZJ])
end Go.Proofs.YtdnpdghlggbklaaGreatDoor.Am
