/- A part of the proof; the statement is proved in the last part. -/
import Derived.Test.YtenbpcngcicamaaGreatDoorQbf
import Derived.Shelf.Small.Wraps
import Derived.Shelf.Sort.Plain
import Derived.Shelf.Slices.Turned
import Derived.Ground.Names2Prog
import Derived.Shelf.Slices.Clone
import Derived.Shelf.Slices.CompactI
import Derived.Shelf.Slices.In.SortNone
import Derived.Ground.SlgnProg
import Derived.Shelf.SlicesE.Clone
import Derived.Test.YtenbpcngcicamaaGreatDoorProg
import Derived.WalkSpells
import Derived.Deep.DeepMust
import Derived.Sort.OwnSortedInts
set_option linter.unusedSimpArgs false
set_option linter.unusedVariables false
section
namespace Go.Proofs
open Go.Shelf
def Tryz.lays189_ren:Go.Shelf.Ren:=⟨fun|189=>86|125=>116|257=>115|128=>138|129=>139|294=>129|295=>130|296=>131|297=>132|298=>133|299=>134|216=>135|300=>136|301=>137|328=>142|329=>143|330=>144|331=>145|332=>146|215=>147|343=>148|n=>n,fun|28=>54|3=>3|46=>210|0=>0|51=>230|53=>232|4=>4|183=>223|182=>222|131=>227|5=>5|9=>9|218=>234|222=>238|228=>240|229=>217|n=>n,fun|n=>n⟩
theorem Tryz.lays189:Go.Proofs.Lays.n189 Tryz.prog Tryz.lays189_ren:={
 mixed:=by kernel_rfl
 f125:=Tryz.func116.trans (congrArg some (by kernel_rfl))
 f128:=Tryz.func138.trans (congrArg some (by kernel_rfl))
 f129:=Tryz.func139.trans (congrArg some (by kernel_rfl))
 f189:=Tryz.func86.trans (congrArg some (by kernel_rfl))
 f215:=Tryz.func147.trans (congrArg some (by kernel_rfl))
 f216:=Tryz.func135.trans (congrArg some (by kernel_rfl))
 f257:=Tryz.func115.trans (congrArg some (by kernel_rfl))
 f294:=Tryz.func129.trans (congrArg some (by kernel_rfl))
 f295:=Tryz.func130.trans (congrArg some (by kernel_rfl))
 f296:=Tryz.func131.trans (congrArg some (by kernel_rfl))
 f297:=Tryz.func132.trans (congrArg some (by kernel_rfl))
 f298:=Tryz.func133.trans (congrArg some (by kernel_rfl))
 f299:=Tryz.func134.trans (congrArg some (by kernel_rfl))
 f300:=Tryz.func136.trans (congrArg some (by kernel_rfl))
 f301:=Tryz.func137.trans (congrArg some (by kernel_rfl))
 f328:=Tryz.func142.trans (congrArg some (by kernel_rfl))
 f329:=Tryz.func143.trans (congrArg some (by kernel_rfl))
 f330:=Tryz.func144.trans (congrArg some (by kernel_rfl))
 f331:=Tryz.func145.trans (congrArg some (by kernel_rfl))
 f332:=Tryz.func146.trans (congrArg some (by kernel_rfl))
 f343:=Tryz.func148.trans (congrArg some (by kernel_rfl))
 t0:=Tryz.underlying0
 a0:=Tryz.isAgg0
 z0:=Tryz.sizeOf0
 v0:=Tryz.zeroValue0
 t3:=Tryz.underlying3
 a3:=Tryz.isAgg3
 z3:=Tryz.sizeOf3
 v3:=Tryz.zeroValue3
 t4:=Tryz.underlying4
 a4:=Tryz.isAgg4
 z4:=Tryz.sizeOf4
 v4:=Tryz.zeroValue4
 t5:=Tryz.underlying5
 a5:=Tryz.isAgg5
 z5:=Tryz.sizeOf5
 v5:=Tryz.zeroValue5
 t9:=Tryz.underlying9
 a9:=Tryz.isAgg9
 z9:=Tryz.sizeOf9
 v9:=Tryz.zeroValue9
 t28:=Tryz.underlying54
 a28:=Tryz.isAgg54
 z28:=Tryz.sizeOf54
 v28:=Tryz.zeroValue54
 t46:=Tryz.underlying210
 a46:=Tryz.isAgg210
 z46:=Tryz.sizeOf210
 v46:=Tryz.zeroValue210
 t51:=Tryz.underlying230
 a51:=Tryz.isAgg230
 z51:=Tryz.sizeOf230
 v51:=Tryz.zeroValue230
 t53:=Tryz.underlying232
 a53:=Tryz.isAgg232
 z53:=Tryz.sizeOf232
 v53:=Tryz.zeroValue232
 t131:=Tryz.underlying227
 a131:=Tryz.isAgg227
 z131:=Tryz.sizeOf227
 v131:=Tryz.zeroValue227
 t182:=Tryz.underlying222
 a182:=Tryz.isAgg222
 z182:=Tryz.sizeOf222
 v182:=Tryz.zeroValue222
 t183:=Tryz.underlying223
 a183:=Tryz.isAgg223
 z183:=Tryz.sizeOf223
 v183:=Tryz.zeroValue223
 t218:=Tryz.underlying234
 a218:=Tryz.isAgg234
 z218:=Tryz.sizeOf234
 v218:=Tryz.zeroValue234
 t222:=Tryz.underlying238
 a222:=Tryz.isAgg238
 z222:=Tryz.sizeOf238
 v222:=Tryz.zeroValue238
 t228:=Tryz.underlying240
 a228:=Tryz.isAgg240
 z228:=Tryz.sizeOf240
 v228:=Tryz.zeroValue240
 t229:=Tryz.underlying217
 a229:=Tryz.isAgg217
 z229:=Tryz.sizeOf217
 v229:=Tryz.zeroValue217}
open Go.Sort Go.RowKit in
theorem Tryz.slices_Sort_int(blk off cap:Nat)(zs:List Int)(w:World)(hH:Holds (Value.int .i64) w blk off zs.toArray)(hblk:blk<w.heap.size)(hsz:zs.length<4611686018427387904):
  Calls Tryz.prog 86 #[.slice (some ⟨blk,off,none⟩) zs.length cap] w λe w'=>
   e=.returned (.tuple #[])∧∃n os,w'=grow (putRow (Value.int .i64) (Sort.ahead w n) blk off (zs.mergeSort λx y=>decide (x≤y)).toArray) os:=Any.slices_Sort_int Tryz.lays189 blk off cap zs w hH hblk hsz
def Tryz.laysNm220_ren:Go.Shelf.Ren:=⟨fun|20=>87|n=>n,fun|22=>54|3=>3|4=>4|0=>0|n=>n,fun|n=>n⟩
theorem Tryz.laysNm220:Go.Proofs.Lays2.n20 Tryz.prog Tryz.laysNm220_ren:={
 mixed:=by kernel_rfl
 f20:=Tryz.func87.trans (congrArg some (by kernel_rfl))
 t0:=Tryz.underlying0
 a0:=Tryz.isAgg0
 z0:=Tryz.sizeOf0
 v0:=Tryz.zeroValue0
 t3:=Tryz.underlying3
 a3:=Tryz.isAgg3
 z3:=Tryz.sizeOf3
 v3:=Tryz.zeroValue3
 t4:=Tryz.underlying4
 a4:=Tryz.isAgg4
 z4:=Tryz.sizeOf4
 v4:=Tryz.zeroValue4
 t22:=Tryz.underlying54
 a22:=Tryz.isAgg54
 z22:=Tryz.sizeOf54
 v22:=Tryz.zeroValue54
 i3:=by kernel_rfl}
open Go.RowKit Go.Lib Go.Sort in
theorem Tryz.slices_Compact_int(blk off cap:Nat)(zs:List Int)(w:World)(hH:Holds (Value.int .i64) w blk off zs.toArray)(hsz:zs.length≤9223372036854775807)(hcap:zs.length≤cap):
  Calls Tryz.prog 87 #[.slice (some ⟨blk,off,none⟩) zs.length cap] w λe w'=>e=.returned (.slice (some ⟨blk,off,none⟩) (Lib.compact zs).length cap)∧∃q,w'=putRow (Value.int .i64) (Sort.ahead w q) blk off (Lib.compact zs++List.replicate (zs.length-(Lib.compact zs).length) 0).toArray:=Any.slices_Compact_int Tryz.laysNm220 blk off cap zs w hH hsz hcap
open Go.RowKit Go.Lib Go.Sort in
theorem Tryz.slices_Compact_int_empty(a:Option Addr)(cap:Nat)(w:World):
  Calls Tryz.prog 87 #[.slice a 0 cap] w λe w'=>e=.returned (.slice a 0 cap)∧w'=w:=Any.slices_Compact_int_empty Tryz.laysNm220 a cap w
open Go.RowKit Go.Sort in
theorem Tryz.slices_Sort_int_none(p:Option Addr)(cap:Nat)(w:World):
  Calls Tryz.prog 86 #[.slice p 0 cap] w λe w'=>e=.returned (.tuple #[])∧w'=w:=Any.slices_Sort_int_none Tryz.lays189 p cap w
end Go.Proofs
end
section
namespace Go.Proofs.YtenbpcngcicamaaGreatDoor
open Go.ChangeShapes Go.WideShapes Go.ChangeAt Go.RowKit
theorem elemI:Elem Tryz.prog 54 3 (.int .i64 0) 1 8:=elem_mk Tryz.underlying54 (by kernel_rfl) rfl W5
set_option maxHeartbeats 1000000 in
set_option maxRecDepth 100000 in
theorem cloneI_any(A:Option Addr)(n c:Nat)(xs:List Value)(w:World)(hf:Flat w 1 A n xs)(h1:∀x∈xs,x.oneCell'=true)(hn:n*8≤140737488355328)(hA:A=none→n=0):
  Calls Tryz.prog 93 #[.slice A n c] w λe w'=>∃v,e=.returned v∧w'.ownsRow w.heap.size 3 1 v n xs∧Below w.heap.size w w':=by
 have HF:=Lib.hid hf;have H1:=Lib.hid h1;clear hf h1;have heq:=λ(W:World) (a:Option Addr) (l c:Nat)=>Lib.run_eql_slice_nil (P:=Tryz.prog) W 54 3 a l c 0 0 Tryz.underlying54;cases A with
 |none=>
  obtain rfl:n=0:=hA rfl;have hx:xs=[]:=V7 (by have:=HF.out.1;simpa using this);have Hx:=Lib.hid hx;clear hx HF H1
  go_enter Tryz.func93,Tryz.ntmps93
  go_wp2_with fail
  go_ret
  exact⟨_,rfl,by rw[Hx.out];exact Wz _ _ _ _,Below.refl _ _⟩
 |some a=>
  clear hA;have M0:Hid ((w.alloc (.cells #[] 3)).ownsRow w.heap.size 3 1 (.slice (some ⟨w.heap.size,0,none⟩) 0 0) 0 []):=Lib.hid (Wu w #[] 0 (Vl _) (by simp[maxLen]) W4)
  go_enter Tryz.func93,Tryz.ntmps93
  go_wp2_with (at_builtin;go_must (refine wpList_app rfl (.tmp 5) (.tmp 6) rfl elemI w.heap.size _ 0 [] rfl M0.out (some a) n c xs rfl (HF.out.kept ((Below.refl _ _).alloc (Vl _) _)) H1.out (by simp only[maxLen];omega) W1 W4 ?_);intro v1 w1 hown1 hg1)
  have hb1:=((Below.refl w.heap.size w).alloc (Vl _) _).grown hg1 W4 (own_from M0.out)
  go_wp2_with fail
  go_ret
  exact⟨_,rfl,by simpa using hown1,hb1⟩
end Go.Proofs.YtenbpcngcicamaaGreatDoor
end
section
namespace Go.Proofs.YtenbpcngcicamaaGreatDoor
open Go.ChangeShapes Go.WideShapes Go.ChangeAt Go.RowKit
set_option maxRecDepth 100000
theorem append_zero(t ty e:TypeId)(P:Program)(w:World)(ht:P.underlying t=some (.slice e))(hi:∃i,P.info? e=some i)(A B:Option Addr)(c:Nat):(Builtin.append_ #[t,t] ty #[.slice A 0 0,.slice B 0 c]).run P w=.ok (.slice A 0 0) w:=by obtain⟨i,hi⟩:=hi;cases A<;>cases B<;>simp[Builtin.append_,run_underlying ht,sizeOf,typeInfo,hi,Builtin.lenOf,Builtin.firstCells,loadCells,loadCellsFrom,storeCells]
theorem cloneI_zero(A:Option Addr)(c:Nat)(w:World):Calls Tryz.prog 93 #[.slice A 0 c] w λe w'=>∃B,e=.returned (.slice B 0 0)∧Below w.heap.size w w':=by
 have heq:=λ(W:World) (a:Option Addr) (l c:Nat)=>Lib.run_eql_slice_nil (P:=Tryz.prog) W 54 3 a l c 0 0 Tryz.underlying54;cases A with
 |none=>
  go_enter Tryz.func93,Tryz.ntmps93
  go_wp2_with fail
  go_ret
  exact⟨_,rfl,Below.refl _ _⟩
 |some a=>
  have hinf:∃i,Tryz.prog.info? 3=some i:=Option.isSome_iff_exists.1 (show(Tryz.prog.info? 3).isSome=true by kernel_rfl);have happ:=λ(W:World) (ty:TypeId) (A B:Option Addr)=>append_zero 54 ty 3 Tryz.prog W Tryz.underlying54 hinf A B c
  go_enter Tryz.func93,Tryz.ntmps93
  go_wp2_with fail
  go_ret
  exact⟨_,rfl,(Below.refl _ _).alloc (Vl _) _⟩
end Go.Proofs.YtenbpcngcicamaaGreatDoor
end
namespace Go.Proofs.YtenbpcngcicamaaGreatDoor.Am
section
open Go.RowKit Go.Sort
def zr(l:List Int):List Int:=l.mergeSort λx y=>decide (x≤y)
theorem ql(l:List Int):(zr l).length=l.length:=by simp[zr]
theorem Ih{xs:List Int}{i:Nat}{r:List AV}(h:(xs.map aj)[i]? =some r):∃x,xs[i]? =some x∧r=[.int .i64 x]:=by
 rw[VA]at h;cases hx:xs[i]? with
 |none=>rw[hx]at h;cases h
 |some x=>rw[hx]at h;cases h;exact⟨x,rfl,rfl⟩
theorem Ii{P:Program}{f:FuncId}(hbody:∃fn c,P.funcs[f]? =some fn∧fn.body=some c)(b:Nat)(xs ys:List Int)(hlen:ys.length=xs.length)(v:AV)(ret:Addr→Nat→Value)
  (hrep:∀(w':World) (σ:bb) (T:Nat→Prop) (pl:cg) (a:Addr) (cap:Nat),σ b=some pl→pl.ok→xs.length≤cap→cap≤maxLen→(0<cap→a=⟨pl.block,pl.base+0*pl.size,none⟩∧∃cs e,w'.heap[pl.block]? =some (.cells cs e (0,0))∧pl.base+(0+cap)*pl.size≤cs.size)→aS w' σ T v (ret a cap))
  (hpos:∀(blk off cap:Nat) (w:World),Holds (Value.int .i64) w blk off xs.toArray→blk<w.heap.size→xs.length≤cap→Calls P f #[.slice (some ⟨blk,off,none⟩) xs.length cap] w λe w'=>e=.returned (ret ⟨blk,off,none⟩ cap)∧∃n os,w'=grow (putRow (Value.int .i64) (Sort.ahead w n) blk off ys.toArray) os)
  (hzero:xs.length=0→∀(a:Addr) (cap:Nat) (w:World),Calls P f #[.slice (some a) 0 cap] w λe w'=>e=.returned (ret a cap)∧w'=w) :
  af P f [.sl b 0 xs.length] [(b,⟨1,xs.map aj⟩)] λu L=>u=v∧L=[(b,⟨1,ys.map aj⟩)]:=by
 refine⟨hbody,λH hb hs=>⟨v,H.put b (some ⟨1,ys.map aj⟩),[(b,⟨1,ys.map aj⟩)],?_,?_,rfl,rfl⟩⟩
 ·intro w σ vs hW hvs;obtain⟨v,rfl,hv⟩:=KY hvs;obtain⟨pl,a,cap,rfl,hsg,hnc,hmx,ha⟩:=hv.sl_inv;have hg:H.get b=some ⟨1,xs.map aj⟩:=hs.get (b,⟨1,xs.map aj⟩) W4;obtain⟨pl',cs,e,g1,g2⟩:=hW.live b _ hg;rw[hsg]at g1;cases g1;replace g2:=g2.1 (hv.sl_ok hsg);have hsz:pl.size=1:=g2.size;rcases We xs.length with h0|h0
  ·have hx:xs=[]:=Wo.1 h0;have hy:ys=[]:=Wo.1 W1;have hz:=hzero h0 a cap w;rw[h0];refine hz.mono ?_;rintro e' w' ⟨rfl,rfl⟩;have hput:=hW.put hg hsg (lw.refl g2.block) (x':=⟨1,ys.map aj⟩) g2.size.symm (by simp[hy]) (by simpa[hy,hx]using g2.room) (by simp[hy]);exact⟨_,σ,rfl,hrep _ _ _ pl a cap hsg (hv.sl_ok hsg) hnc hmx ha,hput.1,hput.2,λc pl hc=>.inl hc⟩
  ·have ha':=ha;obtain⟨rfl,cs',te,hcs',hroom⟩:=ha W1;rw[g2.block]at hcs';cases hcs';have hr:=g2.room;simp only[Wq,Nat.mul_one]at hr;have hcell:∀(i:Nat) (x:Int),xs[i]? =some x→cs[pl.base+i]? =some (.int .i64 x):=λi x hx=>by
    have hi:=ay hx;have hi':pl.base+i<cs.size:=by omega
    have:=g2.rep i [.int .i64 x] 0 (.int .i64 x) cs[pl.base+i] (by simp[hx,aj]) rfl (by simp[VM hi']);cases hq:cs[pl.base+i]with
    |_=>rw[hq]at this;cases this<;>rw[VM hi',hq]
   have hH:Holds (Value.int .i64) w pl.block (pl.base+0*pl.size) xs.toArray:=λj hj=>by
    have hj':j<xs.length:=by simpa using hj
    refine⟨?_,by simp[World.frozen?,g2.block]⟩;have:=hcell j xs[j] (Vk hj');simp[World.cell?,g2.block,this,hj']
   refine(hpos pl.block (pl.base+0*pl.size) cap w hH (hW.lt b pl hsg) hnc).mono ?_;rintro e' w' ⟨rfl,n,os,rfl⟩;have hz:pl.base+0*pl.size=pl.base:=by omega
   rw[show putRow (Value.int .i64) (Sort.ahead w n) pl.block (pl.base+0*pl.size) ys.toArray=putRow (Value.int .i64) (Sort.ahead w n) pl.block pl.base ys.toArray by rw[hz]];have hw:lw w (putRow (Value.int .i64) (Sort.ahead w n) pl.block pl.base ys.toArray) pl.block cs (putCells (Value.int .i64) pl.base ys.toArray cs) e:=
    ⟨rfl,rfl,rfl,by simp[Sort.ahead],g2.block,by simp[putRow,mapBlock,Sort.ahead,Array.getElem?_modify,g2.block,onCells],by simp[putCells],λd hd=>by
     have:pl.block≠d:=λe=>hd e.symm
     simp[putRow,mapBlock,Sort.ahead,Array.getElem?_modify,this]⟩
   obtain⟨p1,p2⟩:=hW.put hg hsg hw (x':=⟨1,ys.map aj⟩) g2.size.symm (λi r hr=>by obtain⟨x,_,rfl⟩:=Ih hr;rfl) (by simp only[Wq,Nat.mul_one];omega) (λi r j a u hr hj hu=>by
    obtain⟨x,hx,rfl⟩:=Ih hr
    match j,hj with
    |0,hj=>
     cases hj;have hi:=ay hx;have hi':pl.base+i<cs.size:=by omega
     simp only[Nat.mul_one,WJ]at hu;have:(putCells (Value.int .i64) pl.base ys.toArray cs)[pl.base+i]? =some (.int .i64 x):=by
      have hx':ys[i]=x:=by rw[Vk hi]at hx;exact WT hx
      simp[putCells,hi',hi,hx']
     rw[this]at hu;cases hu;exact .int _ _
    |j+1,hj=>simp at hj)
   generalize hw1:putRow (Value.int .i64) (Sort.ahead w n) pl.block pl.base ys.toArray=w1 at p1 p2;have hbl:Below w1.heap.size w1 (grow w1 os):=⟨rfl,rfl,rfl,by simp[grow],λk hk=>heap_grow_old _ _ hk⟩;have hE:=p2.trans (iU hbl λc hc=>(p1.apart c hc).1);exact⟨_,σ,rfl,hrep _ _ _ pl _ cap hsg (hv.sl_ok hsg) hnc hmx (λh=>⟨rfl,by obtain⟨cs2,k1,k2⟩:=hE.shape _ _ _ g2.block;exact⟨cs2,_,k1,W1⟩⟩),zf p1 hbl,p2.trans (iU hbl λc hc=>(p1.apart c hc).1),λc pl hc=>.inl hc⟩
 ·have hg:H.get b=some ⟨1,xs.map aj⟩:=hs.get (b,⟨1,xs.map aj⟩) W4;refine⟨Vl _,λc hc=>?_,⟨W4,λp hp=>?_⟩,λc x hc hn=>⟨?_,?_⟩,λc hc h0=>?_,λc hc hlt=>?_⟩
  ·rw[ac.get_put,if_neg];exact hb c hc;rintro rfl;rw[hb _ hc]at hg;cases hg
  ·simp only[Vr]at hp;subst hp;rw[ac.get_put,if_pos rfl]
  ·rw[ac.get_put,if_neg];exact hc;rintro rfl;exact hn W4
  ·simpa using hn
  ·rw[ac.get_put,if_neg];exact h0;rintro rfl;rw[hg]at h0;cases h0
  ·simpa using hc
theorem K5(b:Nat)(xs:List Int)(hl:xs.length<4611686018427387904):af Tryz.prog 86 [.sl b 0 xs.length] [(b,⟨1,xs.map aj⟩)] λv L=>v=.tup []∧L=[(b,⟨1,(zr xs).map aj⟩)]:=
 Ii ⟨_,_,Tryz.func86,rfl⟩ b xs (zr xs) (ql xs) (.tup []) (λ_ _=>.tuple #[]) (λ_ _ _ _ _ _ _ _ _ _ _=>.tup [] [] rfl W4)
  (λblk off cap w hH hblk _=>Tryz.slices_Sort_int blk off cap xs w hH hblk hl) (λ_ a cap w=>Tryz.slices_Sort_int_none (some a) cap w)
theorem o9(l:List Int):(Lib.compact l).length≤l.length:=by unfold Lib.compact Lib.compactUpTo;rw[Wq];exact VD (WO _ _) W4
theorem Db(b:Nat)(xs:List Int)(hl:xs.length≤9223372036854775807):af Tryz.prog 87 [.sl b 0 xs.length] [(b,⟨1,xs.map aj⟩)] λv L=>v=.sl b 0 (Lib.compact xs).length∧L=[(b,⟨1,(Lib.compact xs++List.replicate (xs.length-(Lib.compact xs).length) 0).map aj⟩)]:=
 Ii ⟨_,_,Tryz.func87,rfl⟩ b xs _ (by have:=o9 xs;simp;omega) (.sl b 0 (Lib.compact xs).length) (λa cap=>.slice (some a) (Lib.compact xs).length cap)
  (λw_ σ T pl a cap h1 h0 h2 h3 h4=>.sl b 0 _ pl a cap h1 h0 (VD (o9 xs) h2) h3 h4)
  (λblk off cap w hH hblk hcap=>(Tryz.slices_Compact_int blk off cap xs w hH hl hcap).mono λe w' ⟨h1,q,h2⟩=>⟨h1,q,#[],by rw[h2,grow_empty]⟩)
  (λh0 a cap w=>by
   have hx:xs=[]:=Wo.1 h0;subst hx;exact Tryz.slices_Compact_int_empty (some a) cap w)
theorem FH(xs:List Int)(hl:xs.length*8≤140737488355328):af Tryz.prog 93 [.lst (xs.map aj)] [] λv L=>∃o,v=am o xs.length∧L=ae o 1 (xs.map aj)∧(o=none→xs=[]):=by
 rcases List.eq_nil_or_concat xs with rfl|⟨ys,y,hxs⟩
 ·exact(JD cloneI_zero ⟨_,_,Tryz.func93,rfl⟩).mono λv L ⟨h1,h2⟩=>⟨none,h1,h2,λ_=>rfl⟩
 ·have hne:xs.map aj≠[]:=by rw[hxs];simp
  refine(C4 (λA n c xs w hf h1 hn hA=>cloneI_any A n c xs w hf h1 hn hA) ⟨_,_,Tryz.func93,rfl⟩ (xs.map aj) hne (by simp[aj,AV.one]) (λr hr=>by obtain⟨x,_,rfl⟩:=VY.1 hr;rfl) (by simpa using hl)).mono ?_;rintro v L ⟨b,rfl,rfl⟩;exact⟨some b,by simp[am],rfl,λh=>by cases h⟩
end
end Go.Proofs.YtenbpcngcicamaaGreatDoor.Am
section
namespace Go.Proofs.YtenbpcngcicamaaGreatDoor
open Go.ChangeShapes Go.WideShapes Go.ChangeAt Go.RowKit
theorem elemB:Elem Tryz.prog 41 4 (.bool false) 1 1:=elem_mk Tryz.underlying41 (by kernel_rfl) rfl W5
set_option maxHeartbeats 1000000 in
set_option maxRecDepth 100000 in
theorem cloneB_any(A:Option Addr)(n c:Nat)(xs:List Value)(w:World)(hf:Flat w 1 A n xs)(h1:∀x∈xs,x.oneCell'=true)(hn:n*1≤140737488355328)(hA:A=none→n=0):
  Calls Tryz.prog 113 #[.slice A n c] w λe w'=>∃v,e=.returned v∧w'.ownsRow w.heap.size 4 1 v n xs∧Below w.heap.size w w':=by
 have HF:=Lib.hid hf;have H1:=Lib.hid h1;clear hf h1;have heq:=λ(W:World) (a:Option Addr) (l c:Nat)=>Lib.run_eql_slice_nil (P:=Tryz.prog) W 41 4 a l c 0 0 Tryz.underlying41;cases A with
 |none=>
  obtain rfl:n=0:=hA rfl;have hx:xs=[]:=V7 (by have:=HF.out.1;simpa using this);have Hx:=Lib.hid hx;clear hx HF H1
  go_enter Tryz.func113,Tryz.ntmps113
  go_wp2_with fail
  go_ret
  exact⟨_,rfl,by rw[Hx.out];exact Wz _ _ _ _,Below.refl _ _⟩
 |some a=>
  clear hA;have M0:Hid ((w.alloc (.cells #[] 4)).ownsRow w.heap.size 4 1 (.slice (some ⟨w.heap.size,0,none⟩) 0 0) 0 []):=Lib.hid (Wu w #[] 0 (Vl _) (by simp[maxLen]) W4)
  go_enter Tryz.func113,Tryz.ntmps113
  go_wp2_with (at_builtin;go_must (refine wpList_app rfl (.tmp 5) (.tmp 6) rfl elemB w.heap.size _ 0 [] rfl M0.out (some a) n c xs rfl (HF.out.kept ((Below.refl _ _).alloc (Vl _) _)) H1.out (by simp only[maxLen];omega) W1 W4 ?_);intro v1 w1 hown1 hg1)
  have hb1:=((Below.refl w.heap.size w).alloc (Vl _) _).grown hg1 W4 (own_from M0.out)
  go_wp2_with fail
  go_ret
  exact⟨_,rfl,by simpa using hown1,hb1⟩
end Go.Proofs.YtenbpcngcicamaaGreatDoor
end
namespace Go.Proofs.YtenbpcngcicamaaGreatDoor.Am
section
open Go.RowKit
theorem LP(xs:List Bool)(hl:xs.length≤140737488355328):af Tryz.prog 113 [.lst (xs.map aT)] [] λv L=>∃o,v=aO o xs.length∧L=ae o 1 (xs.map aT)∧(o=none→xs=[]):=by refine(fE (λA n c xs w hf h1 hn hA=>cloneB_any A n c xs w hf h1 hn hA) ⟨_,_,Tryz.func113,rfl⟩ (xs.map aT) (by simp[aT,AV.one]) (λr hr=>by obtain⟨x,_,rfl⟩:=VY.1 hr;rfl) (by simpa using hl)).mono ?_;rintro v L ⟨o,rfl,rfl,h⟩;exact⟨o,W4,rfl,λe=>by simpa using h e⟩
end
end Go.Proofs.YtenbpcngcicamaaGreatDoor.Am
section
namespace Go.Proofs.YtenbpcngcicamaaGreatDoor
open Go.ChangeShapes Go.WideShapes Go.ChangeAt Go.RowKit
theorem elemT:Elem Tryz.prog 42 181 (.agg #[.int .i64 0,.int .i64 0,.bool false]) 3 24:=elem_mk Tryz.underlying42 (by kernel_rfl) rfl W5
set_option maxHeartbeats 1000000 in
set_option maxRecDepth 100000 in
theorem cloneT_any(A:Option Addr)(n c:Nat)(xs:List Value)(w:World)(hf:Flat w 3 A n xs)(h1:∀x∈xs,x.oneCell'=true)(hn:n*24≤140737488355328)(hA:A=none→n=0):
  Calls Tryz.prog 114 #[.slice A n c] w λe w'=>∃v,e=.returned v∧w'.ownsRow w.heap.size 181 3 v n xs∧Below w.heap.size w w':=by
 have HF:=Lib.hid hf;have H1:=Lib.hid h1;clear hf h1;have heq:=λ(W:World) (a:Option Addr) (l c:Nat)=>Lib.run_eql_slice_nil (P:=Tryz.prog) W 42 181 a l c 0 0 Tryz.underlying42;cases A with
 |none=>
  obtain rfl:n=0:=hA rfl;have hx:xs=[]:=V7 (by have:=HF.out.1;simpa using this);have Hx:=Lib.hid hx;clear hx HF H1
  go_enter Tryz.func114,Tryz.ntmps114
  go_wp2_with fail
  go_ret
  exact⟨_,rfl,by rw[Hx.out];exact Wz _ _ _ _,Below.refl _ _⟩
 |some a=>
  clear hA;have M0:Hid ((w.alloc (.cells #[] 181)).ownsRow w.heap.size 181 3 (.slice (some ⟨w.heap.size,0,none⟩) 0 0) 0 []):=Lib.hid (Wu w #[] 0 (Vl _) (by simp[maxLen]) W4)
  go_enter Tryz.func114,Tryz.ntmps114
  go_wp2_with (at_builtin;go_must (refine wpList_app rfl (.tmp 5) (.tmp 6) rfl elemT w.heap.size _ 0 [] rfl M0.out (some a) n c xs rfl (HF.out.kept ((Below.refl _ _).alloc (Vl _) _)) H1.out (by simp only[maxLen];omega) W1 W4 ?_);intro v1 w1 hown1 hg1)
  have hb1:=((Below.refl w.heap.size w).alloc (Vl _) _).grown hg1 W4 (own_from M0.out)
  go_wp2_with fail
  go_ret
  exact⟨_,rfl,by simpa using hown1,hb1⟩
end Go.Proofs.YtenbpcngcicamaaGreatDoor
end
namespace Go.Proofs.YtenbpcngcicamaaGreatDoor.Am
section
open Go.RowKit
theorem FI(xs:List ThrD)(hl:xs.length*24≤140737488355328):af Tryz.prog 114 [.lst (xs.map ThrD.enc)] [] λv L=>∃o,v=aO o xs.length∧L=ae o 3 (xs.map ThrD.enc)∧(o=none→xs=[]):=by refine(fE (λA n c xs w hf h1 hn hA=>cloneT_any A n c xs w hf h1 hn hA) ⟨_,_,Tryz.func114,rfl⟩ (xs.map ThrD.enc) (by simp[ThrD.enc,AV.one]) (λr hr=>by obtain⟨x,_,rfl⟩:=VY.1 hr;rfl) (by simpa using hl)).mono ?_;rintro v L ⟨o,rfl,rfl,h⟩;exact⟨o,W4,rfl,λe=>by simpa using h e⟩
end
end Go.Proofs.YtenbpcngcicamaaGreatDoor.Am
section
namespace Go.Proofs.YtenbpcngcicamaaGreatDoor
open Go.ChangeShapes Go.WideShapes Go.ChangeAt Go.RowKit
theorem elemJ:Elem Tryz.prog 45 2 (.int .i64 0) 1 8:=elem_mk Tryz.underlying45 (by kernel_rfl) rfl W5
set_option maxHeartbeats 1000000 in
set_option maxRecDepth 100000 in
theorem cloneJ_any(A:Option Addr)(n c:Nat)(xs:List Value)(w:World)(hf:Flat w 1 A n xs)(h1:∀x∈xs,x.oneCell'=true)(hn:n*8≤140737488355328)(hA:A=none→n=0):
  Calls Tryz.prog 92 #[.slice A n c] w λe w'=>∃v,e=.returned v∧w'.ownsRow w.heap.size 2 1 v n xs∧Below w.heap.size w w':=by
 have HF:=Lib.hid hf;have H1:=Lib.hid h1;clear hf h1;have heq:=λ(W:World) (a:Option Addr) (l c:Nat)=>Lib.run_eql_slice_nil (P:=Tryz.prog) W 45 2 a l c 0 0 Tryz.underlying45;cases A with
 |none=>
  obtain rfl:n=0:=hA rfl;have hx:xs=[]:=V7 (by have:=HF.out.1;simpa using this);have Hx:=Lib.hid hx;clear hx HF H1
  go_enter Tryz.func92,Tryz.ntmps92
  go_wp2_with fail
  go_ret
  exact⟨_,rfl,by rw[Hx.out];exact Wz _ _ _ _,Below.refl _ _⟩
 |some a=>
  clear hA;have M0:Hid ((w.alloc (.cells #[] 2)).ownsRow w.heap.size 2 1 (.slice (some ⟨w.heap.size,0,none⟩) 0 0) 0 []):=Lib.hid (Wu w #[] 0 (Vl _) (by simp[maxLen]) W4)
  go_enter Tryz.func92,Tryz.ntmps92
  go_wp2_with (at_builtin;go_must (refine wpList_app rfl (.tmp 5) (.tmp 6) rfl elemJ w.heap.size _ 0 [] rfl M0.out (some a) n c xs rfl (HF.out.kept ((Below.refl _ _).alloc (Vl _) _)) H1.out (by simp only[maxLen];omega) W1 W4 ?_);intro v1 w1 hown1 hg1)
  have hb1:=((Below.refl w.heap.size w).alloc (Vl _) _).grown hg1 W4 (own_from M0.out)
  go_wp2_with fail
  go_ret
  exact⟨_,rfl,by simpa using hown1,hb1⟩
end Go.Proofs.YtenbpcngcicamaaGreatDoor
end
namespace Go.Proofs.YtenbpcngcicamaaGreatDoor.Am
section
set_option maxRecDepth 100000
def Dc(Q:R)(b:Kn)(c d e f g:AV)(a:SH):Prop:=W.un .not g λh=>wk h (Q (.bool false) a) (wb .add 3 c (.W6 1) λi=>b [d,e,f,i] a)
def Dd(Q:R)(f:Kn)(b:SH)(c d e g:AV):Prop:=lG 2 c d b λh=>qr [(.str []),(.W6 0)] 2 h b λi a=>aA 1 i a λj=>aA 1 e a λk=>W.len k λl=>wc (.fn 110 []) [j,l] a (Dc Q f d e c g)
def pb(Q:R)(d:Vs)(a:SH)(e:Kn):Prop:=yP 2 33 34 35 d λf g b c=>wb .lss 3 c b λh=>wk h ((Dd Q e a g c f b)) (Q (.bool true) a)
def sh(l m:AV)(L:SH)(Q:R):Prop:=W.box l L λn o=>W.box m o λp q=>W.frz1 n q λc r=>W.frz1 p r λd e=>aA 0 d e λs=>W.len s λt=>aA 1 c e λu=>W.len u λv=>wb .neq 3 t v λa=>wg a false (W.faddr 2 d) e λw g=>wg a false (wl w g) g λx y=>wg a false (W.len x) y λz A=>wg a false (W.faddr 3 c) A λB h=>wg a false (wl B h) h λC D=>wg a false (W.len C) D λE F=>wg a false (wb .neq 3 z E) F λG H=>W.pick a (.bool true) G λb=>wg b false (W.faddr 3 d) H λI i=>wg b false (wl I i) i λJ M=>wg b false (W.len J) M λN O=>wg b false (W.faddr 4 c) O λP j=>wg b false (wl P j) j λS T=>wg b false (W.len S) T λU V=>wg b false (wb .neq 3 N U) V λX f=>W.pick b (.bool true) X λY=>wk Y (Q (.bool false) f) (aA 2 c f λk=>W.len k λZ=>W.loop (pb Q) [c,k,Z,(.W6 0)] f)
theorem De(t0 t1:AV)(L:SH)(Q:R)(h:sh t0 t1 L Q):af Tryz.prog 109 [t0,t1] L Q:=
 fs [] [(4,[2,33,34,35])] [(0,[2,3]),(5,[6])] [] Tryz.func109 h
def Bv(d:Kn)(a:SH)(b c e f:AV):Prop:=aA 0 b a λg=>W.idx 2 g c a λh=>W.faddr 0 h λi=>W.store 1 i (.W6 (-1)) a λj=>wb .add 3 c (.W6 1) λk=>d [e,b,f,k] j
def Bw(Q:R)(a:SH)(b c:AV):Prop:=aA 3 b a λf=>W.idx 3 f (.W6 0) a λg=>W.faddr 0 g λh=>W.store 1 h (.W6 1) a λd=>bY 4 b d λi=>W.store 4 c i d λe=>W.load true 4 c e λj=>Q j e
def Bx(Q:R)(a:SH)(b c:AV):Prop:=aA 3 b a λe=>W.len e λf=>wb .gtr 3 f (.W6 0) λg=>wk g ((Bw Q a b c)) (bY 4 b a λh=>W.store 4 c h a λd=>W.load true 4 c d λi=>Q i d)
def m8(Q:R)(f:Vs)(a:SH)(g:Kn):Prop:=yP 2 3 20 21 f λb c d e=>wb .lss 3 e d λh=>wk h ((Bv g a c e b d)) ((Bx Q a c b))
def pd(r:AV)(L:SH)(Q:R):Prop:=W.box r L λs t=>W.alloc [.nils,(.W6 0),.nils,.nils] t λu v=>W.frz1 s v λc g=>(true=true)∧(aL 1 c [] 1 g λw a=>W.len w λh=>W.calm [] ⟨3,[],[],[],false,[]⟩ (W.mslice 2 32 [(.W6 0),.nils] h h g λi j=>wn [] [] (aa i) [] λb=>aL 3 c [rm 3 b,rm 1 a] 5 j λx d=>W.len x λk=>W.calm [rm 3 b,rm 1 a] ⟨7,[],[],[],false,[]⟩ (W.mslice 1 1 [(.bool false)] k k j λl m=>wn [] [] (aa l) [] λe=>aL 4 c [rm 7 e,rm 5 d,rm 3 b,rm 1 a] 9 m λy z=>W.len y λn=>W.calm [rm 7 e,rm 5 d,rm 3 b,rm 1 a] ⟨11,[],[],[],false,[]⟩ (W.mslice 3 24 [(.W6 0),(.W6 0),(.bool false)] n n m λo A=>wn [] [] (aa o) [] λB=>W.build [.nils,(.W6 0),.nils,.nils] [(0,1,i),(1,1,(.W6 (-1))),(2,1,l),(3,1,o)] λC=>W.calm [rm 11 B,rm 9 z,rm 7 e,rm 5 d,rm 3 b,rm 1 a] ⟨13,[],[],[],false,[]⟩ (W.alloc [.nils,(.W6 0),.nils,.nils] A λf D=>wn [] [] (aa f) [] λH=>ds [] 14 4 f C D λE I=>W.frz1 f E λp q=>aA 0 p q λF=>W.len F λG=>W.loop (m8 Q) [u,p,G,(.W6 0)] q)))))
theorem By(t0:AV)(L:SH)(Q:R)(h:pd t0 L Q):af Tryz.prog 54 [t0] L Q:=
 fs [] [(3,[2,3,20,21])] [(0,[1]),(1,[3])] [(1,[0,1,3,7,0,16,48,112,0,256,768,1792,4095,0,16383])] Tryz.func54 h
def wx(Q:R)(c:SH)(l m v w:AV):Prop:=(true=true)∧(aL 0 m [] 1 c λx d2=>wb .eql 3 x (.W6 4) λb=>W.dgrd b true (λy=>W.faddr 1 m λz=>y z c rz) c λA d d3=>W.dgrd b true (λB=>dl [] 5 A d λC D=>B C d D) d λE n d4=>W.dgrd b true (λF=>F l n rz) n λG o d5=>W.dgrd b true (λH=>wb .eql 3 E G λI=>H I o rz) o λJ p d6=>W.pick b J (.bool false) λa=>W.dgrd a true (λM=>W.faddr 0 v λN=>M N p rz) p λO e d7=>W.dgrd a true (λP=>dl [] 11 O e λS T=>P S e T) e λU q f=>W.dgrd a true (λV=>W.faddr 2 w λX=>V X q rz) q λY g d8=>W.dgrd a true (λZ=>dl [rm 11 f] 13 Y g λa0 a1=>Z a0 g a1) g λa2 r d9=>W.dgrd a true (λa3=>a3 l r rz) r λa4 h e0=>W.dgrd a true (λa5=>di [rm 11 f] 15 2 a2 a4 h λa6 a7=>a5 a6 h a7) h λa8 s e1=>W.dgrd a true (λa9=>W.faddr 1 a8 λb0=>a9 b0 s rz) s λb1 i e2=>W.dgrd a true (λb2=>dl [rm 11 f] 17 b1 i λb3 b4=>b2 b3 i b4) i λb5 j e3=>W.dgrd a true (λb6=>di [] 18 2 U b5 j λb7 b8=>b6 b7 j b8) j λb9 t e4=>W.dgrd a true (λc0=>W.faddr 0 b9 λc1=>c0 c1 t rz) t λc2 k e5=>W.dgrd a true (λc3=>dl [] 20 c2 k λc4 c5=>c3 c4 k c5) k λc6 u e6=>W.dgrd a true (λc7=>wb .eql 3 c6 (.W6 (-1)) λc8=>c7 c8 u rz) u λc9 d0 e7=>W.pick a c9 (.bool false) λd1=>Q d1 d0)
def wA(Q:R)(b:SH)(e f g h i j:AV):Prop:=aA 0 h b λk=>wb .eql 3 k (.W6 2) λa=>wg a true (bY 6 i b) b λl c=>wg a true (bY 4 j c) c λm n=>bD a true e n λo p=>bD a true f p λq r=>bD a true g r λs d=>W.grd a true (λt=>wc (.fn 112 []) [l,m,o,q,s] d λu v=>t u v) d λw x=>W.pick a w (.bool false) λy=>Q y x
def wB(Q:R)(b:SH)(f c g d h:AV):Prop:=aA 3 d b λi=>lG 3 i f b λj=>qr [(.W6 0),(.W6 0),(.bool false)] 3 j b λe a=>wb .eql 3 c (.W6 1) λk=>wk k (aA 0 e a λl=>wb .eql 3 l (.W6 1) λm=>Q m a) (wb .eql 3 c (.W6 17) λn=>wk n ((wx Q a g e d h)) ((wA Q a f c g e h d)))
def wC(Q:R)(d e f c l m:AV)(n:SH):Prop:=W.un .not m λa=>bD a false d n λo p=>wg a false (W.faddr 4 c) p λq g=>wg a false (wl q g) g λr s=>wg a false (W.len r) s λt h=>W.grd a false (λu=>wc (.fn 110 []) [o,t] h λv w=>u v w) h λx y=>wg a false (W.un .not x) y λz i=>W.pick a (.bool true) z λb=>wg b false (bY 6 c i) i λA B=>bD b false e B λC D=>bD b false f D λE j=>W.grd b false (λF=>wc (.fn 111 []) [A,C,E] j λG H=>F G H) j λI J=>wg b false (W.un .not I) J λM k=>W.pick b (.bool true) M λN=>wk N (Q (.bool false) k) ((wB Q k d e f l c))
def lI(d e f g h:AV)(L:SH)(Q:R):Prop:=W.box d L λi j=>W.box e j λk l=>W.frz1 i l λb m=>W.frz1 k m λc a=>bY 6 b a λn=>bY 4 c a λo=>wc (.fn 109 []) [n,o] a (wC Q f g h b c)
theorem wD(t0 t1 t2 t3 t4:AV)(L:SH)(Q:R)(h:lI t0 t1 t2 t3 t4 L Q):af Tryz.prog 84 [t0,t1,t2,t3,t4] L Q:=
 fs [] [] [(0,[5,6]),(3,[11])] [(8,[0,1,3,7,15,31,15,127,255,511,1023,2047,1023,5119,1023,29695,62463,127999,262143,524287,1048575,2097151,4194303,8388607])] Tryz.func84 h
def wE(Q:R)(e f a:AV)(g:SH):Prop:=wg a true (W.faddr 1 e) g λh b=>wg a true (wl h b) b λi j=>bD a true f j λk c=>wg a true (W.idx 2 i k c) c λl m=>wg a true (W.faddr 1 l) m λn d=>wg a true (wl n d) d λo p=>wg a true (W.un .not o) p λq r=>W.pick a q (.bool false) λs=>Q s r
def wF(Q:R)(e f a:AV)(g:SH):Prop:=wg a true (W.faddr 1 e) g λh b=>wg a true (wl h b) b λi j=>bD a true f j λk c=>wg a true (W.idx 2 i k c) c λl m=>wg a true (W.faddr 1 l) m λn d=>wg a true (wl n d) d λo p=>W.pick a o (.bool false) λq=>Q q p
def wG(Q:R)(b:Vs)(a:SH):Prop:=sg 2 3 79 b λc d e=>wk e (aA 3 d a λf=>W.len f λg=>wc (.fn 110 []) [c,g] a λh i=>Q h i) (Q (.bool false) a)
def wH(Q:R)(a:SH)(b c d:AV):Prop:=W.join (wG Q) λe=>wb .eql 3 b (.W6 22) λf=>wk f (e [c,d,f] a) (wb .eql 3 b (.W6 23) λg=>e [c,d,g] a)
def wI(Q:R)(d:Vs)(a:SH):Prop:=yP 2 3 7 71 d λb c e f=>wk f (aA 4 c a λg=>W.len g λh=>wc (.fn 110 []) [b,h] a λi j=>Q i j) ((wH Q a e b c))
def wJ(Q:R)(b:SH)(a c d:AV):Prop:=W.join (wI Q) λe=>wb .eql 3 a (.W6 20) λf=>wk f (e [c,d,a,f] b) (wb .eql 3 a (.W6 21) λg=>e [c,d,a,g] b)
def wK(Q:R)(d:Vs)(a:SH):Prop:=yP 2 3 7 61 d λb c e f=>wk f (aA 2 c a λg=>W.len g λh=>wc (.fn 110 []) [b,h] a λi j=>Q i j) ((wJ Q a e b c))
def wL(b:Kn)(c:SH)(a d e:AV):Prop:=wb .eql 3 a (.W6 17) λf=>wk f (b [d,e,a,f] c) (wb .eql 3 a (.W6 18) λg=>wk g (b [d,e,a,g] c) (wb .eql 3 a (.W6 19) λh=>b [d,e,a,h] c))
def wM(Q:R)(b:SH)(a c d:AV):Prop:=W.join (wK Q) λe=>wb .eql 3 a (.W6 16) λf=>wk f (e [c,d,a,f] b) ((wL e b a c d))
def wN(Q:R)(d:Vs)(a:SH):Prop:=yP 2 3 7 43 d λb c e f=>wk f (aA 1 c a λg=>W.len g λh=>wc (.fn 110 []) [b,h] a (wF Q c b)) ((wM Q a e b c))
def wO(b:Kn)(c:SH)(a d e:AV):Prop:=wb .eql 3 a (.W6 9) λf=>wk f (b [d,e,a,f] c) (wb .eql 3 a (.W6 10) λg=>wk g (b [d,e,a,g] c) (wb .eql 3 a (.W6 11) λh=>b [d,e,a,h] c))
def wP(Q:R)(b:SH)(a c d:AV):Prop:=W.join (wN Q) λe=>wb .eql 3 a (.W6 8) λf=>wk f (e [c,d,a,f] b) ((wO e b a c d))
def wQ(Q:R)(d:Vs)(a:SH):Prop:=yP 2 3 7 26 d λb c e f=>wk f (aA 1 c a λg=>W.len g λh=>wc (.fn 110 []) [b,h] a (wE Q c b)) ((wP Q a e b c))
def wR(Q:R)(b:SH)(a c d:AV):Prop:=W.join (wQ Q) λe=>wb .eql 3 a (.W6 6) λf=>wk f (e [c,d,a,f] b) (wb .eql 3 a (.W6 7) λg=>e [c,d,a,g] b)
def wS(Q:R)(d:Vs)(a:SH):Prop:=yP 2 3 7 18 d λb c e f=>wk f (aA 0 c a λg=>W.len g λh=>wc (.fn 110 []) [b,h] a λi j=>Q i j) ((wR Q a e b c))
def wT(Q:R)(b:SH)(a c d:AV):Prop:=W.join (wS Q) λe=>wb .eql 3 a (.W6 3) λf=>wk f (e [c,d,a,f] b) (wb .eql 3 a (.W6 4) λg=>e [c,d,a,g] b)
def wU(Q:R)(c:Vs)(a:SH):Prop:=yP 2 3 7 8 c λb d e f=>wk f (wb .eql 3 b (.W6 (-1)) λg=>Q g a) ((wT Q a e b d))
def wV(b:Kn)(c:SH)(a d e:AV):Prop:=wb .eql 3 a (.W6 13) λf=>wk f (b [d,e,a,f] c) (wb .eql 3 a (.W6 14) λg=>wk g (b [d,e,a,g] c) (wb .eql 3 a (.W6 15) λh=>b [d,e,a,h] c))
def wW(b:Kn)(c:SH)(a d e:AV):Prop:=wb .eql 3 a (.W6 5) λf=>wk f (b [d,e,a,f] c) (wb .eql 3 a (.W6 12) λg=>wk g (b [d,e,a,g] c) ((wV b c a d e)))
def lJ(h a b:AV)(L:SH)(Q:R):Prop:=sf h L λc d=>W.join (wU Q) λe=>wb .eql 3 a (.W6 1) λf=>wk f (e [b,c,a,f] d) (wb .eql 3 a (.W6 2) λg=>wk g (e [b,c,a,g] d) ((wW e d a b c)))
theorem wX(t0 t1 t2:AV)(L:SH)(Q:R)(h:lJ t0 t1 t2 L Q):af Tryz.prog 111 [t0,t1,t2] L Q:=
 fs [(8,[2,3,7,8]),(11,[2,3,7,18]),(14,[2,3,7,26]),(19,[2,3,7,43]),(24,[2,3,7,61]),(27,[2,3,7,71]),(30,[2,3,79])] [] [(0,[3])] [] Tryz.func111 h
def Bz(Q:R)(b:SH)(c d:AV):Prop:=aA 0 d b λh=>eW 2 0 h c b λi=>wb .eql 3 i (.W6 (-1)) λa=>wg a true (W.faddr 0 d) b λj e=>wg a true (wl j e) e λk l=>bD a true c l λm f=>wg a true (W.idx 2 k m f) f λn o=>wg a true (W.faddr 1 n) o λp g=>wg a true (wl p g) g λq r=>wg a true (W.len q) r λs t=>wg a true (wb .eql 3 s (.W6 0)) t λu v=>W.pick a u (.bool false) λw=>Q w v
def BA(Q:R)(b:SH)(c i d:AV):Prop:=aA 0 d b λj=>eW 2 0 j c b λk=>wb .eql 3 k (.W6 (-1)) λa=>wg a true (W.faddr 0 d) b λl e=>wg a true (wl l e) e λm n=>bD a true c n λo f=>wg a true (W.idx 2 m o f) f λp q=>wg a true (W.faddr 1 p) q λr g=>wg a true (wl r g) g λs t=>bD a true i t λu h=>W.grd a true (λv=>wc (.fn 128 []) [s,u] h λw x=>v w x) h λy z=>wg a true (W.un .not y) z λA B=>W.pick a A (.bool false) λC=>Q C B
def BB(Q:R)(a:SH)(c d e f:AV):Prop:=(true=true)∧(aL 0 c [] 1 a λg b=>aL 2 d [rm 1 b] 3 a λh n=>di [rm 1 b] 5 2 h e a λi o=>aL 1 i [rm 1 b] 7 a λj p=>di [] 8 2 g j a λk q=>aL 0 k [] 10 a λl r=>wb .eql 3 l f λm=>Q m a)
def BC(Q:R)(f:SH)(b g h:AV):Prop:=wb .neq 3 b g λa=>wg a true (W.faddr 3 h) f λi c=>wg a true (wl i c) c λj k=>bD a true b k λl d=>wg a true (W.idx 3 j l d) d λm n=>wg a true (W.faddr 0 m) n λo e=>wg a true (wl o e) e λp q=>wg a true (wb .eql 3 p (.W6 0)) q λr s=>W.pick a r (.bool false) λt=>Q t s
def BD(Q:R)(f:SH)(b g h:AV):Prop:=wb .neq 3 b g λa=>wg a true (W.faddr 3 h) f λi c=>wg a true (wl i c) c λj k=>bD a true b k λl d=>wg a true (W.idx 3 j l d) d λm n=>wg a true (W.faddr 0 m) n λo e=>wg a true (wl o e) e λp q=>wg a true (wb .eql 3 p (.W6 5)) q λr s=>W.pick a r (.bool false) λt=>Q t s
def BE(Q:R)(a:SH)(b c d:AV):Prop:=wb .eql 3 b (.W6 22) λe=>wk e (aA 2 c a λf=>wv 1 f d a λg=>W.un .not g λh=>Q h a) (wb .eql 3 b (.W6 23) λi=>wk i (aA 2 c a λj=>wv 1 j d a λk=>Q k a) (Q (.bool true) a))
def BF(Q:R)(a:SH)(b c e d:AV):Prop:=wb .eql 3 b (.W6 20) λf=>wk f ((BC Q a c e d)) (wb .eql 3 b (.W6 21) λg=>wk g ((BD Q a c e d)) ((BE Q a b d c)))
def BG(Q:R)(e:Vs)(a:SH):Prop:=Ig 2 4 5 6 11 109 e λb c f d g h=>wk h ((BB Q a d f c b)) ((BF Q a g c b d))
def BH(b:Kn)(c:SH)(a d e f g:AV):Prop:=wb .eql 3 a (.W6 18) λh=>wk h (b [d,e,f,g,a,h] c) (wb .eql 3 a (.W6 19) λi=>b [d,e,f,g,a,i] c)
def BI(Q:R)(b:SH)(a c d e f:AV):Prop:=W.join (BG Q) λg=>wb .eql 3 a (.W6 16) λh=>wk h (g [c,d,e,f,a,h] b) ((BH g b a c d e f))
def BJ(Q:R)(a:SH)(b c d e f:AV):Prop:=wb .eql 3 b (.W6 15) λg=>wk g (aA 3 c a λh=>eW 3 2 h d a λi=>Q i a) ((BI Q a b d e f c))
def zt(Q:R)(a:SH)(b c d e f:AV):Prop:=wb .eql 3 b (.W6 14) λg=>wk g (aA 3 c a λh=>eW 3 2 h d a λi=>W.un .not i λj=>Q j a) ((BJ Q a b c d e f))
def zu(Q:R)(a:SH)(b c d e f:AV):Prop:=wb .eql 3 b (.W6 13) λg=>wk g (aA 1 c a λh=>wb .eql 3 h d λi=>Q i a) ((zt Q a b c d e f))
def zw(Q:R)(a:SH)(b c d e f:AV):Prop:=wb .eql 3 b (.W6 12) λg=>wk g (aA 1 c a λh=>wb .eql 3 h (.W6 (-1)) λi=>Q i a) ((zu Q a b c d e f))
def zx(Q:R)(a:SH)(b c d e f:AV):Prop:=wb .eql 3 b (.W6 9) λg=>wk g (aA 0 c a λh=>eW 2 1 h d a λi=>wc (.fn 128 []) [i,e] a λj k=>Q j k) ((zw Q a b c e d f))
def BK(Q:R)(e:Vs)(a:SH):Prop:=Ig 2 4 5 6 11 60 e λb c f d g h=>wk h (aA 0 d a λi=>eW 2 0 i c a λj=>wb .eql 3 j b λk=>Q k a) ((zx Q a g d c b f))
def zy(Q:R)(b:SH)(a c d e f:AV):Prop:=W.join (BK Q) λg=>wb .eql 3 a (.W6 7) λh=>wk h (g [c,d,e,f,a,h] b) (wb .eql 3 a (.W6 11) λi=>g [c,d,e,f,a,i] b)
def zz(Q:R)(a:SH)(b c e d f:AV):Prop:=wb .eql 3 b (.W6 10) λg=>wk g ((Bz Q a c d)) (wb .eql 3 b (.W6 8) λh=>wk h ((BA Q a c e d)) ((zy Q a b e c f d)))
def bK(e f g b c:AV)(L:SH)(Q:R):Prop:=W.box e L λh i=>W.box f i λj k=>W.frz1 h k λl m=>W.frz1 j m λd a=>wb .eql 3 b (.W6 6) λn=>wk n (aA 0 d a λo=>eW 2 0 o c a λp=>wb .eql 3 p (.W6 (-1)) λq=>Q q a) ((zz Q a b c g d l))
theorem BL(t0 t1 t2 t3 t4:AV)(L:SH)(Q:R)(h:bK t0 t1 t2 t3 t4 L Q):af Tryz.prog 112 [t0,t1,t2,t3,t4] L Q:=
 fs [(9,[2,4,5,6,11,60]),(23,[2,4,5,6,11,109])] [] [(0,[5,6])] [(24,[0,1,0,4,0,28,60,124,255,511,1023,0,4095,8191])] Tryz.func112 h
def pe(e f:AV)(L:SH)(Q:R):Prop:=sf e L λb c=>aA 0 b c λg=>wb .eql 3 g (.W6 3) λa=>wg a true (W.faddr 1 b) c λh d=>wg a true (wl h d) d λi j=>bD a true f j λk l=>wg a true (wb .eql 3 i k) l λm n=>W.pick a m (.bool false) λo=>Q o n
theorem BM(t0 t1:AV)(L:SH)(Q:R)(h:pe t0 t1 L Q):af Tryz.prog 118 [t0,t1] L Q:=
 fs [] [] [(0,[2])] [] Tryz.func118 h
def m9(d:Kn)(e:SH)(f a b g h i j k:AV)(c:SH)(l:Ns):Prop:=wn [] l [] e.names λq=>W.build [(.W6 0),.nils] [(0,1,f),(1,1,k)] λm=>di [] 8 2 a b c λn r=>ds [] 9 2 n m c λo s=>wb .add 3 b (.W6 1) λp=>d [g,h,a,i,j,p] o
def BN(g:Kn)(b:SH)(c d h i j k:AV):Prop:=lG 2 c d b λl=>qr [(.W6 0),.nils] 2 l b λe a=>(true=true)∧(aL 0 e [] 3 a λm f=>aL 1 e [rm 3 f] 5 a λn o=>wd [rm 3 f] 6 (.fn 93 []) [n] a (m9 g a m h d i j c k))
def ig(Q:R)(a b e:AV)(f:SH):Prop:=W.faddr 3 a λg=>W.store 1 g e f λc=>bY 4 a c λh=>W.store 4 b h c λd=>W.load true 4 b d λi=>Q i d
def ii(Q:R)(a c d:AV)(e:SH):Prop:=W.faddr 2 a λf=>W.store 1 f d e λb=>aA 3 a b λg=>wc (.fn 114 []) [g] b (ig Q a c)
def ij(Q:R)(h:Vs)(b:SH)(i:Kn):Prop:=Ig 1 2 3 11 12 13 h λa c d j e f=>wb .lss 3 f e λk=>wk k ((BN i b j f d a c e)) (W.faddr 0 a λl=>W.store 1 l d b λg=>aA 2 a g λm=>wc (.fn 113 []) [m] g (ii Q a c))
def pg(f:AV)(L:SH)(Q:R):Prop:=W.box f L λa g=>W.alloc [.nils,(.W6 0),.nils,.nils] g λh b=>aA 0 a b λi=>W.len i λc=>W.mslice 2 32 [(.W6 0),.nils] c c b λj d=>aA 0 a d λe=>W.len e λk=>W.loop (ij Q) [a,h,j,e,k,(.W6 0)] d
theorem BO(t0:AV)(L:SH)(Q:R)(h:pg t0 L Q):af Tryz.prog 85 [t0] L Q:=
 fs [] [(3,[1,2,3,11,12,13])] [(4,[5])] [(5,[0,0,0,4,0,16,48,124,255,511])] Tryz.func85 h
def zA(e:Kn)(f b d g h i j a:AV)(l:SH):Prop:=bD a true f l λm n=>wg a true (wb .lss 3 m (.W6 0)) n λo p=>bD a true o p λc q=>bD c false b q λr s=>bD c false d s λt u=>wg c false (wb .eql 3 r t) u λv w=>wg a true (W.pick c (.bool true) v) w λx k=>W.pick a x (.bool false) λy=>wk y (wb .add 3 b (.W6 1) λz=>e [g,d,h,b,i,j,z] k) (wb .add 3 b (.W6 1) λA=>e [g,d,h,f,i,j,A] k)
def zB(f:Kn)(a:SH)(b c d g h i j:AV):Prop:=lG 3 b c a λk=>qr [(.W6 0),(.W6 0),(.bool false)] 3 k a λl e=>bY 3 l e λm=>wc (.fn 118 []) [m,d] e (zA f g c h d i b j)
def zC(Q:R)(a:SH)(b c:AV):Prop:=wb .geq 3 b (.W6 0) λd=>wk d (aA 3 c a λe=>W.idx 3 e b a λf=>W.faddr 0 f λg=>W.store 1 g (.W6 4) a λh=>Q b h) (Q b a)
def lK(Q:R)(f:Vs)(a:SH)(g:Kn):Prop:=Nt 1 2 3 7 11 12 13 f λh i b c j d e=>wb .lss 3 e d λk=>wk k ((zB g a j e h c i b d)) ((zC Q a c b))
def na(d e f:AV)(L:SH)(Q:R):Prop:=sf d L λa b=>aA 3 a b λc=>W.len c λg=>W.loop (lK Q) [e,f,a,(.W6 (-1)),c,g,(.W6 0)] b
theorem zD(t0 t1 t2:AV)(L:SH)(Q:R)(h:na t0 t1 t2 L Q):af Tryz.prog 90 [t0,t1,t2] L Q:=
 fs [] [(3,[1,2,3,7,11,12,13])] [(0,[3]),(4,[9])] [] Tryz.func90 h
def qt(d:Kn)(a:SH)(b c e f g h:AV):Prop:=aA 3 b a λi=>W.idx 3 i c a λj=>W.faddr 0 j λk=>W.store 1 k (.W6 4) a λl=>wb .add 3 e (.W6 1) λm=>wb .add 3 c (.W6 1) λn=>d [f,b,m,g,h,n] l
def qu(a:Kn)(b c d e f g i:AV)(h:SH):Prop:=wk i ((qt a h b c d e f g)) (wb .add 3 c (.W6 1) λj=>a [e,b,d,f,g,j] h)
def qv(f:Kn)(a:SH)(b c d g h i:AV):Prop:=lG 3 b c a λj=>qr [(.W6 0),(.W6 0),(.bool false)] 3 j a λk e=>bY 3 k e λl=>wc (.fn 118 []) [l,d] e (qu f g c h d b i)
def iw(Q:R)(e:Vs)(a:SH)(f:Kn):Prop:=Ig 1 2 5 9 10 11 e λg h b i c d=>wb .lss 3 d c λj=>wk j ((qv f a i d g h b c)) (Q b a)
def jc(d e:AV)(L:SH)(Q:R):Prop:=sf d L λa b=>aA 3 a b λc=>W.len c λf=>W.loop (iw Q) [e,a,(.W6 0),c,f,(.W6 0)] b
theorem qw(t0 t1:AV)(L:SH)(Q:R)(h:jc t0 t1 L Q):af Tryz.prog 91 [t0,t1] L Q:=
 fs [] [(3,[1,2,5,9,10,11])] [(0,[2]),(4,[7])] [] Tryz.func91 h
def ng(b c:AV)(L:SH)(Q:R):Prop:=wb .geq 3 b (.W6 0) λa=>bD a true b L λd e=>bD a true c e λf g=>wg a true (wb .lss 3 d f) g λh i=>W.pick a h (.bool false) λj=>Q j i
theorem zE(t0 t1:AV)(L:SH)(Q:R)(h:ng t0 t1 L Q):af Tryz.prog 110 [t0,t1] L Q:=
 fs [] [] [] [] Tryz.func110 h
def dO(a b:AV)(L:SH)(Q:R):Prop:=wc (.fn 141 []) [a,b] L λc d=>wb .geq 3 c (.W6 0) λe=>Q e d
theorem gW(t0 t1:AV)(L:SH)(Q:R)(h:dO t0 t1 L Q):af Tryz.prog 128 [t0,t1] L Q:=
 fs [] [] [] [] Tryz.func128 h
def ey(Q:R)(f:Vs)(a:SH)(g:Kn):Prop:=yP 0 1 7 8 f λc d e b=>wb .lss 3 b e λh=>wk h (wv 1 c b a λi=>wb .eql 3 d i λj=>wk j (Q b a) (wb .add 3 b (.W6 1) λk=>g [c,d,e,k] a)) (Q (.W6 (-1)) a)
def eR(a b:AV)(L:SH)(Q:R):Prop:=W.len a λc=>W.loop (ey Q) [a,b,c,(.W6 0)] L
theorem jd(t0 t1:AV)(L:SH)(Q:R)(h:eR t0 t1 L Q):af Tryz.prog 141 [t0,t1] L Q:=
 fs [] [(2,[0,1,7,8])] [] [] Tryz.func141 h
def gE(Q:R)(c:Kn)(a d e f g:AV)(b:SH):Prop:=wk g (Q a b) (wb .add 3 a (.W6 1) λh=>c [d,e,f,h] b)
def dB(Q:R)(f:Vs)(a:SH)(g:Kn):Prop:=yP 0 1 7 8 f λc d e b=>wb .lss 3 b e λh=>wk h (wv 1 c b a λi=>wc d [i] a (gE Q g b c d e)) (Q (.W6 (-1)) a)
def dG(a b:AV)(L:SH)(Q:R):Prop:=W.len a λc=>W.loop (dB Q) [a,b,c,(.W6 0)] L
theorem gF(t0 t1:AV)(L:SH)(Q:R)(h:dG t0 t1 L Q):af Tryz.prog 117 [t0,t1] L Q:=
 fs [] [(2,[0,1,7,8])] [] [] Tryz.func117 h
def gh(d:Kn)(a:SH)(b c e f g:AV):Prop:=W.idx 1 b c a λh=>W.store 1 h e a λi=>wb .add 3 c (.W6 1) λj=>wb .add 3 f (.W6 1) λk=>d [b,g,j,k] i
def gj(a:Kn)(b c g d e h:AV)(f:SH):Prop:=W.un .not h λi=>wk i ((gh a f b c g d e)) (wb .add 3 d (.W6 1) λj=>a [b,e,c,j] f)
def dg(Q:R)(h:Vs)(b:SH)(i:Kn):Prop:=yP 0 1 5 6 h λa e c d=>W.len a λj=>wb .lss 3 d j λk=>wk k (wv 1 a d b λf=>wc e [f] b (gj i a c f d e)) (W.slice 1 a (some c) none none b λl=>W.clear 1 [(.W6 0)] l b λg=>W.slice 1 a none (some c) none g λm=>Q m g)
def dh(Q:R)(b d a:AV)(c:SH):Prop:=wb .eql 3 a (.W6 (-1)) λe=>wk e (Q b c) (wb .add 3 a (.W6 1) λf=>W.loop (dg Q) [b,d,a,f] c)
def dC(a b:AV)(L:SH)(Q:R):Prop:=wc (.fn 117 []) [a,b] L (dh Q a b)
theorem gk(t0 t1:AV)(L:SH)(Q:R)(h:dC t0 t1 L Q):af Tryz.prog 88 [t0,t1] L Q:=
 fs [] [(5,[0,1,5,6])] [] [] Tryz.func88 h
def lL(a b:AV)(L:SH)(Q:R):Prop:=wl b L λc=>wb .eql 3 a c λd=>Q d L
theorem wY(t0 t1:AV)(L:SH)(Q:R)(h:lL t0 t1 L Q):af Tryz.prog 89 [t0,t1] L Q:=
 fs [] [] [] [] Tryz.func89 h
end
structure bj where
 op:Int
 a:Int
 b:Int
 c:Int
 n:Int
 site:Int
 deriving Inhabited
def bj.enc(i:bj):List AV:=[.W6 i.op,.W6 i.a,.W6 i.b,.W6 i.c,.W6 i.n,.W6 i.site]
structure iy where
 regs:Int
 ins:List bj
def iy.enc(c:iy):List AV:=[.W6 c.regs,.lst (c.ins.map bj.enc)]
def kM(b:Bool):Int:=if b then 1 else 0
def O1(op a:Int):Int×Bool:=if op=4 then(IntKind.i64.wrap (0-a),true)else if op=5 then(kM (decide (a=0)),true)else(0,false)
def Df(op a b:Int):Int×Bool:=
 if op=6 then(IntKind.i64.wrap (a+b),true)else
 if op=7 then(IntKind.i64.wrap (a-b),true)else
 if op=8 then(IntKind.i64.wrap (a*b),true)else
 if op=9 then(if b=0 then 0 else IntKind.i64.wrap (a.tdiv b),true)else
 if op=10 then(if b=0 then 0 else a.tmod b,true)else
 if op=11 then(kM (decide (a=b)),true)else
 if op=12 then(kM (decide (a≠b)),true)else
 if op=13 then(kM (decide (a<b)),true)else
 if op=14 then(kM (decide (a≤b)),true)else
 if op=15 then(kM (decide (b<a)),true)else
 if op=16 then(kM (decide (b≤a)),true)else
 if op=17 then(kM (decide (a≠0)&&decide (b≠0)),true)else
 if op=18 then(kM (decide (a≠0)||decide (b≠0)),true)else(0,false)
theorem TO{o:Nat}{x:AV}{L:SH}{K:AV→Prop}(h:aA o x L K):aA o x L K:=h
theorem RC{o:Nat}{x:AV}{L:SH}{K:AV→Prop}(h:dK o x L K):dK o x L K:=h
theorem U3{x:AV}{L:SH}{K:AV→Prop}(h:wl x L K):wl x L K:=h
theorem TP{n:Nat}{x i:AV}{L:SH}{K:AV→Prop}(h:wv n x i L K):wv n x i L K:=h
theorem TQ{n:Nat}{x i:AV}{L:SH}{K:AV→Prop}(h:lG n x i L K):lG n x i L K:=h
theorem RD{n o:Nat}{x i:AV}{L:SH}{K:AV→Prop}(h:eW n o x i L K):eW n o x i L K:=h
theorem U4{us:List W.WR}{i:Nat}{x:AV}{L:SH}{K:AV→Fp→Prop}(h:dl us i x L K):dl us i x L K:=h
theorem TR{o:Nat}{x:AV}{us:List W.WR}{i:Nat}{L:SH}{K:AV→Fp→Prop}(h:aL o x us i L K):aL o x us i L K:=h
theorem U5{us:List W.WR}{i n:Nat}{x:AV}{L:SH}{K:AV→Fp→Prop}(h:dr us i n x L K):dr us i n x L K:=h
theorem U6{us:List W.WR}{i n:Nat}{x ix:AV}{L:SH}{K:AV→Fp→Prop}(h:di us i n x ix L K):di us i n x ix L K:=h
theorem st{P Q:Prop}(k:Q)(h:Q→P:=by
 intro k
 first
 |(refine TO ?_;first|exact QG k|exact QH k|exact No k)
 |(refine lH ?_;first|exact Qu k|exact MZ k|exact Qv k|exact Qt k|exact Qs k|exact Qr k|exact sQ k|exact M1 k|exact ja k|exact M2 k|exact Qw k|exact Qx k|exact Qy k|exact QI k|exact QJ k|exact QB k|exact QC k)
 |(refine Rn ?_;first|exact H9 k|exact Ia k)
 |(refine TD ?_;first|exact Gw k|exact Gx k|exact Gl k)
 |(refine U3 ?_;first|exact Pv k|exact TJ k|exact Rm k)
 |(refine QE ?_;first|exact Gw k|exact Gx k|exact Gl k)
 |(refine Rj ?_;first|exact Ng k|exact Nh k)
 |(refine RC ?_;first|exact wnfl_q k|exact Rp k|exact Np k)
 |(refine Tx ?_;first|exact Ph k|exact KT k|exact Gq k|exact a_len_n k|exact Gt k)
 |(refine RD ?_;first|exact Rq k|exact Nq k)
 |(refine TQ ?_;first|exact TL k|exact QD k)
 |(refine TP ?_;first|exact TK k|exact FG k)
 |(refine Po ?_;first|exact zb k|exact yZ k)
 |(refine Nn ?_;first|exact Cr k|exact b_row_i k|exact K4 k|exact Ie k|exact If k)
 |(refine TR ?_;first|exact TN k|exact QF k)
 |(refine U4 ?_;first|exact TM k|exact TF k)
 |(refine U5 ?_;first|exact UX k|exact TG k)
 |(refine U6 ?_;first|exact UY k|exact Ro k)
 |(refine QA ?_;first|exact Gw k|exact Gx k|exact Gl k)
 |(refine Na ?_;first|exact Ni k|exact Nj k|exact MU k)
 |(refine Pn ?_;first|exact H7 k|exact Nf k|exact H8 k)
 |(refine Tw ?_;first|exact wu k|exact Pq k|exact Pr k|exact dy k|exact Ps k)
 |(refine Tv ?_;first|exact Cr k|exact b_row_i k|exact K4 k|exact Ie k|exact If k)
 |(refine Ty ?_;exact TA k)
 |(refine Rh ?_;exact Gz k)
 |exact UW (sP k)
 |(refine Ri ?_;exact sP k)
 |(refine Nd ?_;first|exact KQ k|exact a_nil_q k|exact a_nil_f k)
 |(refine UU ?_;first|exact Tq k|exact Ts k)
 |(refine Rk ?_;first|exact Pt k|exact b_frz_s k)
 |(refine Pp ?_;first|exact Ib k|exact AX k|exact Ic k)
 |(refine Rl ?_;first|exact b_idxP_p k|exact Nk k)
 |(refine h_bin ?_;first|exact Qu k|exact MZ k|exact Qv k|exact Qt k|exact Qs k|exact Qr k|exact sQ k|exact M1 k|exact ja k|exact M2 k|exact Qw k|exact Qx k|exact Qy k|exact QI k|exact QJ k|exact QB k|exact QC k)
 |(refine h_cond ?_;first|exact H9 k|exact Ia k)
 |exact Rr k
 |exact Gy k
 |exact o7 (JE k)
 |exact UV (K0 k)
 |exact TH k
 |exact UT k
 |exact Rf k
 |exact Pu k
 |(first|exact Rs k|exact Rt k|exact Ru k|exact Rv k|exact Rw k|exact Nr k|exact Rx k|exact Rz k|exact RA k|exact Py k|exact Pz k|exact wo12_ok k|exact wo13_ok k|exact wo14_ok k|exact wo15_ok k|exact wo16_ok k)
 |exact Rd k
 |exact a_convS k
 |exact b_fld k
 |exact Re k
 |exact JE k
 |exact K0 k
 |fail):P:=h k
theorem sb{P:Prop}{Q:Nat→Prop}{N:Nat→Prop}(k:∀b,N b→Q b)(h:(∀b,N b→Q b)→P:=by
 intro k
 first
 |(refine Tz ?_;exact TC k)
 |(refine Nc ?_;exact Nl k)
 |(refine Nb ?_;exact Nm k)
 |(exact KR k)
 |fail):P:=h k
theorem s2{P Q1 Q2 A1 A2:Prop}(k1:A1→Q1)(k2:A2→Q2)(h:(A1→Q1)→(A2→Q2)→P:=by
 intro k1 k2
 first
 |(refine Rn ?_;exact MY k1 k2)
 |(refine TD ?_;first|exact Gm k1 k2|exact Gn k1 k2)
 |(refine QE ?_;first|exact Gm k1 k2|exact Gn k1 k2)
 |(refine QA ?_;first|exact Gm k1 k2|exact Gn k1 k2)
 |(refine Na ?_;first|exact MV k1 k2|exact MW k1 k2)
 |(refine h_cond ?_;exact MY k1 k2)
 |fail):P:=h k1 k2
theorem mm{α:Type}{a:α}{l:List α}(h:a∈l:=by first|exact .head _|exact .tail _ (.head _)|exact .tail _ (.tail _ (.head _))|exact .tail _ (.tail _ (.tail _ (.head _)))|exact .tail _ (.tail _ (.tail _ (.tail _ (.head _))))|exact .tail _ (.tail _ (.tail _ (.tail _ (.tail _ (.head _)))))|exact .tail _ (.tail _ (.tail _ (.tail _ (.tail _ (.tail _ (.head _))))))|exact .tail _ (.tail _ (.tail _ (.tail _ (.tail _ (.tail _ (.tail _ (.head _)))))))|exact .tail _ (.tail _ (.tail _ (.tail _ (.tail _ (.tail _ (.tail _ (.tail _ (.head _))))))))|exact .tail _ (.tail _ (.tail _ (.tail _ (.tail _ (.tail _ (.tail _ (.tail _ (.tail _ (.head _)))))))))|exact .tail _ (.tail _ (.tail _ (.tail _ (.tail _ (.tail _ (.tail _ (.tail _ (.tail _ (.tail _ (.head _))))))))))|exact .tail _ (.tail _ (.tail _ (.tail _ (.tail _ (.tail _ (.tail _ (.tail _ (.tail _ (.tail _ (.tail _ (.head _)))))))))))|exact .tail _ (.tail _ (.tail _ (.tail _ (.tail _ (.tail _ (.tail _ (.tail _ (.tail _ (.tail _ (.tail _ (.tail _ (.head _))))))))))))):a∈l:=h
theorem rp{P:Prop}(h:P:=by repeat constructor):P:=h
inductive ao where
 |mk (op n:Int) (name:aZ) (l:List ao)
def ao.op:ao→Int|.mk a _ _ _=>a
def ao.n:ao→Int|.mk _ a _ _=>a
def ao.name:ao→aZ|.mk _ _ a _=>a
def ao.l:ao→List ao|.mk _ _ _ a=>a
mutual
def ao.enc:ao→List AV
 |.mk op n name l=>[.int .i64 op,.int .i64 n,.str name,.lst (ao.encs l)]
def ao.encs:List ao→List (List AV)
 |[]=>[]
 |x::l=>x.enc::ao.encs l
end
theorem ao.encs_eq:∀l:List ao,ao.encs l=l.map ao.enc
 |[]=>rfl
 |x::l=>by rw[ao.encs,ao.encs_eq l];rfl
def ao.row(x:ao):List AV:=[.W6 x.op,.W6 x.n,.str x.name,.lst (x.l.map ao.enc)]
theorem ao.enc_row(x:ao):x.enc=x.row:=by cases x;rw[ao.enc,ao.encs_eq];rfl
theorem Dg{l:List ao}{i:Nat}(h:i<l.length):(l.map ao.enc)[i]? =some [.W6 l[i].op,.W6 l[i].n,.str l[i].name,.lst (l[i].l.map ao.enc)]:=by rw[aw h,ao.enc_row];rfl
def z0(op:Int):Nat:=if op=0 then 2^50 else 0
def z3(op:Int):Nat:=if op=3 then 2^50 else 0
def Dh(op:Int)(name:aZ)(n:Nat):Nat:=(if n=0 then(if op=0∨op=1∨op=2 then 0 else 2^50)else 0)+(if name=[113]then 0 else z3 op)
mutual
def ao.wt:ao→Nat
 |.mk op _ name l=>1+name.length+Dh op name l.length+ao.wts l
def ao.wts:List ao→Nat
 |[]=>0
 |x::l=>x.wt+z0 x.op+ao.wts l
end
theorem ao.wt_eq(x:ao):x.wt=1+x.name.length+Dh x.op x.name x.l.length+ao.wts x.l:=by cases x;rfl
theorem ao.wts_get0:∀(l:List ao) (i:Nat) (h:i<l.length),l[i].wt+z0 l[i].op≤ao.wts l
 |x::l,0,_=>by simp[ao.wts]
 |x::l,i+1,h=>by have:=ao.wts_get0 l i (by simpa using h);simp only[List.getElem_cons_succ,ao.wts];omega
theorem ao.wts_get(l:List ao)(i:Nat)(h:i<l.length):l[i].wt≤ao.wts l:=by have:=ao.wts_get0 l i h;omega
theorem ao.wts_len:∀l:List ao,l.length≤ao.wts l
 |[]=>Vl _
 |x::l=>by have:=ao.wts_len l;have:=x.wt_eq;simp only[VI,ao.wts];omega
theorem ao.kid(x:ao){i:Nat}(h:i<x.l.length):x.l[i].wt<x.wt:=by have:=ao.wts_get x.l i h;have:=x.wt_eq;omega
theorem ao.len(x:ao):x.l.length<x.wt:=by have:=ao.wts_len x.l;have:=x.wt_eq;omega
inductive ab where
 |mk (op line:Int) (name arg:aZ) (index:List ao) (expr:ao) (body els:List ab)
def ab.op:ab→Int|.mk a _ _ _ _ _ _ _=>a
def ab.line:ab→Int|.mk _ a _ _ _ _ _ _=>a
def ab.name:ab→aZ|.mk _ _ a _ _ _ _ _=>a
def ab.arg:ab→aZ|.mk _ _ _ a _ _ _ _=>a
def ab.index:ab→List ao|.mk _ _ _ _ a _ _ _=>a
def ab.expr:ab→ao|.mk _ _ _ _ _ a _ _=>a
def ab.body:ab→List ab|.mk _ _ _ _ _ _ a _=>a
def ab.els:ab→List ab|.mk _ _ _ _ _ _ _ a=>a
mutual
def ab.enc:ab→List AV
 |.mk op line name arg index e body els=>[.int .i64 op,.int .i64 line,.str name,.str arg,.lst (index.map ao.enc),.int .i64 e.op,.int .i64 e.n,.str e.name,.lst (e.l.map ao.enc),.lst (ab.encs body),.lst (ab.encs els)]
def ab.encs:List ab→List (List AV)
 |[]=>[]
 |x::l=>x.enc::ab.encs l
end
theorem ab.encs_eq:∀l:List ab,ab.encs l=l.map ab.enc
 |[]=>rfl
 |x::l=>by rw[ab.encs,ab.encs_eq l];rfl
def ab.row(x:ab):List AV:=[.W6 x.op,.W6 x.line,.str x.name,.str x.arg,.lst (x.index.map ao.enc),.W6 x.expr.op,.W6 x.expr.n,.str x.expr.name,.lst (x.expr.l.map ao.enc),.lst (x.body.map ab.enc),.lst (x.els.map ab.enc)]
theorem ab.enc_row(x:ab):x.enc=x.row:=by cases x;rw[ab.enc,ab.encs_eq,ab.encs_eq];rfl
theorem FJ{l:List ab}{i:Nat}(h:i<l.length):(l.map ab.enc)[i]? =some [.W6 l[i].op,.W6 l[i].line,.str l[i].name,.str l[i].arg,.lst (l[i].index.map ao.enc),.W6 l[i].expr.op,.W6 l[i].expr.n,.str l[i].expr.name,.lst (l[i].expr.l.map ao.enc),.lst (l[i].body.map ab.enc),.lst (l[i].els.map ab.enc)]:=by rw[aw h,ab.enc_row];rfl
def zv(op eop:Int):Nat:=if op=1∨op=2∨op=3∨op=14 then z0 eop else 0
def zi(name:aZ)(n:Nat):Nat:=if n=0∨name=[113]then 0 else 2^50
mutual
def ab.wt:ab→Nat
 |.mk op _ name arg index e body els=>1+name.length+arg.length+ao.wts index+e.wt+zv op e.op+zi name index.length+ab.wts body+ab.wts els
def ab.wts:List ab→Nat
 |[]=>0
 |x::l=>x.wt+ab.wts l
end
theorem ab.wt_eq(x:ab):x.wt=1+x.name.length+x.arg.length+ao.wts x.index+x.expr.wt+zv x.op x.expr.op+zi x.name x.index.length+ab.wts x.body+ab.wts x.els:=by cases x;rfl
theorem ab.wts_get:∀(l:List ab) (i:Nat) (h:i<l.length),l[i].wt≤ab.wts l
 |x::l,0,_=>by simp[ab.wts]
 |x::l,i+1,h=>by have:=ab.wts_get l i (by simpa using h);simp only[List.getElem_cons_succ,ab.wts];omega
theorem ab.wts_len:∀l:List ab,l.length≤ab.wts l
 |[]=>Vl _
 |x::l=>by have:=ab.wts_len l;have:=x.wt_eq;simp only[VI,ab.wts];omega
structure aF where
 kind:Int
 line:Int
 name:aZ
 size:Int
 init:Int
 on:aZ
 deriving Inhabited
def aF.enc(d:aF):List AV:=[.W6 d.kind,.W6 d.line,.str d.name,.W6 d.size,.W6 d.init,.str d.on]
structure ah where
 name:aZ
 line:Int
 locals:List aZ
 body:List ab
def ah.enc(t:ah):List AV:=[.str t.name,.W6 t.line,.lst (t.locals.map au),.lst (t.body.map ab.enc)]
structure bL where
 decls:List aF
 threads:List ah
def bL.enc(p:bL):List AV:=[.lst (p.decls.map aF.enc),.lst (p.threads.map ah.enc)]
def aF.wt(d:aF):Nat:=1+d.name.length+d.on.length
def ah.wt(t:ah):Nat:=1+t.name.length+t.locals.length+(t.locals.map List.length).sum+ab.wts t.body
def bL.wt(p:bL):Nat:=(p.decls.map aF.wt).sum+(p.threads.map ah.wt).sum
theorem Cs{α:Type}{f:α→Nat}:∀(l:List α) (i:Nat) (h:i<l.length),f l[i]≤(l.map f).sum
 |x::l,0,_=>by simp
 |x::l,i+1,h=>by have:=Cs (f:=f) l i (by simpa using h);simp only[List.getElem_cons_succ,Vm,Wj];omega
theorem GA{α:Type}{f:α→Nat}(hf:∀x,1≤f x):∀l:List α,l.length≤(l.map f).sum
 |[]=>Vl _
 |x::l=>by have:=GA hf l;have:=hf x;simp only[VI,Vm,Wj];omega
theorem Ij{α:Type}{p:α→Prop}{l:List α}{i:Nat}(h:i<l.length)(h1:∀x∈l.take i,p x)(h2:p l[i]):∀x∈l.take (i+1),p x:=by
 rw[Vw h];intro x hx;rcases Vz.1 hx with hx|hx
 ·exact h1 x hx
 ·simp at hx;subst hx;exact h2
theorem TS(n:Nat)(G:Nat→Prop)(S:Nat→List AV×SH){B:List AV→SH→W.Kn→Prop}{vs:List AV}{L:SH}(hl:n<2^62)(h0:G 0)(hv:vs=(S 0).1)(hL:L=(S 0).2)
  (h1:∀i,i<n→decide ((i:Int)<(n:Int))=true→IntKind.i64.wrap ((i:Int)+1)=((i+1:Nat):Int)→G i→∀nx:W.Kn,(G (i+1)→∀vs' L',aG vs' L' (S (i+1)).1 (S (i+1)).2→nx vs' L')→B (S i).1 (S i).2 nx)
  (h2:∀i,i=n→decide ((i:Int)<(n:Int))=false→G i→∀nx:W.Kn,B (S i).1 (S i).2 nx):W.loop B vs L:=by
 refine C3 n S G h0 hv hL λi hi hG=>?_
 rcases Vp i n with h|h
 ·exact h1 i h (bI h) (aD h hl) hG _ λhg vs' L' hz=>⟨i+1,W1,W1,hg,hz⟩
 ·exact h2 i W1 (bO h) hG _
theorem np(n:Nat)(G:Nat→Prop)(S:Nat→List AV){B:List AV→SH→W.Kn→Prop}{vs:List AV}{L:SH}(hl:n<2^62)(h0:G 0)(hv:vs=S 0)
  (h1:∀i,i<n→decide ((i:Int)<(n:Int))=true→IntKind.i64.wrap ((i:Int)+1)=((i+1:Nat):Int)→G i→∀nx:W.Kn,(G (i+1)→nx (S (i+1)) L)→B (S i) L nx)
  (h2:∀i,i=n→decide ((i:Int)<(n:Int))=false→G i→∀nx:W.Kn,B (S i) L nx):W.loop B vs L:=
 TS n G (λi=>(S i,L)) hl h0 hv rfl (λi h hd hi hG nx hn=>h1 i h hd hi hG nx λhg=>hn hg _ _ (.refl _ _)) h2
theorem ez{α:Type}(l:List α)(p:α→Bool)(S:Nat→List AV){B:List AV→SH→W.Kn→Prop}{vs:List AV}{L:SH}(hl:l.length<2^62)(hv:vs=S 0)
  (h1:∀i (h:i<l.length),decide ((i:Int)<(l.length:Int))=true→IntKind.i64.wrap ((i:Int)+1)=((i+1:Nat):Int)→(∀x∈l.take i,p x=false)→∀nx:W.Kn,(p l[i]=false→nx (S (i+1)) L)→B (S i) L nx)
  (h2:∀i,i=l.length→decide ((i:Int)<(l.length:Int))=false→(∀x∈l,p x=false)→∀nx:W.Kn,B (S i) L nx):W.loop B vs L:=
 np l.length (λi=>∀x∈l.take i,p x=false) S hl W4 hv (λi h hd hi hG nx hn=>h1 i h hd hi hG nx λhp=>hn (Ij h hG hp))
  λi e hd hG nx=>h2 i e hd (by rw[V8 W1]at hG;exact hG) nx
theorem Nw{α:Type}{p:α→Bool}{l:List α}(h:∀x∈l,p x=false):l.any p=false:=by simpa using h
theorem K6{α:Type}{p:α→Bool}{l:List α}{i:Nat}(h:i<l.length)(hp:p l[i]=true):l.any p=true:=WZ.2 ⟨_,VF h,hp⟩
theorem Nx{α:Type}{p:α→Bool}{l:List α}{i:Nat}(h:i<l.length)(hp:p l[i]=false):l.all p=false:=List.all_eq_false.2 ⟨_,VF h,by simp[hp]⟩
theorem K7{s:aZ}{k:IntKind}{i:Nat}{K:AV→Prop}(h:K (.int .u8 (s.getD i 0).toNat))(hi:i<s.length:=by assumption):W.ixS (.str s) (.int k (i:Int)) K:=⟨s,k,i,s[i],rfl,rfl,W1,by simp[hi],by simpa[List.getD,hi]using h⟩
def mG{α:Type}(p:α→Bool):List α→Nat→Int
 |[],_=>-1
 |x::l,i=>if p x then(i:Int)else mG p l (i+1)
theorem gG{α:Type}{p:α→Bool}:∀{l:List α} {i:Nat},(∀x∈l,p x=false)→mG p l i=-1
 |[],_,_=>rfl
 |x::l,i,h=>by rw[mG,h x W4];exact gG λy hy=>h y (by simp[hy])
theorem K8{α:Type}{p:α→Bool}:∀{l:List α} {j k:Nat} (hk:k<l.length),(∀x∈l.take k,p x=false)→p l[k]=true→mG p l j=(j+k:Nat)
 |x::l,j,0,hk,h,hp=>by simp at hp;simp[mG,hp]
 | x::l,j,k+1,hk,h,hp=>by rw[mG,h x W4];have:=K8 (p:=p) (l:=l) (j:=j+1) (k:=k) (by simpa using hk) (λy hy=>h y (by simp[hy])) (by simpa using hp);simp only[VN,if_false,this];congr 1;omega
theorem ph{α:Type}{p:α→Bool}{l:List α}{k:Nat}(hk:k<l.length)(h:∀x∈l.take k,p x=false)(hp:p l[k]=true):mG p l 0=k:=by rw[K8 hk h hp];simp
structure aY where
 name:aZ
 index:Int
 size:Int
 vol:Bool
 init:Int
 deriving Inhabited
def aY.enc(c:aY):List AV:=[.str c.name,.W6 c.index,.W6 c.size,.bool c.vol,.W6 c.init]
structure bZ where
 name:aZ
 rw:Bool
 deriving Inhabited
def bZ.enc(c:bZ):List AV:=[.str c.name,.bool c.rw]
structure cS where
 name:aZ
 mutex:Int
 deriving Inhabited
def cS.enc(c:cS):List AV:=[.str c.name,.W6 c.mutex]
structure cI where
 thread:Int
 stmt:Int
 line:Int
 deriving Inhabited
def cI.enc(c:cI):List AV:=[.W6 c.thread,.W6 c.stmt,.W6 c.line]
structure aM where
 cells:List aY
 locks:List bZ
 conds:List cS
 futures:List aZ
 threads:List aZ
 sites:List cI
def aM.enc(w:aM):List AV:=[.lst (w.cells.map aY.enc),.lst (w.locks.map bZ.enc),.lst (w.conds.map cS.enc),.lst (w.futures.map au),.lst (w.threads.map au),.lst (w.sites.map cI.enc)]
structure cU where
 thread:Int
 wake:Int
def cU.enc(c:cU):List AV:=[.W6 c.thread,.W6 c.wake]
structure bN where
 w:aM
 ts:List iy
def bN.enc(c:bN):List AV:=[.lst (c.w.cells.map aY.enc),.lst (c.w.locks.map bZ.enc),.lst (c.w.conds.map cS.enc),.lst (c.w.futures.map au),.lst (c.w.threads.map au),.lst (c.w.sites.map cI.enc),.lst (c.ts.map iy.enc)]
def fQ(l:List bZ)(s:aZ):Int:=mG (λx=>decide (x.name=s)) l 0
def wZ(l:List aY)(s:aZ):Int:=mG (λx=>decide (x.name=s)) l 0
def bS(i:bj):List Int:=
 if i.op=1∨i.op=6∨i.op=10∨i.op=27 then [i.a]else
 if i.op=2∨i.op=3 then [i.a,i.b]else
 if i.op=4 then [i.a,i.b,i.c]else
 if i.op=7 then [i.a,i.c]else
 if i.op=8∨i.op=26 then [i.b]else
 if i.op=9 then [i.b,i.c]else []
def K9(w:aM)(i:Int):Bool:=inB i w.cells.length&&decide ((w.cells.getD i.toNat default).size=0)
def JF(w:aM)(i n:Int):Bool:=inB i w.cells.length&&decide ((w.cells.getD i.toNat default).index=0)&&decide ((w.cells.getD i.toNat default).size≠0)&&decide ((w.cells.getD i.toNat default).size=n)
def Ik(w:aM)(i:Int)(rw:Bool):Bool:=inB i w.locks.length&&((w.locks.getD i.toNat ⟨[],false⟩).rw==rw)
def JG(w:aM)(i:bj):Bool:=
 if i.op=6 then K9 w i.b else if i.op=8 then K9 w i.a else if i.op=7 then JF w i.b i.n else if i.op=9 then JF w i.a i.n else
 if i.op=11∨i.op=12 then Ik w i.a false else if i.op=13∨i.op=14∨i.op=15∨i.op=16 then Ik w i.a true else
 if i.op=21∨i.op=22∨i.op=23 then inB i.a w.conds.length else if i.op=24∨i.op=25 then inB i.a w.threads.length else
 if i.op=26 then inB i.a w.futures.length else if i.op=27 then inB i.b w.futures.length else
 if i.op=3 then decide (i.n=4∨i.n=5)else if i.op=4 then decide (6≤i.n∧i.n≤18)else true
def bj.sil(i:bj):Prop:=1≤i.op∧i.op≤5
inductive JH (ins:List bj):Nat→Nat→Prop where
 |ev (k:Nat) (i:bj):ins[k]? =some i→¬i.sil→JH ins k 0
 |go (k m:Nat) (i:bj):ins[k]? =some i→i.sil→i.op≠5→JH ins (k+1) m→JH ins k (m+1)
 |jump (k m j:Nat) (i:bj):ins[k]? =some i→i.op=5→i.a=(j:Nat)→JH ins j m→JH ins k (m+1)
def pi(ins:List bj)(k:Nat):Prop:=∃m,JH ins k m
theorem JH.uniq{ins:List bj}{k m1:Nat}(h1:JH ins k m1):∀{m2:Nat},JH ins k m2→m1=m2:=by
 induction h1 with
 |ev k i hi hs=>
  intro m2 h2;cases h2 with
  |ev=>rfl
  |go _ _ i' hi' hs'=>rw[hi]at hi';cases hi';exact absurd hs' hs
  |jump _ _ j i' hi' hs'=>rw[hi]at hi';cases hi';exact absurd ⟨W1,W1⟩ hs
 |go k m i hi hs h5 hm ih=>
  intro m2 h2;cases h2 with
  |ev _ i' hi' hs'=>rw[hi]at hi';cases hi';exact absurd hs hs'
  |go _ _ i' hi' hs' _ hm'=>rw[ih hm']
  |jump _ _ j i' hi' hs'=>rw[hi]at hi';cases hi';exact absurd hs' h5
 |jump k m j i hi hs ha hm ih=>
  intro m2 h2;cases h2 with
  |ev _ i' hi' hs'=>rw[hi]at hi';cases hi';exact absurd ⟨W1,W1⟩ hs'
  |go _ _ i' hi' hs' h5 hm'=>rw[hi]at hi';cases hi';exact absurd hs h5
  |jump _ _ j' i' hi' hs' ha' hm'=>
   rw[hi]at hi';cases hi';have:j=j':=by omega
   subst this;rw[ih hm']
theorem JH.lt{ins:List bj}{k m:Nat}(h:JH ins k m):k<ins.length:=by
 cases h with
 |ev _ i hi _=>exact(V4.1 hi).1
 |go _ _ i hi=>exact(V4.1 hi).1
 |jump _ _ j i hi=>exact(V4.1 hi).1
theorem FK{α:Type}[BEq α][LawfulBEq α]:∀{l U:List α},l.Nodup→(∀x∈l,x∈U)→l.length≤U.length
 |[],U,_,_=>by simp
 | x::l,U,hn,hs=>by
  have hx:x∈U:=hs x W4;have h1:=Vx.1 hn;have:=FK (l:=l) (U:=U.erase x) h1.2 λy hy=>(List.mem_erase_of_ne (by rintro rfl;exact h1.1 hy)).2 (hs y (by simp[hy]))
  rw[List.length_erase_of_mem hx]at this;have:=List.length_pos_of_mem hx;simp only[VI];omega
theorem Ny:∀{n:Nat} {l:List Nat},l.Nodup→(∀j∈l,j<n)→l.length≤n:=by
 intro n l hn h;have:=FK hn (U:=List.range n) λj hj=>Wi.2 (h j hj)
 simpa using this
def fR(t:ThrD)(c:Int):Bool:=decide (t.status=3)&&decide (t.cond=c)
def fitsS(w:aM)(s:SyncD):Bool:=decide (s.locks.length=w.locks.length)&&decide (s.done.length=w.futures.length)&&decide (s.threads.length=w.threads.length)&&w.conds.all λc=>inB c.mutex w.locks.length
def rwAt(w:aM)(o:Int):Bool:=(w.locks.getD o.toNat default).rw
def allowedS(w:aM)(k o:Int):Bool:=
 if k=1∨k=2∨k=5∨k=12∨k=13∨k=14∨k=15 then decide (o=-1)
 else if k=3∨k=4 then inB o w.cells.length
 else if k=6∨k=7 then inB o w.locks.length&&!rwAt w o
 else if k=8∨k=9∨k=10∨k=11 then inB o w.locks.length&&rwAt w o
 else if k=16∨k=17∨k=18∨k=19 then inB o w.conds.length
 else if k=20∨k=21 then inB o w.threads.length
 else if k=22∨k=23 then inB o w.futures.length
 else false
def aK(s:SyncD)(o:Int):LockD:=s.locks.getD o.toNat default
def cj(s:SyncD)(o:Int):ThrD:=s.threads.getD o.toNat default
def zF(s:SyncD)(o:Int):Bool:=s.done.getD o.toNat default
def lM(w:aM)(o:Int):Int:=(w.conds.getD o.toNat default).mutex
def cL(w:aM)(s:SyncD)(t k o:Int):Bool:=
 if k=6 then decide ((aK s o).owner=-1)
 else if k=10 then decide ((aK s o).owner=-1)&&decide ((aK s o).readers.length=0)
 else if k=8 then decide ((aK s o).owner=-1)&&!(aK s o).readers.contains t
 else if k=7∨k=11 then decide ((aK s o).owner=t)
 else if k=9 then(aK s o).readers.contains t
 else if k=12 then decide (s.tx=-1)
 else if k=13 then decide (s.tx=t)
 else if k=14 then !(cj s t).atomic
 else if k=15 then(cj s t).atomic
 else if k=16∨k=18∨k=19 then decide ((aK s (lM w o)).owner=t)
 else if k=20 then decide (o≠t)&&decide ((cj s o).status=0)
 else if k=21 then decide (o≠t)&&decide ((cj s o).status=5)
 else if k=22 then !zF s o
 else if k=23 then zF s o
 else true
def bM(w:aM)(s:SyncD)(t k o:Int):Bool:=
  fitsS w s&&inB t w.threads.length&&allowedS w k o &&
    (if k=1 then decide ((cj s t).status=1)
     else if k=17 then decide ((cj s t).status=4)&&decide ((cj s t).cond=o)&&decide ((aK s (lM w o)).owner=-1)
     else decide ((cj s t).status=2)&&cL w s t k o)
structure Nz(w:aM)(s:SyncD):Prop where
 locks:s.locks.length=w.locks.length
 done:s.done.length=w.futures.length
 threads:s.threads.length=w.threads.length
 conds:∀c∈w.conds,inB c.mutex w.locks.length=true
theorem zG{w:aM}{s:SyncD}:fitsS w s=true↔Nz w s:=by simp only[fitsS,VP,decide_eq_true_eq,VB];exact⟨λ⟨⟨⟨h1,h2⟩,h3⟩,h4⟩=>⟨h1,h2,h3,h4⟩,λ⟨h1,h2,h3,h4⟩=>⟨⟨⟨h1,h2⟩,h3⟩,h4⟩⟩
theorem La{w:aM}{s:SyncD}(h:Nz w s){o:Int}(ho:inB o w.conds.length=true):inB (lM w o) s.locks.length=true:=by
 obtain⟨h1,h2⟩:=ax.1 ho;have hlt:o.toNat<w.conds.length:=by omega
 rw[h.locks];have:w.conds.getD o.toNat default=w.conds[o.toNat]:=by simp[hlt]
 unfold lM;rw[this];exact h.conds _ (VF hlt)
theorem NA{s:SyncD}(hr:∀l∈s.locks,l.readers.length<2^40)(o:Int):(aK s o).readers.length<2^62:=by
 unfold aK;rcases Vp o.toNat s.locks.length with h|h
 ·have:=hr _ (VF h);simp[h];omega
 ·simp[List.getD,Vq h];decide
theorem kinds(k:Int):(k<1∨23<k)∨k=1∨k=2∨k=3∨k=4∨k=5∨k=6∨k=7∨k=8∨k=9∨k=10∨k=11∨k=12∨k=13∨k=14∨k=15∨k=16∨k=17∨k=18∨k=19∨k=20∨k=21∨k=22∨k=23:=by omega
theorem Il{w:aM}{k o:Int}(hk:k<1∨23<k):allowedS w k o=false:=by
 unfold allowedS
 repeat (rw[if_neg W1])
end Go.Proofs.YtenbpcngcicamaaGreatDoor.Am
