/- A part of the proof; the statement is proved in the last part. -/
import Derived.Test.YtenbpcngcicamaaGreatDoorQcf
import Derived.Shelf.Small.Wraps
import Derived.Shelf.Sort.Plain
import Derived.Shelf.Slices.Turned
import Derived.Ground.Names2Prog
import Derived.Shelf.Slices.Clone
import Derived.Shelf.Slices.CompactI
import Derived.Shelf.Slices.In.SortNone
import Derived.Ground.SlgnProg
import Derived.Shelf.SlicesE.Clone
import Derived.Test.YtenbpcngcicamaaGreatDoorProg
import Derived.WalkSpells
import Derived.Deep.DeepMust
import Derived.Sort.OwnSortedInts
set_option linter.unusedSimpArgs false
set_option linter.unusedVariables false
section
namespace Go.Proofs
open Go.Shelf
def Tryz.lays189_ren:Go.Shelf.Ren:=⟨fun|189=>86|125=>116|257=>115|128=>138|129=>139|294=>129|295=>130|296=>131|297=>132|298=>133|299=>134|216=>135|300=>136|301=>137|328=>142|329=>143|330=>144|331=>145|332=>146|215=>147|343=>148|n=>n,fun|28=>54|3=>3|46=>210|0=>0|51=>230|53=>232|4=>4|183=>223|182=>222|131=>227|5=>5|9=>9|218=>234|222=>238|228=>240|229=>217|n=>n,fun|n=>n⟩
theorem Tryz.lays189:Go.Proofs.Lays.n189 Tryz.prog Tryz.lays189_ren:={
 mixed:=by kernel_rfl
 f125:=Tryz.func116.trans (congrArg some (by kernel_rfl))
 f128:=Tryz.func138.trans (congrArg some (by kernel_rfl))
 f129:=Tryz.func139.trans (congrArg some (by kernel_rfl))
 f189:=Tryz.func86.trans (congrArg some (by kernel_rfl))
 f215:=Tryz.func147.trans (congrArg some (by kernel_rfl))
 f216:=Tryz.func135.trans (congrArg some (by kernel_rfl))
 f257:=Tryz.func115.trans (congrArg some (by kernel_rfl))
 f294:=Tryz.func129.trans (congrArg some (by kernel_rfl))
 f295:=Tryz.func130.trans (congrArg some (by kernel_rfl))
 f296:=Tryz.func131.trans (congrArg some (by kernel_rfl))
 f297:=Tryz.func132.trans (congrArg some (by kernel_rfl))
 f298:=Tryz.func133.trans (congrArg some (by kernel_rfl))
 f299:=Tryz.func134.trans (congrArg some (by kernel_rfl))
 f300:=Tryz.func136.trans (congrArg some (by kernel_rfl))
 f301:=Tryz.func137.trans (congrArg some (by kernel_rfl))
 f328:=Tryz.func142.trans (congrArg some (by kernel_rfl))
 f329:=Tryz.func143.trans (congrArg some (by kernel_rfl))
 f330:=Tryz.func144.trans (congrArg some (by kernel_rfl))
 f331:=Tryz.func145.trans (congrArg some (by kernel_rfl))
 f332:=Tryz.func146.trans (congrArg some (by kernel_rfl))
 f343:=Tryz.func148.trans (congrArg some (by kernel_rfl))
 t0:=Tryz.underlying0
 a0:=Tryz.isAgg0
 z0:=Tryz.sizeOf0
 v0:=Tryz.zeroValue0
 t3:=Tryz.underlying3
 a3:=Tryz.isAgg3
 z3:=Tryz.sizeOf3
 v3:=Tryz.zeroValue3
 t4:=Tryz.underlying4
 a4:=Tryz.isAgg4
 z4:=Tryz.sizeOf4
 v4:=Tryz.zeroValue4
 t5:=Tryz.underlying5
 a5:=Tryz.isAgg5
 z5:=Tryz.sizeOf5
 v5:=Tryz.zeroValue5
 t9:=Tryz.underlying9
 a9:=Tryz.isAgg9
 z9:=Tryz.sizeOf9
 v9:=Tryz.zeroValue9
 t28:=Tryz.underlying54
 a28:=Tryz.isAgg54
 z28:=Tryz.sizeOf54
 v28:=Tryz.zeroValue54
 t46:=Tryz.underlying210
 a46:=Tryz.isAgg210
 z46:=Tryz.sizeOf210
 v46:=Tryz.zeroValue210
 t51:=Tryz.underlying230
 a51:=Tryz.isAgg230
 z51:=Tryz.sizeOf230
 v51:=Tryz.zeroValue230
 t53:=Tryz.underlying232
 a53:=Tryz.isAgg232
 z53:=Tryz.sizeOf232
 v53:=Tryz.zeroValue232
 t131:=Tryz.underlying227
 a131:=Tryz.isAgg227
 z131:=Tryz.sizeOf227
 v131:=Tryz.zeroValue227
 t182:=Tryz.underlying222
 a182:=Tryz.isAgg222
 z182:=Tryz.sizeOf222
 v182:=Tryz.zeroValue222
 t183:=Tryz.underlying223
 a183:=Tryz.isAgg223
 z183:=Tryz.sizeOf223
 v183:=Tryz.zeroValue223
 t218:=Tryz.underlying234
 a218:=Tryz.isAgg234
 z218:=Tryz.sizeOf234
 v218:=Tryz.zeroValue234
 t222:=Tryz.underlying238
 a222:=Tryz.isAgg238
 z222:=Tryz.sizeOf238
 v222:=Tryz.zeroValue238
 t228:=Tryz.underlying240
 a228:=Tryz.isAgg240
 z228:=Tryz.sizeOf240
 v228:=Tryz.zeroValue240
 t229:=Tryz.underlying217
 a229:=Tryz.isAgg217
 z229:=Tryz.sizeOf217
 v229:=Tryz.zeroValue217}
open Go.Sort Go.RowKit in
theorem Tryz.slices_Sort_int(blk off cap:Nat)(zs:List Int)(w:World)(hH:Holds (Value.int .i64) w blk off zs.toArray)(hblk:blk<w.heap.size)(hsz:zs.length<4611686018427387904):
  Calls Tryz.prog 86 #[.slice (some ⟨blk,off,none⟩) zs.length cap] w λe w'=>
   e=.returned (.tuple #[])∧∃n os,w'=grow (putRow (Value.int .i64) (Sort.ahead w n) blk off (zs.mergeSort λx y=>decide (x≤y)).toArray) os:=Any.slices_Sort_int Tryz.lays189 blk off cap zs w hH hblk hsz
def Tryz.laysNm220_ren:Go.Shelf.Ren:=⟨fun|20=>87|n=>n,fun|22=>54|3=>3|4=>4|0=>0|n=>n,fun|n=>n⟩
theorem Tryz.laysNm220:Go.Proofs.Lays2.n20 Tryz.prog Tryz.laysNm220_ren:={
 mixed:=by kernel_rfl
 f20:=Tryz.func87.trans (congrArg some (by kernel_rfl))
 t0:=Tryz.underlying0
 a0:=Tryz.isAgg0
 z0:=Tryz.sizeOf0
 v0:=Tryz.zeroValue0
 t3:=Tryz.underlying3
 a3:=Tryz.isAgg3
 z3:=Tryz.sizeOf3
 v3:=Tryz.zeroValue3
 t4:=Tryz.underlying4
 a4:=Tryz.isAgg4
 z4:=Tryz.sizeOf4
 v4:=Tryz.zeroValue4
 t22:=Tryz.underlying54
 a22:=Tryz.isAgg54
 z22:=Tryz.sizeOf54
 v22:=Tryz.zeroValue54
 i3:=by kernel_rfl}
open Go.RowKit Go.Lib Go.Sort in
theorem Tryz.slices_Compact_int(blk off cap:Nat)(zs:List Int)(w:World)(hH:Holds (Value.int .i64) w blk off zs.toArray)(hsz:zs.length≤9223372036854775807)(hcap:zs.length≤cap):
  Calls Tryz.prog 87 #[.slice (some ⟨blk,off,none⟩) zs.length cap] w λe w'=>e=.returned (.slice (some ⟨blk,off,none⟩) (Lib.compact zs).length cap)∧∃q,w'=putRow (Value.int .i64) (Sort.ahead w q) blk off (Lib.compact zs++List.replicate (zs.length-(Lib.compact zs).length) 0).toArray:=Any.slices_Compact_int Tryz.laysNm220 blk off cap zs w hH hsz hcap
open Go.RowKit Go.Lib Go.Sort in
theorem Tryz.slices_Compact_int_empty(a:Option Addr)(cap:Nat)(w:World):
  Calls Tryz.prog 87 #[.slice a 0 cap] w λe w'=>e=.returned (.slice a 0 cap)∧w'=w:=Any.slices_Compact_int_empty Tryz.laysNm220 a cap w
open Go.RowKit Go.Sort in
theorem Tryz.slices_Sort_int_none(p:Option Addr)(cap:Nat)(w:World):
  Calls Tryz.prog 86 #[.slice p 0 cap] w λe w'=>e=.returned (.tuple #[])∧w'=w:=Any.slices_Sort_int_none Tryz.lays189 p cap w
end Go.Proofs
end
section
namespace Go.Proofs.YtenbpcngcicamaaGreatDoor
open Go.ChangeShapes Go.WideShapes Go.ChangeAt Go.RowKit
theorem elemI:Elem Tryz.prog 54 3 (.int .i64 0) 1 8:=elem_mk Tryz.underlying54 (by kernel_rfl) rfl W8
set_option maxHeartbeats 1000000 in
set_option maxRecDepth 100000 in
theorem cloneI_any(A:Option Addr)(n c:Nat)(xs:List Value)(w:World)(hf:Flat w 1 A n xs)(h1:∀x∈xs,x.oneCell'=true)(hn:n*8≤140737488355328)(hA:A=none→n=0):
  Calls Tryz.prog 93 #[.slice A n c] w λe w'=>∃v,e=.returned v∧w'.ownsRow w.heap.size 3 1 v n xs∧Below w.heap.size w w':=by
 have HF:=Lib.hid hf;have H1:=Lib.hid h1;clear hf h1;have heq:=λ(W:World) (a:Option Addr) (l c:Nat)=>Lib.run_eql_slice_nil (P:=Tryz.prog) W 54 3 a l c 0 0 Tryz.underlying54;cases A with
 |none=>
  obtain rfl:n=0:=hA rfl;have hx:xs=[]:=Wa (by have:=HF.out.1;simpa using this);have Hx:=Lib.hid hx;clear hx HF H1
  go_enter Tryz.func93,Tryz.ntmps93
  go_wp2_with fail
  go_ret
  exact⟨_,rfl,by rw[Hx.out];exact WC _ _ _ _,Below.refl _ _⟩
 |some a=>
  clear hA;have M0:Hid ((w.alloc (.cells #[] 3)).ownsRow w.heap.size 3 1 (.slice (some ⟨w.heap.size,0,none⟩) 0 0) 0 []):=Lib.hid (Wx w #[] 0 (Vo _) (by simp[maxLen]) W7)
  go_enter Tryz.func93,Tryz.ntmps93
  go_wp2_with (at_builtin;go_must (refine wpList_app rfl (.tmp 5) (.tmp 6) rfl elemI w.heap.size _ 0 [] rfl M0.out (some a) n c xs rfl (HF.out.kept ((Below.refl _ _).alloc (Vo _) _)) H1.out (by simp only[maxLen];omega) W4 W7 ?_);intro v1 w1 hown1 hg1)
  have hb1:=((Below.refl w.heap.size w).alloc (Vo _) _).grown hg1 W7 (own_from M0.out)
  go_wp2_with fail
  go_ret
  exact⟨_,rfl,by simpa using hown1,hb1⟩
end Go.Proofs.YtenbpcngcicamaaGreatDoor
end
section
namespace Go.Proofs.YtenbpcngcicamaaGreatDoor
open Go.ChangeShapes Go.WideShapes Go.ChangeAt Go.RowKit
set_option maxRecDepth 100000
theorem append_zero(t ty e:TypeId)(P:Program)(w:World)(ht:P.underlying t=some (.slice e))(hi:∃i,P.info? e=some i)(A B:Option Addr)(c:Nat):(Builtin.append_ #[t,t] ty #[.slice A 0 0,.slice B 0 c]).run P w=.ok (.slice A 0 0) w:=by obtain⟨i,hi⟩:=hi;cases A<;>cases B<;>simp[Builtin.append_,run_underlying ht,sizeOf,typeInfo,hi,Builtin.lenOf,Builtin.firstCells,loadCells,loadCellsFrom,storeCells]
theorem cloneI_zero(A:Option Addr)(c:Nat)(w:World):Calls Tryz.prog 93 #[.slice A 0 c] w λe w'=>∃B,e=.returned (.slice B 0 0)∧Below w.heap.size w w':=by
 have heq:=λ(W:World) (a:Option Addr) (l c:Nat)=>Lib.run_eql_slice_nil (P:=Tryz.prog) W 54 3 a l c 0 0 Tryz.underlying54;cases A with
 |none=>
  go_enter Tryz.func93,Tryz.ntmps93
  go_wp2_with fail
  go_ret
  exact⟨_,rfl,Below.refl _ _⟩
 |some a=>
  have hinf:∃i,Tryz.prog.info? 3=some i:=Option.isSome_iff_exists.1 (show(Tryz.prog.info? 3).isSome=true by kernel_rfl);have happ:=λ(W:World) (ty:TypeId) (A B:Option Addr)=>append_zero 54 ty 3 Tryz.prog W Tryz.underlying54 hinf A B c
  go_enter Tryz.func93,Tryz.ntmps93
  go_wp2_with fail
  go_ret
  exact⟨_,rfl,(Below.refl _ _).alloc (Vo _) _⟩
end Go.Proofs.YtenbpcngcicamaaGreatDoor
end
namespace Go.Proofs.YtenbpcngcicamaaGreatDoor.Am
section
open Go.RowKit Go.Sort
def zp(l:List Int):List Int:=l.mergeSort λx y=>decide (x≤y)
theorem qo(l:List Int):(zp l).length=l.length:=by simp[zp]
theorem Ia{xs:List Int}{i:Nat}{r:List AV}(h:(xs.map ao)[i]? =some r):∃x,xs[i]? =some x∧r=[.int .i64 x]:=by
 rw[VD]at h;cases hx:xs[i]? with
 |none=>rw[hx]at h;cases h
 |some x=>rw[hx]at h;cases h;exact⟨x,rfl,rfl⟩
theorem Ib{P:Program}{f:FuncId}(hbody:∃fn c,P.funcs[f]? =some fn∧fn.body=some c)(b:Nat)(xs ys:List Int)(hlen:ys.length=xs.length)(v:AV)(ret:Addr→Nat→Value)
  (hrep:∀(w':World) (σ:bq) (T:Nat→Prop) (pl:cl) (a:Addr) (cap:Nat),σ b=some pl→pl.ok→xs.length≤cap→cap≤maxLen→(0<cap→a=⟨pl.block,pl.base+0*pl.size,none⟩∧∃cs e,w'.heap[pl.block]? =some (.cells cs e (0,0))∧pl.base+(0+cap)*pl.size≤cs.size)→aU w' σ T v (ret a cap))
  (hpos:∀(blk off cap:Nat) (w:World),Holds (Value.int .i64) w blk off xs.toArray→blk<w.heap.size→xs.length≤cap→Calls P f #[.slice (some ⟨blk,off,none⟩) xs.length cap] w λe w'=>e=.returned (ret ⟨blk,off,none⟩ cap)∧∃n os,w'=grow (putRow (Value.int .i64) (Sort.ahead w n) blk off ys.toArray) os)
  (hzero:xs.length=0→∀(a:Addr) (cap:Nat) (w:World),Calls P f #[.slice (some a) 0 cap] w λe w'=>e=.returned (ret a cap)∧w'=w) :
  ai P f [.sl b 0 xs.length] [(b,⟨1,xs.map ao⟩)] λu L=>u=v∧L=[(b,⟨1,ys.map ao⟩)]:=by
 refine⟨hbody,λH hb hs=>⟨v,H.put b (some ⟨1,ys.map ao⟩),[(b,⟨1,ys.map ao⟩)],?_,?_,rfl,rfl⟩⟩
 ·intro w σ vs hW hvs;obtain⟨v,rfl,hv⟩:=KM hvs;obtain⟨pl,a,cap,rfl,hsg,hnc,hmx,ha⟩:=hv.sl_inv;have hg:H.get b=some ⟨1,xs.map ao⟩:=hs.get (b,⟨1,xs.map ao⟩) W7;obtain⟨pl',cs,e,g1,g2⟩:=hW.live b _ hg;rw[hsg]at g1;cases g1;replace g2:=g2.1 (hv.sl_ok hsg);have hsz:pl.size=1:=g2.size;rcases Wi xs.length with h0|h0
  ·have hx:xs=[]:=Wr.1 h0;have hy:ys=[]:=Wr.1 W4;have hz:=hzero h0 a cap w;rw[h0];refine hz.mono ?_;rintro e' w' ⟨rfl,rfl⟩;have hput:=hW.put hg hsg (lH.refl g2.block) (x':=⟨1,ys.map ao⟩) g2.size.symm (by simp[hy]) (by simpa[hy,hx]using g2.room) (by simp[hy]);exact⟨_,σ,rfl,hrep _ _ _ pl a cap hsg (hv.sl_ok hsg) hnc hmx ha,hput.1,hput.2,λc pl hc=>.inl hc⟩
  ·have ha':=ha;obtain⟨rfl,cs',te,hcs',hroom⟩:=ha W4;rw[g2.block]at hcs';cases hcs';have hr:=g2.room;simp only[Wv,Nat.mul_one]at hr;have hcell:∀(i:Nat) (x:Int),xs[i]? =some x→cs[pl.base+i]? =some (.int .i64 x):=λi x hx=>by
    have hi:=aA hx;have hi':pl.base+i<cs.size:=by omega
    have:=g2.rep i [.int .i64 x] 0 (.int .i64 x) cs[pl.base+i] (by simp[hx,ao]) rfl (by simp[VP hi']);cases hq:cs[pl.base+i]with
    |_=>rw[hq]at this;cases this<;>rw[VP hi',hq]
   have hH:Holds (Value.int .i64) w pl.block (pl.base+0*pl.size) xs.toArray:=λj hj=>by
    have hj':j<xs.length:=by simpa using hj
    refine⟨?_,by simp[World.frozen?,g2.block]⟩;have:=hcell j xs[j] (Vn hj');simp[World.cell?,g2.block,this,hj']
   refine(hpos pl.block (pl.base+0*pl.size) cap w hH (hW.lt b pl hsg) hnc).mono ?_;rintro e' w' ⟨rfl,n,os,rfl⟩;have hz:pl.base+0*pl.size=pl.base:=by omega
   rw[show putRow (Value.int .i64) (Sort.ahead w n) pl.block (pl.base+0*pl.size) ys.toArray=putRow (Value.int .i64) (Sort.ahead w n) pl.block pl.base ys.toArray by rw[hz]];have hw:lH w (putRow (Value.int .i64) (Sort.ahead w n) pl.block pl.base ys.toArray) pl.block cs (putCells (Value.int .i64) pl.base ys.toArray cs) e:=
    ⟨rfl,rfl,rfl,by simp[Sort.ahead],g2.block,by simp[putRow,mapBlock,Sort.ahead,Array.getElem?_modify,g2.block,onCells],by simp[putCells],λd hd=>by
     have:pl.block≠d:=λe=>hd e.symm
     simp[putRow,mapBlock,Sort.ahead,Array.getElem?_modify,this]⟩
   obtain⟨p1,p2⟩:=hW.put hg hsg hw (x':=⟨1,ys.map ao⟩) g2.size.symm (λi r hr=>by obtain⟨x,_,rfl⟩:=Ia hr;rfl) (by simp only[Wv,Nat.mul_one];omega) (λi r j a u hr hj hu=>by
    obtain⟨x,hx,rfl⟩:=Ia hr
    match j,hj with
    |0,hj=>
     cases hj;have hi:=aA hx;have hi':pl.base+i<cs.size:=by omega
     simp only[Nat.mul_one,WN]at hu;have:(putCells (Value.int .i64) pl.base ys.toArray cs)[pl.base+i]? =some (.int .i64 x):=by
      have hx':ys[i]=x:=by rw[Vn hi]at hx;exact WX hx
      simp[putCells,hi',hi,hx']
     rw[this]at hu;cases hu;exact .int _ _
    |j+1,hj=>simp at hj)
   generalize hw1:putRow (Value.int .i64) (Sort.ahead w n) pl.block pl.base ys.toArray=w1 at p1 p2;have hbl:Below w1.heap.size w1 (grow w1 os):=⟨rfl,rfl,rfl,by simp[grow],λk hk=>heap_grow_old _ _ hk⟩;have hE:=p2.trans (iY hbl λc hc=>(p1.apart c hc).1);exact⟨_,σ,rfl,hrep _ _ _ pl _ cap hsg (hv.sl_ok hsg) hnc hmx (λh=>⟨rfl,by obtain⟨cs2,k1,k2⟩:=hE.shape _ _ _ g2.block;exact⟨cs2,_,k1,W4⟩⟩),zc p1 hbl,p2.trans (iY hbl λc hc=>(p1.apart c hc).1),λc pl hc=>.inl hc⟩
 ·have hg:H.get b=some ⟨1,xs.map ao⟩:=hs.get (b,⟨1,xs.map ao⟩) W7;refine⟨Vo _,λc hc=>?_,⟨W7,λp hp=>?_⟩,λc x hc hn=>⟨?_,?_⟩,λc hc h0=>?_,λc hc hlt=>?_⟩
  ·rw[ae.get_put,if_neg];exact hb c hc;rintro rfl;rw[hb _ hc]at hg;cases hg
  ·simp only[Vv]at hp;subst hp;rw[ae.get_put,if_pos rfl]
  ·rw[ae.get_put,if_neg];exact hc;rintro rfl;exact hn W7
  ·simpa using hn
  ·rw[ae.get_put,if_neg];exact h0;rintro rfl;rw[hg]at h0;cases h0
  ·simpa using hc
theorem KT(b:Nat)(xs:List Int)(hl:xs.length<4611686018427387904):ai Tryz.prog 86 [.sl b 0 xs.length] [(b,⟨1,xs.map ao⟩)] λv L=>v=.tup []∧L=[(b,⟨1,(zp xs).map ao⟩)]:=
 Ib ⟨_,_,Tryz.func86,rfl⟩ b xs (zp xs) (qo xs) (.tup []) (λ_ _=>.tuple #[]) (λ_ _ _ _ _ _ _ _ _ _ _=>.tup [] [] rfl W7)
  (λblk off cap w hH hblk _=>Tryz.slices_Sort_int blk off cap xs w hH hblk hl) (λ_ a cap w=>Tryz.slices_Sort_int_none (some a) cap w)
theorem pj(l:List Int):(Lib.compact l).length≤l.length:=by unfold Lib.compact Lib.compactUpTo;rw[Wv];exact VG (WT _ _) W7
theorem C9(b:Nat)(xs:List Int)(hl:xs.length≤9223372036854775807):ai Tryz.prog 87 [.sl b 0 xs.length] [(b,⟨1,xs.map ao⟩)] λv L=>v=.sl b 0 (Lib.compact xs).length∧L=[(b,⟨1,(Lib.compact xs++List.replicate (xs.length-(Lib.compact xs).length) 0).map ao⟩)]:=
 Ib ⟨_,_,Tryz.func87,rfl⟩ b xs _ (by have:=pj xs;simp;omega) (.sl b 0 (Lib.compact xs).length) (λa cap=>.slice (some a) (Lib.compact xs).length cap)
  (λw_ σ T pl a cap h1 h0 h2 h3 h4=>.sl b 0 _ pl a cap h1 h0 (VG (pj xs) h2) h3 h4)
  (λblk off cap w hH hblk hcap=>(Tryz.slices_Compact_int blk off cap xs w hH hl hcap).mono λe w' ⟨h1,q,h2⟩=>⟨h1,q,#[],by rw[h2,grow_empty]⟩)
  (λh0 a cap w=>by
   have hx:xs=[]:=Wr.1 h0;subst hx;exact Tryz.slices_Compact_int_empty (some a) cap w)
theorem FC(xs:List Int)(hl:xs.length*8≤140737488355328):ai Tryz.prog 93 [.lst (xs.map ao)] [] λv L=>∃o,v=aq o xs.length∧L=ah o 1 (xs.map ao)∧(o=none→xs=[]):=by
 rcases List.eq_nil_or_concat xs with rfl|⟨ys,y,hxs⟩
 ·exact(Jw cloneI_zero ⟨_,_,Tryz.func93,rfl⟩).mono λv L ⟨h1,h2⟩=>⟨none,h1,h2,λ_=>rfl⟩
 ·have hne:xs.map ao≠[]:=by rw[hxs];simp
  refine(C2 (λA n c xs w hf h1 hn hA=>cloneI_any A n c xs w hf h1 hn hA) ⟨_,_,Tryz.func93,rfl⟩ (xs.map ao) hne (by simp[ao,AV.one]) (λr hr=>by obtain⟨x,_,rfl⟩:=V0.1 hr;rfl) (by simpa using hl)).mono ?_;rintro v L ⟨b,rfl,rfl⟩;exact⟨some b,by simp[aq],rfl,λh=>by cases h⟩
end
end Go.Proofs.YtenbpcngcicamaaGreatDoor.Am
section
namespace Go.Proofs.YtenbpcngcicamaaGreatDoor
open Go.ChangeShapes Go.WideShapes Go.ChangeAt Go.RowKit
theorem elemB:Elem Tryz.prog 41 4 (.bool false) 1 1:=elem_mk Tryz.underlying41 (by kernel_rfl) rfl W8
set_option maxHeartbeats 1000000 in
set_option maxRecDepth 100000 in
theorem cloneB_any(A:Option Addr)(n c:Nat)(xs:List Value)(w:World)(hf:Flat w 1 A n xs)(h1:∀x∈xs,x.oneCell'=true)(hn:n*1≤140737488355328)(hA:A=none→n=0):
  Calls Tryz.prog 113 #[.slice A n c] w λe w'=>∃v,e=.returned v∧w'.ownsRow w.heap.size 4 1 v n xs∧Below w.heap.size w w':=by
 have HF:=Lib.hid hf;have H1:=Lib.hid h1;clear hf h1;have heq:=λ(W:World) (a:Option Addr) (l c:Nat)=>Lib.run_eql_slice_nil (P:=Tryz.prog) W 41 4 a l c 0 0 Tryz.underlying41;cases A with
 |none=>
  obtain rfl:n=0:=hA rfl;have hx:xs=[]:=Wa (by have:=HF.out.1;simpa using this);have Hx:=Lib.hid hx;clear hx HF H1
  go_enter Tryz.func113,Tryz.ntmps113
  go_wp2_with fail
  go_ret
  exact⟨_,rfl,by rw[Hx.out];exact WC _ _ _ _,Below.refl _ _⟩
 |some a=>
  clear hA;have M0:Hid ((w.alloc (.cells #[] 4)).ownsRow w.heap.size 4 1 (.slice (some ⟨w.heap.size,0,none⟩) 0 0) 0 []):=Lib.hid (Wx w #[] 0 (Vo _) (by simp[maxLen]) W7)
  go_enter Tryz.func113,Tryz.ntmps113
  go_wp2_with (at_builtin;go_must (refine wpList_app rfl (.tmp 5) (.tmp 6) rfl elemB w.heap.size _ 0 [] rfl M0.out (some a) n c xs rfl (HF.out.kept ((Below.refl _ _).alloc (Vo _) _)) H1.out (by simp only[maxLen];omega) W4 W7 ?_);intro v1 w1 hown1 hg1)
  have hb1:=((Below.refl w.heap.size w).alloc (Vo _) _).grown hg1 W7 (own_from M0.out)
  go_wp2_with fail
  go_ret
  exact⟨_,rfl,by simpa using hown1,hb1⟩
end Go.Proofs.YtenbpcngcicamaaGreatDoor
end
namespace Go.Proofs.YtenbpcngcicamaaGreatDoor.Am
section
open Go.RowKit
theorem LF(xs:List Bool)(hl:xs.length≤140737488355328):ai Tryz.prog 113 [.lst (xs.map aV)] [] λv L=>∃o,v=aQ o xs.length∧L=ah o 1 (xs.map aV)∧(o=none→xs=[]):=by refine(fI (λA n c xs w hf h1 hn hA=>cloneB_any A n c xs w hf h1 hn hA) ⟨_,_,Tryz.func113,rfl⟩ (xs.map aV) (by simp[aV,AV.one]) (λr hr=>by obtain⟨x,_,rfl⟩:=V0.1 hr;rfl) (by simpa using hl)).mono ?_;rintro v L ⟨o,rfl,rfl,h⟩;exact⟨o,W7,rfl,λe=>by simpa using h e⟩
end
end Go.Proofs.YtenbpcngcicamaaGreatDoor.Am
section
namespace Go.Proofs.YtenbpcngcicamaaGreatDoor
open Go.ChangeShapes Go.WideShapes Go.ChangeAt Go.RowKit
theorem elemT:Elem Tryz.prog 42 181 (.agg #[.int .i64 0,.int .i64 0,.bool false]) 3 24:=elem_mk Tryz.underlying42 (by kernel_rfl) rfl W8
set_option maxHeartbeats 1000000 in
set_option maxRecDepth 100000 in
theorem cloneT_any(A:Option Addr)(n c:Nat)(xs:List Value)(w:World)(hf:Flat w 3 A n xs)(h1:∀x∈xs,x.oneCell'=true)(hn:n*24≤140737488355328)(hA:A=none→n=0):
  Calls Tryz.prog 114 #[.slice A n c] w λe w'=>∃v,e=.returned v∧w'.ownsRow w.heap.size 181 3 v n xs∧Below w.heap.size w w':=by
 have HF:=Lib.hid hf;have H1:=Lib.hid h1;clear hf h1;have heq:=λ(W:World) (a:Option Addr) (l c:Nat)=>Lib.run_eql_slice_nil (P:=Tryz.prog) W 42 181 a l c 0 0 Tryz.underlying42;cases A with
 |none=>
  obtain rfl:n=0:=hA rfl;have hx:xs=[]:=Wa (by have:=HF.out.1;simpa using this);have Hx:=Lib.hid hx;clear hx HF H1
  go_enter Tryz.func114,Tryz.ntmps114
  go_wp2_with fail
  go_ret
  exact⟨_,rfl,by rw[Hx.out];exact WC _ _ _ _,Below.refl _ _⟩
 |some a=>
  clear hA;have M0:Hid ((w.alloc (.cells #[] 181)).ownsRow w.heap.size 181 3 (.slice (some ⟨w.heap.size,0,none⟩) 0 0) 0 []):=Lib.hid (Wx w #[] 0 (Vo _) (by simp[maxLen]) W7)
  go_enter Tryz.func114,Tryz.ntmps114
  go_wp2_with (at_builtin;go_must (refine wpList_app rfl (.tmp 5) (.tmp 6) rfl elemT w.heap.size _ 0 [] rfl M0.out (some a) n c xs rfl (HF.out.kept ((Below.refl _ _).alloc (Vo _) _)) H1.out (by simp only[maxLen];omega) W4 W7 ?_);intro v1 w1 hown1 hg1)
  have hb1:=((Below.refl w.heap.size w).alloc (Vo _) _).grown hg1 W7 (own_from M0.out)
  go_wp2_with fail
  go_ret
  exact⟨_,rfl,by simpa using hown1,hb1⟩
end Go.Proofs.YtenbpcngcicamaaGreatDoor
end
namespace Go.Proofs.YtenbpcngcicamaaGreatDoor.Am
section
open Go.RowKit
theorem FD(xs:List ThrD)(hl:xs.length*24≤140737488355328):ai Tryz.prog 114 [.lst (xs.map ThrD.enc)] [] λv L=>∃o,v=aQ o xs.length∧L=ah o 3 (xs.map ThrD.enc)∧(o=none→xs=[]):=by refine(fI (λA n c xs w hf h1 hn hA=>cloneT_any A n c xs w hf h1 hn hA) ⟨_,_,Tryz.func114,rfl⟩ (xs.map ThrD.enc) (by simp[ThrD.enc,AV.one]) (λr hr=>by obtain⟨x,_,rfl⟩:=V0.1 hr;rfl) (by simpa using hl)).mono ?_;rintro v L ⟨o,rfl,rfl,h⟩;exact⟨o,W7,rfl,λe=>by simpa using h e⟩
end
end Go.Proofs.YtenbpcngcicamaaGreatDoor.Am
section
namespace Go.Proofs.YtenbpcngcicamaaGreatDoor
open Go.ChangeShapes Go.WideShapes Go.ChangeAt Go.RowKit
theorem elemJ:Elem Tryz.prog 45 2 (.int .i64 0) 1 8:=elem_mk Tryz.underlying45 (by kernel_rfl) rfl W8
set_option maxHeartbeats 1000000 in
set_option maxRecDepth 100000 in
theorem cloneJ_any(A:Option Addr)(n c:Nat)(xs:List Value)(w:World)(hf:Flat w 1 A n xs)(h1:∀x∈xs,x.oneCell'=true)(hn:n*8≤140737488355328)(hA:A=none→n=0):
  Calls Tryz.prog 92 #[.slice A n c] w λe w'=>∃v,e=.returned v∧w'.ownsRow w.heap.size 2 1 v n xs∧Below w.heap.size w w':=by
 have HF:=Lib.hid hf;have H1:=Lib.hid h1;clear hf h1;have heq:=λ(W:World) (a:Option Addr) (l c:Nat)=>Lib.run_eql_slice_nil (P:=Tryz.prog) W 45 2 a l c 0 0 Tryz.underlying45;cases A with
 |none=>
  obtain rfl:n=0:=hA rfl;have hx:xs=[]:=Wa (by have:=HF.out.1;simpa using this);have Hx:=Lib.hid hx;clear hx HF H1
  go_enter Tryz.func92,Tryz.ntmps92
  go_wp2_with fail
  go_ret
  exact⟨_,rfl,by rw[Hx.out];exact WC _ _ _ _,Below.refl _ _⟩
 |some a=>
  clear hA;have M0:Hid ((w.alloc (.cells #[] 2)).ownsRow w.heap.size 2 1 (.slice (some ⟨w.heap.size,0,none⟩) 0 0) 0 []):=Lib.hid (Wx w #[] 0 (Vo _) (by simp[maxLen]) W7)
  go_enter Tryz.func92,Tryz.ntmps92
  go_wp2_with (at_builtin;go_must (refine wpList_app rfl (.tmp 5) (.tmp 6) rfl elemJ w.heap.size _ 0 [] rfl M0.out (some a) n c xs rfl (HF.out.kept ((Below.refl _ _).alloc (Vo _) _)) H1.out (by simp only[maxLen];omega) W4 W7 ?_);intro v1 w1 hown1 hg1)
  have hb1:=((Below.refl w.heap.size w).alloc (Vo _) _).grown hg1 W7 (own_from M0.out)
  go_wp2_with fail
  go_ret
  exact⟨_,rfl,by simpa using hown1,hb1⟩
end Go.Proofs.YtenbpcngcicamaaGreatDoor
end
namespace Go.Proofs.YtenbpcngcicamaaGreatDoor.Am
section
set_option maxRecDepth 100000
def Da(Q:R)(b:Kn)(c d e f g:AV)(a:SH):Prop:=W.un .not g λh=>wk h (Q (.bool false) a) (wb .add 3 c (.W9 1) λi=>b [d,e,f,i] a)
def Db(Q:R)(f:Kn)(b:SH)(c d e g:AV):Prop:=lE 2 c d b λh=>qn [(.str []),(.W9 0)] 2 h b λi a=>aC 1 i a λj=>aC 1 e a λk=>W.len k λl=>wc (.fn 110 []) [j,l] a (Da Q f d e c g)
def pk(Q:R)(d:Vs)(a:SH)(e:Kn):Prop:=yO 2 33 34 35 d λf g b c=>wb .lss 3 c b λh=>wk h ((Db Q e a g c f b)) (Q (.bool true) a)
def sg(l m:AV)(L:SH)(Q:R):Prop:=W.box l L λn o=>W.box m o λp q=>W.frz1 n q λc r=>W.frz1 p r λd e=>aC 0 d e λs=>W.len s λt=>aC 1 c e λu=>W.len u λv=>wb .neq 3 t v λa=>wg a false (W.faddr 2 d) e λw g=>wg a false (wl w g) g λx y=>wg a false (W.len x) y λz A=>wg a false (W.faddr 3 c) A λB h=>wg a false (wl B h) h λC D=>wg a false (W.len C) D λE F=>wg a false (wb .neq 3 z E) F λG H=>W.pick a (.bool true) G λb=>wg b false (W.faddr 3 d) H λI i=>wg b false (wl I i) i λJ M=>wg b false (W.len J) M λN O=>wg b false (W.faddr 4 c) O λP j=>wg b false (wl P j) j λS T=>wg b false (W.len S) T λU V=>wg b false (wb .neq 3 N U) V λX f=>W.pick b (.bool true) X λY=>wk Y (Q (.bool false) f) (aC 2 c f λk=>W.len k λZ=>W.loop (pk Q) [c,k,Z,(.W9 0)] f)
theorem Dc(t0 t1:AV)(L:SH)(Q:R)(h:sg t0 t1 L Q):ai Tryz.prog 109 [t0,t1] L Q:=
 fs [] [(4,[2,33,34,35])] [(0,[2,3]),(5,[6])] [] Tryz.func109 h
def Bu(d:Kn)(a:SH)(b c e f:AV):Prop:=aC 0 b a λg=>W.idx 2 g c a λh=>W.faddr 0 h λi=>W.store 1 i (.W9 (-1)) a λj=>wb .add 3 c (.W9 1) λk=>d [e,b,f,k] j
def Bv(Q:R)(a:SH)(b c:AV):Prop:=aC 3 b a λf=>W.idx 3 f (.W9 0) a λg=>W.faddr 0 g λh=>W.store 1 h (.W9 1) a λd=>ca 4 b d λi=>W.store 4 c i d λe=>W.load true 4 c e λj=>Q j e
def Bw(Q:R)(a:SH)(b c:AV):Prop:=aC 3 b a λe=>W.len e λf=>wb .gtr 3 f (.W9 0) λg=>wk g ((Bv Q a b c)) (ca 4 b a λh=>W.store 4 c h a λd=>W.load true 4 c d λi=>Q i d)
def nv(Q:R)(f:Vs)(a:SH)(g:Kn):Prop:=yO 2 3 20 21 f λb c d e=>wb .lss 3 e d λh=>wk h ((Bu g a c e b d)) ((Bw Q a c b))
def pn(r:AV)(L:SH)(Q:R):Prop:=W.box r L λs t=>W.alloc [.nils,(.W9 0),.nils,.nils] t λu v=>W.frz1 s v λc g=>(true=true)∧(aO 1 c [] 1 g λw a=>W.len w λh=>W.calm [] ⟨3,[],[],[],false,[]⟩ (W.mslice 2 32 [(.W9 0),.nils] h h g λi j=>wn [] [] (aa i) [] λb=>aO 3 c [rm 3 b,rm 1 a] 5 j λx d=>W.len x λk=>W.calm [rm 3 b,rm 1 a] ⟨7,[],[],[],false,[]⟩ (W.mslice 1 1 [(.bool false)] k k j λl m=>wn [] [] (aa l) [] λe=>aO 4 c [rm 7 e,rm 5 d,rm 3 b,rm 1 a] 9 m λy z=>W.len y λn=>W.calm [rm 7 e,rm 5 d,rm 3 b,rm 1 a] ⟨11,[],[],[],false,[]⟩ (W.mslice 3 24 [(.W9 0),(.W9 0),(.bool false)] n n m λo A=>wn [] [] (aa o) [] λB=>W.build [.nils,(.W9 0),.nils,.nils] [(0,1,i),(1,1,(.W9 (-1))),(2,1,l),(3,1,o)] λC=>W.calm [rm 11 B,rm 9 z,rm 7 e,rm 5 d,rm 3 b,rm 1 a] ⟨13,[],[],[],false,[]⟩ (W.alloc [.nils,(.W9 0),.nils,.nils] A λf D=>wn [] [] (aa f) [] λH=>ds [] 14 4 f C D λE I=>W.frz1 f E λp q=>aC 0 p q λF=>W.len F λG=>W.loop (nv Q) [u,p,G,(.W9 0)] q)))))
theorem Bx(t0:AV)(L:SH)(Q:R)(h:pn t0 L Q):ai Tryz.prog 54 [t0] L Q:=
 fs [] [(3,[2,3,20,21])] [(0,[1]),(1,[3])] [(1,[0,1,3,7,0,16,48,112,0,256,768,1792,4095,0,16383])] Tryz.func54 h
def wA(Q:R)(c:SH)(l m v w:AV):Prop:=(true=true)∧(aO 0 m [] 1 c λx d2=>wb .eql 3 x (.W9 4) λb=>W.dgrd b true (λy=>W.faddr 1 m λz=>y z c rz) c λA d d3=>W.dgrd b true (λB=>dl [] 5 A d λC D=>B C d D) d λE n d4=>W.dgrd b true (λF=>F l n rz) n λG o d5=>W.dgrd b true (λH=>wb .eql 3 E G λI=>H I o rz) o λJ p d6=>W.pick b J (.bool false) λa=>W.dgrd a true (λM=>W.faddr 0 v λN=>M N p rz) p λO e d7=>W.dgrd a true (λP=>dl [] 11 O e λS T=>P S e T) e λU q f=>W.dgrd a true (λV=>W.faddr 2 w λX=>V X q rz) q λY g d8=>W.dgrd a true (λZ=>dl [rm 11 f] 13 Y g λa0 a1=>Z a0 g a1) g λa2 r d9=>W.dgrd a true (λa3=>a3 l r rz) r λa4 h e0=>W.dgrd a true (λa5=>di [rm 11 f] 15 2 a2 a4 h λa6 a7=>a5 a6 h a7) h λa8 s e1=>W.dgrd a true (λa9=>W.faddr 1 a8 λb0=>a9 b0 s rz) s λb1 i e2=>W.dgrd a true (λb2=>dl [rm 11 f] 17 b1 i λb3 b4=>b2 b3 i b4) i λb5 j e3=>W.dgrd a true (λb6=>di [] 18 2 U b5 j λb7 b8=>b6 b7 j b8) j λb9 t e4=>W.dgrd a true (λc0=>W.faddr 0 b9 λc1=>c0 c1 t rz) t λc2 k e5=>W.dgrd a true (λc3=>dl [] 20 c2 k λc4 c5=>c3 c4 k c5) k λc6 u e6=>W.dgrd a true (λc7=>wb .eql 3 c6 (.W9 (-1)) λc8=>c7 c8 u rz) u λc9 d0 e7=>W.pick a c9 (.bool false) λd1=>Q d1 d0)
def wB(Q:R)(b:SH)(e f g h i j:AV):Prop:=aC 0 h b λk=>wb .eql 3 k (.W9 2) λa=>wg a true (ca 6 i b) b λl c=>wg a true (ca 4 j c) c λm n=>bH a true e n λo p=>bH a true f p λq r=>bH a true g r λs d=>W.grd a true (λt=>wc (.fn 112 []) [l,m,o,q,s] d λu v=>t u v) d λw x=>W.pick a w (.bool false) λy=>Q y x
def wC(Q:R)(b:SH)(f c g d h:AV):Prop:=aC 3 d b λi=>lE 3 i f b λj=>qn [(.W9 0),(.W9 0),(.bool false)] 3 j b λe a=>wb .eql 3 c (.W9 1) λk=>wk k (aC 0 e a λl=>wb .eql 3 l (.W9 1) λm=>Q m a) (wb .eql 3 c (.W9 17) λn=>wk n ((wA Q a g e d h)) ((wB Q a f c g e h d)))
def wD(Q:R)(d e f c l m:AV)(n:SH):Prop:=W.un .not m λa=>bH a false d n λo p=>wg a false (W.faddr 4 c) p λq g=>wg a false (wl q g) g λr s=>wg a false (W.len r) s λt h=>W.grd a false (λu=>wc (.fn 110 []) [o,t] h λv w=>u v w) h λx y=>wg a false (W.un .not x) y λz i=>W.pick a (.bool true) z λb=>wg b false (ca 6 c i) i λA B=>bH b false e B λC D=>bH b false f D λE j=>W.grd b false (λF=>wc (.fn 111 []) [A,C,E] j λG H=>F G H) j λI J=>wg b false (W.un .not I) J λM k=>W.pick b (.bool true) M λN=>wk N (Q (.bool false) k) ((wC Q k d e f l c))
def lQ(d e f g h:AV)(L:SH)(Q:R):Prop:=W.box d L λi j=>W.box e j λk l=>W.frz1 i l λb m=>W.frz1 k m λc a=>ca 6 b a λn=>ca 4 c a λo=>wc (.fn 109 []) [n,o] a (wD Q f g h b c)
theorem wE(t0 t1 t2 t3 t4:AV)(L:SH)(Q:R)(h:lQ t0 t1 t2 t3 t4 L Q):ai Tryz.prog 84 [t0,t1,t2,t3,t4] L Q:=
 fs [] [] [(0,[5,6]),(3,[11])] [(8,[0,1,3,7,15,31,15,127,255,511,1023,2047,1023,5119,1023,29695,62463,127999,262143,524287,1048575,2097151,4194303,8388607])] Tryz.func84 h
def wF(Q:R)(e f a:AV)(g:SH):Prop:=wg a true (W.faddr 1 e) g λh b=>wg a true (wl h b) b λi j=>bH a true f j λk c=>wg a true (W.idx 2 i k c) c λl m=>wg a true (W.faddr 1 l) m λn d=>wg a true (wl n d) d λo p=>wg a true (W.un .not o) p λq r=>W.pick a q (.bool false) λs=>Q s r
def wG(Q:R)(e f a:AV)(g:SH):Prop:=wg a true (W.faddr 1 e) g λh b=>wg a true (wl h b) b λi j=>bH a true f j λk c=>wg a true (W.idx 2 i k c) c λl m=>wg a true (W.faddr 1 l) m λn d=>wg a true (wl n d) d λo p=>W.pick a o (.bool false) λq=>Q q p
def wH(Q:R)(b:Vs)(a:SH):Prop:=vO 2 3 79 b λc d e=>wk e (aC 3 d a λf=>W.len f λg=>wc (.fn 110 []) [c,g] a λh i=>Q h i) (Q (.bool false) a)
def wI(Q:R)(a:SH)(b c d:AV):Prop:=W.join (wH Q) λe=>wb .eql 3 b (.W9 22) λf=>wk f (e [c,d,f] a) (wb .eql 3 b (.W9 23) λg=>e [c,d,g] a)
def wJ(Q:R)(d:Vs)(a:SH):Prop:=yO 2 3 7 71 d λb c e f=>wk f (aC 4 c a λg=>W.len g λh=>wc (.fn 110 []) [b,h] a λi j=>Q i j) ((wI Q a e b c))
def wK(Q:R)(b:SH)(a c d:AV):Prop:=W.join (wJ Q) λe=>wb .eql 3 a (.W9 20) λf=>wk f (e [c,d,a,f] b) (wb .eql 3 a (.W9 21) λg=>e [c,d,a,g] b)
def wL(Q:R)(d:Vs)(a:SH):Prop:=yO 2 3 7 61 d λb c e f=>wk f (aC 2 c a λg=>W.len g λh=>wc (.fn 110 []) [b,h] a λi j=>Q i j) ((wK Q a e b c))
def wM(b:Kn)(c:SH)(a d e:AV):Prop:=wb .eql 3 a (.W9 17) λf=>wk f (b [d,e,a,f] c) (wb .eql 3 a (.W9 18) λg=>wk g (b [d,e,a,g] c) (wb .eql 3 a (.W9 19) λh=>b [d,e,a,h] c))
def wN(Q:R)(b:SH)(a c d:AV):Prop:=W.join (wL Q) λe=>wb .eql 3 a (.W9 16) λf=>wk f (e [c,d,a,f] b) ((wM e b a c d))
def wO(Q:R)(d:Vs)(a:SH):Prop:=yO 2 3 7 43 d λb c e f=>wk f (aC 1 c a λg=>W.len g λh=>wc (.fn 110 []) [b,h] a (wG Q c b)) ((wN Q a e b c))
def wP(b:Kn)(c:SH)(a d e:AV):Prop:=wb .eql 3 a (.W9 9) λf=>wk f (b [d,e,a,f] c) (wb .eql 3 a (.W9 10) λg=>wk g (b [d,e,a,g] c) (wb .eql 3 a (.W9 11) λh=>b [d,e,a,h] c))
def wQ(Q:R)(b:SH)(a c d:AV):Prop:=W.join (wO Q) λe=>wb .eql 3 a (.W9 8) λf=>wk f (e [c,d,a,f] b) ((wP e b a c d))
def wR(Q:R)(d:Vs)(a:SH):Prop:=yO 2 3 7 26 d λb c e f=>wk f (aC 1 c a λg=>W.len g λh=>wc (.fn 110 []) [b,h] a (wF Q c b)) ((wQ Q a e b c))
def wS(Q:R)(b:SH)(a c d:AV):Prop:=W.join (wR Q) λe=>wb .eql 3 a (.W9 6) λf=>wk f (e [c,d,a,f] b) (wb .eql 3 a (.W9 7) λg=>e [c,d,a,g] b)
def wT(Q:R)(d:Vs)(a:SH):Prop:=yO 2 3 7 18 d λb c e f=>wk f (aC 0 c a λg=>W.len g λh=>wc (.fn 110 []) [b,h] a λi j=>Q i j) ((wS Q a e b c))
def wU(Q:R)(b:SH)(a c d:AV):Prop:=W.join (wT Q) λe=>wb .eql 3 a (.W9 3) λf=>wk f (e [c,d,a,f] b) (wb .eql 3 a (.W9 4) λg=>e [c,d,a,g] b)
def wV(Q:R)(c:Vs)(a:SH):Prop:=yO 2 3 7 8 c λb d e f=>wk f (wb .eql 3 b (.W9 (-1)) λg=>Q g a) ((wU Q a e b d))
def wW(b:Kn)(c:SH)(a d e:AV):Prop:=wb .eql 3 a (.W9 13) λf=>wk f (b [d,e,a,f] c) (wb .eql 3 a (.W9 14) λg=>wk g (b [d,e,a,g] c) (wb .eql 3 a (.W9 15) λh=>b [d,e,a,h] c))
def wX(b:Kn)(c:SH)(a d e:AV):Prop:=wb .eql 3 a (.W9 5) λf=>wk f (b [d,e,a,f] c) (wb .eql 3 a (.W9 12) λg=>wk g (b [d,e,a,g] c) ((wW b c a d e)))
def lR(h a b:AV)(L:SH)(Q:R):Prop:=sf h L λc d=>W.join (wV Q) λe=>wb .eql 3 a (.W9 1) λf=>wk f (e [b,c,a,f] d) (wb .eql 3 a (.W9 2) λg=>wk g (e [b,c,a,g] d) ((wX e d a b c)))
theorem wY(t0 t1 t2:AV)(L:SH)(Q:R)(h:lR t0 t1 t2 L Q):ai Tryz.prog 111 [t0,t1,t2] L Q:=
 fs [(8,[2,3,7,8]),(11,[2,3,7,18]),(14,[2,3,7,26]),(19,[2,3,7,43]),(24,[2,3,7,61]),(27,[2,3,7,71]),(30,[2,3,79])] [] [(0,[3])] [] Tryz.func111 h
def By(Q:R)(b:SH)(c d:AV):Prop:=aC 0 d b λh=>eE 2 0 h c b λi=>wb .eql 3 i (.W9 (-1)) λa=>wg a true (W.faddr 0 d) b λj e=>wg a true (wl j e) e λk l=>bH a true c l λm f=>wg a true (W.idx 2 k m f) f λn o=>wg a true (W.faddr 1 n) o λp g=>wg a true (wl p g) g λq r=>wg a true (W.len q) r λs t=>wg a true (wb .eql 3 s (.W9 0)) t λu v=>W.pick a u (.bool false) λw=>Q w v
def Bz(Q:R)(b:SH)(c i d:AV):Prop:=aC 0 d b λj=>eE 2 0 j c b λk=>wb .eql 3 k (.W9 (-1)) λa=>wg a true (W.faddr 0 d) b λl e=>wg a true (wl l e) e λm n=>bH a true c n λo f=>wg a true (W.idx 2 m o f) f λp q=>wg a true (W.faddr 1 p) q λr g=>wg a true (wl r g) g λs t=>bH a true i t λu h=>W.grd a true (λv=>wc (.fn 128 []) [s,u] h λw x=>v w x) h λy z=>wg a true (W.un .not y) z λA B=>W.pick a A (.bool false) λC=>Q C B
def BA(Q:R)(a:SH)(c d e f:AV):Prop:=(true=true)∧(aO 0 c [] 1 a λg b=>aO 2 d [rm 1 b] 3 a λh n=>di [rm 1 b] 5 2 h e a λi o=>aO 1 i [rm 1 b] 7 a λj p=>di [] 8 2 g j a λk q=>aO 0 k [] 10 a λl r=>wb .eql 3 l f λm=>Q m a)
def BB(Q:R)(f:SH)(b g h:AV):Prop:=wb .neq 3 b g λa=>wg a true (W.faddr 3 h) f λi c=>wg a true (wl i c) c λj k=>bH a true b k λl d=>wg a true (W.idx 3 j l d) d λm n=>wg a true (W.faddr 0 m) n λo e=>wg a true (wl o e) e λp q=>wg a true (wb .eql 3 p (.W9 0)) q λr s=>W.pick a r (.bool false) λt=>Q t s
def BC(Q:R)(f:SH)(b g h:AV):Prop:=wb .neq 3 b g λa=>wg a true (W.faddr 3 h) f λi c=>wg a true (wl i c) c λj k=>bH a true b k λl d=>wg a true (W.idx 3 j l d) d λm n=>wg a true (W.faddr 0 m) n λo e=>wg a true (wl o e) e λp q=>wg a true (wb .eql 3 p (.W9 5)) q λr s=>W.pick a r (.bool false) λt=>Q t s
def BD(Q:R)(a:SH)(b c d:AV):Prop:=wb .eql 3 b (.W9 22) λe=>wk e (aC 2 c a λf=>wx 1 f d a λg=>W.un .not g λh=>Q h a) (wb .eql 3 b (.W9 23) λi=>wk i (aC 2 c a λj=>wx 1 j d a λk=>Q k a) (Q (.bool true) a))
def BE(Q:R)(a:SH)(b c e d:AV):Prop:=wb .eql 3 b (.W9 20) λf=>wk f ((BB Q a c e d)) (wb .eql 3 b (.W9 21) λg=>wk g ((BC Q a c e d)) ((BD Q a b d c)))
def BF(Q:R)(e:Vs)(a:SH):Prop:=Hf 2 4 5 6 11 109 e λb c f d g h=>wk h ((BA Q a d f c b)) ((BE Q a g c b d))
def BG(b:Kn)(c:SH)(a d e f g:AV):Prop:=wb .eql 3 a (.W9 18) λh=>wk h (b [d,e,f,g,a,h] c) (wb .eql 3 a (.W9 19) λi=>b [d,e,f,g,a,i] c)
def BH(Q:R)(b:SH)(a c d e f:AV):Prop:=W.join (BF Q) λg=>wb .eql 3 a (.W9 16) λh=>wk h (g [c,d,e,f,a,h] b) ((BG g b a c d e f))
def BI(Q:R)(a:SH)(b c d e f:AV):Prop:=wb .eql 3 b (.W9 15) λg=>wk g (aC 3 c a λh=>eE 3 2 h d a λi=>Q i a) ((BH Q a b d e f c))
def zq(Q:R)(a:SH)(b c d e f:AV):Prop:=wb .eql 3 b (.W9 14) λg=>wk g (aC 3 c a λh=>eE 3 2 h d a λi=>W.un .not i λj=>Q j a) ((BI Q a b c d e f))
def zr(Q:R)(a:SH)(b c d e f:AV):Prop:=wb .eql 3 b (.W9 13) λg=>wk g (aC 1 c a λh=>wb .eql 3 h d λi=>Q i a) ((zq Q a b c d e f))
def zt(Q:R)(a:SH)(b c d e f:AV):Prop:=wb .eql 3 b (.W9 12) λg=>wk g (aC 1 c a λh=>wb .eql 3 h (.W9 (-1)) λi=>Q i a) ((zr Q a b c d e f))
def zu(Q:R)(a:SH)(b c d e f:AV):Prop:=wb .eql 3 b (.W9 9) λg=>wk g (aC 0 c a λh=>eE 2 1 h d a λi=>wc (.fn 128 []) [i,e] a λj k=>Q j k) ((zt Q a b c e d f))
def BJ(Q:R)(e:Vs)(a:SH):Prop:=Hf 2 4 5 6 11 60 e λb c f d g h=>wk h (aC 0 d a λi=>eE 2 0 i c a λj=>wb .eql 3 j b λk=>Q k a) ((zu Q a g d c b f))
def zw(Q:R)(b:SH)(a c d e f:AV):Prop:=W.join (BJ Q) λg=>wb .eql 3 a (.W9 7) λh=>wk h (g [c,d,e,f,a,h] b) (wb .eql 3 a (.W9 11) λi=>g [c,d,e,f,a,i] b)
def zx(Q:R)(a:SH)(b c e d f:AV):Prop:=wb .eql 3 b (.W9 10) λg=>wk g ((By Q a c d)) (wb .eql 3 b (.W9 8) λh=>wk h ((Bz Q a c e d)) ((zw Q a b e c f d)))
def bN(e f g b c:AV)(L:SH)(Q:R):Prop:=W.box e L λh i=>W.box f i λj k=>W.frz1 h k λl m=>W.frz1 j m λd a=>wb .eql 3 b (.W9 6) λn=>wk n (aC 0 d a λo=>eE 2 0 o c a λp=>wb .eql 3 p (.W9 (-1)) λq=>Q q a) ((zx Q a b c g d l))
theorem BK(t0 t1 t2 t3 t4:AV)(L:SH)(Q:R)(h:bN t0 t1 t2 t3 t4 L Q):ai Tryz.prog 112 [t0,t1,t2,t3,t4] L Q:=
 fs [(9,[2,4,5,6,11,60]),(23,[2,4,5,6,11,109])] [] [(0,[5,6])] [(24,[0,1,0,4,0,28,60,124,255,511,1023,0,4095,8191])] Tryz.func112 h
def po(e f:AV)(L:SH)(Q:R):Prop:=sf e L λb c=>aC 0 b c λg=>wb .eql 3 g (.W9 3) λa=>wg a true (W.faddr 1 b) c λh d=>wg a true (wl h d) d λi j=>bH a true f j λk l=>wg a true (wb .eql 3 i k) l λm n=>W.pick a m (.bool false) λo=>Q o n
theorem BL(t0 t1:AV)(L:SH)(Q:R)(h:po t0 t1 L Q):ai Tryz.prog 118 [t0,t1] L Q:=
 fs [] [] [(0,[2])] [] Tryz.func118 h
def nw(d:Kn)(e:SH)(f a b g h i j k:AV)(c:SH)(l:Ns):Prop:=wn [] l [] e.names λq=>W.build [(.W9 0),.nils] [(0,1,f),(1,1,k)] λm=>di [] 8 2 a b c λn r=>ds [] 9 2 n m c λo s=>wb .add 3 b (.W9 1) λp=>d [g,h,a,i,j,p] o
def BM(g:Kn)(b:SH)(c d h i j k:AV):Prop:=lE 2 c d b λl=>qn [(.W9 0),.nils] 2 l b λe a=>(true=true)∧(aO 0 e [] 3 a λm f=>aO 1 e [rm 3 f] 5 a λn o=>wd [rm 3 f] 6 (.fn 93 []) [n] a (nw g a m h d i j c k))
def il(Q:R)(a b e:AV)(f:SH):Prop:=W.faddr 3 a λg=>W.store 1 g e f λc=>ca 4 a c λh=>W.store 4 b h c λd=>W.load true 4 b d λi=>Q i d
def im(Q:R)(a c d:AV)(e:SH):Prop:=W.faddr 2 a λf=>W.store 1 f d e λb=>aC 3 a b λg=>wc (.fn 114 []) [g] b (il Q a c)
def io(Q:R)(h:Vs)(b:SH)(i:Kn):Prop:=Hf 1 2 3 11 12 13 h λa c d j e f=>wb .lss 3 f e λk=>wk k ((BM i b j f d a c e)) (W.faddr 0 a λl=>W.store 1 l d b λg=>aC 2 a g λm=>wc (.fn 113 []) [m] g (im Q a c))
def pp(f:AV)(L:SH)(Q:R):Prop:=W.box f L λa g=>W.alloc [.nils,(.W9 0),.nils,.nils] g λh b=>aC 0 a b λi=>W.len i λc=>W.mslice 2 32 [(.W9 0),.nils] c c b λj d=>aC 0 a d λe=>W.len e λk=>W.loop (io Q) [a,h,j,e,k,(.W9 0)] d
theorem BN(t0:AV)(L:SH)(Q:R)(h:pp t0 L Q):ai Tryz.prog 85 [t0] L Q:=
 fs [] [(3,[1,2,3,11,12,13])] [(4,[5])] [(5,[0,0,0,4,0,16,48,124,255,511])] Tryz.func85 h
def zy(e:Kn)(f b d g h i j a:AV)(l:SH):Prop:=bH a true f l λm n=>wg a true (wb .lss 3 m (.W9 0)) n λo p=>bH a true o p λc q=>bH c false b q λr s=>bH c false d s λt u=>wg c false (wb .eql 3 r t) u λv w=>wg a true (W.pick c (.bool true) v) w λx k=>W.pick a x (.bool false) λy=>wk y (wb .add 3 b (.W9 1) λz=>e [g,d,h,b,i,j,z] k) (wb .add 3 b (.W9 1) λA=>e [g,d,h,f,i,j,A] k)
def zz(f:Kn)(a:SH)(b c d g h i j:AV):Prop:=lE 3 b c a λk=>qn [(.W9 0),(.W9 0),(.bool false)] 3 k a λl e=>ca 3 l e λm=>wc (.fn 118 []) [m,d] e (zy f g c h d i b j)
def zA(Q:R)(a:SH)(b c:AV):Prop:=wb .geq 3 b (.W9 0) λd=>wk d (aC 3 c a λe=>W.idx 3 e b a λf=>W.faddr 0 f λg=>W.store 1 g (.W9 4) a λh=>Q b h) (Q b a)
def lS(Q:R)(f:Vs)(a:SH)(g:Kn):Prop:=Mw 1 2 3 7 11 12 13 f λh i b c j d e=>wb .lss 3 e d λk=>wk k ((zz g a j e h c i b d)) ((zA Q a c b))
def nz(d e f:AV)(L:SH)(Q:R):Prop:=sf d L λa b=>aC 3 a b λc=>W.len c λg=>W.loop (lS Q) [e,f,a,(.W9 (-1)),c,g,(.W9 0)] b
theorem zB(t0 t1 t2:AV)(L:SH)(Q:R)(h:nz t0 t1 t2 L Q):ai Tryz.prog 90 [t0,t1,t2] L Q:=
 fs [] [(3,[1,2,3,7,11,12,13])] [(0,[3]),(4,[9])] [] Tryz.func90 h
def qv(d:Kn)(a:SH)(b c e f g h:AV):Prop:=aC 3 b a λi=>W.idx 3 i c a λj=>W.faddr 0 j λk=>W.store 1 k (.W9 4) a λl=>wb .add 3 e (.W9 1) λm=>wb .add 3 c (.W9 1) λn=>d [f,b,m,g,h,n] l
def qw(a:Kn)(b c d e f g i:AV)(h:SH):Prop:=wk i ((qv a h b c d e f g)) (wb .add 3 c (.W9 1) λj=>a [e,b,d,f,g,j] h)
def qx(f:Kn)(a:SH)(b c d g h i:AV):Prop:=lE 3 b c a λj=>qn [(.W9 0),(.W9 0),(.bool false)] 3 j a λk e=>ca 3 k e λl=>wc (.fn 118 []) [l,d] e (qw f g c h d b i)
def iC(Q:R)(e:Vs)(a:SH)(f:Kn):Prop:=Hf 1 2 5 9 10 11 e λg h b i c d=>wb .lss 3 d c λj=>wk j ((qx f a i d g h b c)) (Q b a)
def jg(d e:AV)(L:SH)(Q:R):Prop:=sf d L λa b=>aC 3 a b λc=>W.len c λf=>W.loop (iC Q) [e,a,(.W9 0),c,f,(.W9 0)] b
theorem qy(t0 t1:AV)(L:SH)(Q:R)(h:jg t0 t1 L Q):ai Tryz.prog 91 [t0,t1] L Q:=
 fs [] [(3,[1,2,5,9,10,11])] [(0,[2]),(4,[7])] [] Tryz.func91 h
def nA(b c:AV)(L:SH)(Q:R):Prop:=wb .geq 3 b (.W9 0) λa=>bH a true b L λd e=>bH a true c e λf g=>wg a true (wb .lss 3 d f) g λh i=>W.pick a h (.bool false) λj=>Q j i
theorem zC(t0 t1:AV)(L:SH)(Q:R)(h:nA t0 t1 L Q):ai Tryz.prog 110 [t0,t1] L Q:=
 fs [] [] [] [] Tryz.func110 h
def dU(a b:AV)(L:SH)(Q:R):Prop:=wc (.fn 141 []) [a,b] L λc d=>wb .geq 3 c (.W9 0) λe=>Q e d
theorem hD(t0 t1:AV)(L:SH)(Q:R)(h:dU t0 t1 L Q):ai Tryz.prog 128 [t0,t1] L Q:=
 fs [] [] [] [] Tryz.func128 h
def eF(Q:R)(f:Vs)(a:SH)(g:Kn):Prop:=yO 0 1 7 8 f λc d e b=>wb .lss 3 b e λh=>wk h (wx 1 c b a λi=>wb .eql 3 d i λj=>wk j (Q b a) (wb .add 3 b (.W9 1) λk=>g [c,d,e,k] a)) (Q (.W9 (-1)) a)
def eV(a b:AV)(L:SH)(Q:R):Prop:=W.len a λc=>W.loop (eF Q) [a,b,c,(.W9 0)] L
theorem jh(t0 t1:AV)(L:SH)(Q:R)(h:eV t0 t1 L Q):ai Tryz.prog 141 [t0,t1] L Q:=
 fs [] [(2,[0,1,7,8])] [] [] Tryz.func141 h
def gJ(Q:R)(c:Kn)(a d e f g:AV)(b:SH):Prop:=wk g (Q a b) (wb .add 3 a (.W9 1) λh=>c [d,e,f,h] b)
def dF(Q:R)(f:Vs)(a:SH)(g:Kn):Prop:=yO 0 1 7 8 f λc d e b=>wb .lss 3 b e λh=>wk h (wx 1 c b a λi=>wc d [i] a (gJ Q g b c d e)) (Q (.W9 (-1)) a)
def dL(a b:AV)(L:SH)(Q:R):Prop:=W.len a λc=>W.loop (dF Q) [a,b,c,(.W9 0)] L
theorem gK(t0 t1:AV)(L:SH)(Q:R)(h:dL t0 t1 L Q):ai Tryz.prog 117 [t0,t1] L Q:=
 fs [] [(2,[0,1,7,8])] [] [] Tryz.func117 h
def gp(d:Kn)(a:SH)(b c e f g:AV):Prop:=W.idx 1 b c a λh=>W.store 1 h e a λi=>wb .add 3 c (.W9 1) λj=>wb .add 3 f (.W9 1) λk=>d [b,g,j,k] i
def gq(a:Kn)(b c g d e h:AV)(f:SH):Prop:=W.un .not h λi=>wk i ((gp a f b c g d e)) (wb .add 3 d (.W9 1) λj=>a [b,e,c,j] f)
def du(Q:R)(h:Vs)(b:SH)(i:Kn):Prop:=yO 0 1 5 6 h λa e c d=>W.len a λj=>wb .lss 3 d j λk=>wk k (wx 1 a d b λf=>wc e [f] b (gq i a c f d e)) (W.slice 1 a (some c) none none b λl=>W.clear 1 [(.W9 0)] l b λg=>W.slice 1 a none (some c) none g λm=>Q m g)
def dw(Q:R)(b d a:AV)(c:SH):Prop:=wb .eql 3 a (.W9 (-1)) λe=>wk e (Q b c) (wb .add 3 a (.W9 1) λf=>W.loop (du Q) [b,d,a,f] c)
def dG(a b:AV)(L:SH)(Q:R):Prop:=wc (.fn 117 []) [a,b] L (dw Q a b)
theorem gr(t0 t1:AV)(L:SH)(Q:R)(h:dG t0 t1 L Q):ai Tryz.prog 88 [t0,t1] L Q:=
 fs [] [(5,[0,1,5,6])] [] [] Tryz.func88 h
def lT(a b:AV)(L:SH)(Q:R):Prop:=wl b L λc=>wb .eql 3 a c λd=>Q d L
theorem wZ(t0 t1:AV)(L:SH)(Q:R)(h:lT t0 t1 L Q):ai Tryz.prog 89 [t0,t1] L Q:=
 fs [] [] [] [] Tryz.func89 h
end
structure bn where
 op:Int
 a:Int
 b:Int
 c:Int
 n:Int
 site:Int
 deriving Inhabited
def bn.enc(i:bn):List AV:=[.W9 i.op,.W9 i.a,.W9 i.b,.W9 i.c,.W9 i.n,.W9 i.site]
structure iD where
 regs:Int
 ins:List bn
def iD.enc(c:iD):List AV:=[.W9 c.regs,.lst (c.ins.map bn.enc)]
def kV(b:Bool):Int:=if b then 1 else 0
def OZ(op a:Int):Int×Bool:=if op=4 then(IntKind.i64.wrap (0-a),true)else if op=5 then(kV (decide (a=0)),true)else(0,false)
def Dd(op a b:Int):Int×Bool:=
 if op=6 then(IntKind.i64.wrap (a+b),true)else
 if op=7 then(IntKind.i64.wrap (a-b),true)else
 if op=8 then(IntKind.i64.wrap (a*b),true)else
 if op=9 then(if b=0 then 0 else IntKind.i64.wrap (a.tdiv b),true)else
 if op=10 then(if b=0 then 0 else a.tmod b,true)else
 if op=11 then(kV (decide (a=b)),true)else
 if op=12 then(kV (decide (a≠b)),true)else
 if op=13 then(kV (decide (a<b)),true)else
 if op=14 then(kV (decide (a≤b)),true)else
 if op=15 then(kV (decide (b<a)),true)else
 if op=16 then(kV (decide (b≤a)),true)else
 if op=17 then(kV (decide (a≠0)&&decide (b≠0)),true)else
 if op=18 then(kV (decide (a≠0)||decide (b≠0)),true)else(0,false)
theorem TQ{o:Nat}{x:AV}{L:SH}{K:AV→Prop}(h:aC o x L K):aC o x L K:=h
theorem RF{o:Nat}{x:AV}{L:SH}{K:AV→Prop}(h:dP o x L K):dP o x L K:=h
theorem U6{x:AV}{L:SH}{K:AV→Prop}(h:wl x L K):wl x L K:=h
theorem TR{n:Nat}{x i:AV}{L:SH}{K:AV→Prop}(h:wx n x i L K):wx n x i L K:=h
theorem TS{n:Nat}{x i:AV}{L:SH}{K:AV→Prop}(h:lE n x i L K):lE n x i L K:=h
theorem RG{n o:Nat}{x i:AV}{L:SH}{K:AV→Prop}(h:eE n o x i L K):eE n o x i L K:=h
theorem U7{us:List W.WR}{i:Nat}{x:AV}{L:SH}{K:AV→Fp→Prop}(h:dl us i x L K):dl us i x L K:=h
theorem TT{o:Nat}{x:AV}{us:List W.WR}{i:Nat}{L:SH}{K:AV→Fp→Prop}(h:aO o x us i L K):aO o x us i L K:=h
theorem U8{us:List W.WR}{i n:Nat}{x:AV}{L:SH}{K:AV→Fp→Prop}(h:dr us i n x L K):dr us i n x L K:=h
theorem Va{us:List W.WR}{i n:Nat}{x ix:AV}{L:SH}{K:AV→Fp→Prop}(h:di us i n x ix L K):di us i n x ix L K:=h
theorem st{P Q:Prop}(k:Q)(h:Q→P:=by
 intro k
 first
 |(refine TQ ?_;first|exact QI k|exact QJ k|exact Nl k)
 |(refine mN ?_;first|exact Qw k|exact MV k|exact Qx k|exact Qv k|exact Qu k|exact Qt k|exact sQ k|exact MW k|exact je k|exact MX k|exact Qy k|exact Qz k|exact QA k|exact QK k|exact QL k|exact QD k|exact QE k)
 |(refine Rq ?_;first|exact H4 k|exact H5 k)
 |(refine TG ?_;first|exact Gq k|exact Gr k|exact Gf k)
 |(refine U6 ?_;first|exact Pu k|exact TL k|exact Rp k)
 |(refine QG ?_;first|exact Gq k|exact Gr k|exact Gf k)
 |(refine Rm ?_;first|exact Nc k|exact Nd k)
 |(refine RF ?_;first|exact wnfl_q k|exact Rs k|exact Nm k)
 |(refine Tz ?_;first|exact Pg k|exact Pf k|exact Gj k|exact a_len_n k|exact Gm k)
 |(refine RG ?_;first|exact Rt k|exact Nn k)
 |(refine TS ?_;first|exact TN k|exact QF k)
 |(refine TR ?_;first|exact TM k|exact FB k)
 |(refine Pn ?_;first|exact yZ k|exact yY k)
 |(refine Nk ?_;first|exact Cq k|exact b_row_i k|exact KR k|exact H8 k|exact H9 k)
 |(refine TT ?_;first|exact TP k|exact QH k)
 |(refine U7 ?_;first|exact TO k|exact TH k)
 |(refine U8 ?_;first|exact U0 k|exact TJ k)
 |(refine Va ?_;first|exact U1 k|exact Rr k)
 |(refine QC ?_;first|exact Gq k|exact Gr k|exact Gf k)
 |(refine M7 ?_;first|exact Nf k|exact Ng k|exact MQ k)
 |(refine Pm ?_;first|exact HZ k|exact Nb k|exact H3 k)
 |(refine Ty ?_;first|exact wv k|exact Pp k|exact Pq k|exact dE k|exact Pr k)
 |(refine Tx ?_;first|exact Cq k|exact b_row_i k|exact KR k|exact H8 k|exact H9 k)
 |(refine TA ?_;exact TD k)
 |(refine Rk ?_;exact Gt k)
 |exact UZ (sO k)
 |(refine Rl ?_;exact sO k)
 |(refine Na ?_;first|exact KE k|exact a_nil_q k|exact a_nil_f k)
 |(refine UX ?_;first|exact Tt k|exact Tu k)
 |(refine Rn ?_;first|exact Ps k|exact b_frz_s k)
 |(refine Po ?_;first|exact H6 k|exact AU k|exact H7 k)
 |(refine Ro ?_;first|exact b_idxP_p k|exact Nh k)
 |(refine h_bin ?_;first|exact Qw k|exact MV k|exact Qx k|exact Qv k|exact Qu k|exact Qt k|exact sQ k|exact MW k|exact je k|exact MX k|exact Qy k|exact Qz k|exact QA k|exact QK k|exact QL k|exact QD k|exact QE k)
 |(refine h_cond ?_;first|exact H4 k|exact H5 k)
 |exact Ru k
 |exact Gs k
 |exact ph (Jx k)
 |exact UY (KP k)
 |exact TK k
 |exact UW k
 |exact Ri k
 |exact Pt k
 |(first|exact Rv k|exact Rw k|exact Rx k|exact Ry k|exact Rz k|exact Jy k|exact RA k|exact RC k|exact RD k|exact Px k|exact Py k|exact wo12_ok k|exact wo13_ok k|exact wo14_ok k|exact wo15_ok k|exact wo16_ok k)
 |exact Rg k
 |exact a_convS k
 |exact b_fld k
 |exact Rh k
 |exact Jx k
 |exact KP k
 |fail):P:=h k
theorem sb{P:Prop}{Q:Nat→Prop}{N:Nat→Prop}(k:∀b,N b→Q b)(h:(∀b,N b→Q b)→P:=by
 intro k
 first
 |(refine TC ?_;exact TF k)
 |(refine M9 ?_;exact Ni k)
 |(refine M8 ?_;exact Nj k)
 |(exact KG k)
 |fail):P:=h k
theorem s2{P Q1 Q2 A1 A2:Prop}(k1:A1→Q1)(k2:A2→Q2)(h:(A1→Q1)→(A2→Q2)→P:=by
 intro k1 k2
 first
 |(refine Rq ?_;exact MU k1 k2)
 |(refine TG ?_;first|exact Gg k1 k2|exact Gh k1 k2)
 |(refine QG ?_;first|exact Gg k1 k2|exact Gh k1 k2)
 |(refine QC ?_;first|exact Gg k1 k2|exact Gh k1 k2)
 |(refine M7 ?_;first|exact MR k1 k2|exact MS k1 k2)
 |(refine h_cond ?_;exact MU k1 k2)
 |fail):P:=h k1 k2
theorem mm{α:Type}{a:α}{l:List α}(h:a∈l:=by first|exact .head _|exact .tail _ (.head _)|exact .tail _ (.tail _ (.head _))|exact .tail _ (.tail _ (.tail _ (.head _)))|exact .tail _ (.tail _ (.tail _ (.tail _ (.head _))))|exact .tail _ (.tail _ (.tail _ (.tail _ (.tail _ (.head _)))))|exact .tail _ (.tail _ (.tail _ (.tail _ (.tail _ (.tail _ (.head _))))))|exact .tail _ (.tail _ (.tail _ (.tail _ (.tail _ (.tail _ (.tail _ (.head _)))))))|exact .tail _ (.tail _ (.tail _ (.tail _ (.tail _ (.tail _ (.tail _ (.tail _ (.head _))))))))|exact .tail _ (.tail _ (.tail _ (.tail _ (.tail _ (.tail _ (.tail _ (.tail _ (.tail _ (.head _)))))))))|exact .tail _ (.tail _ (.tail _ (.tail _ (.tail _ (.tail _ (.tail _ (.tail _ (.tail _ (.tail _ (.head _))))))))))|exact .tail _ (.tail _ (.tail _ (.tail _ (.tail _ (.tail _ (.tail _ (.tail _ (.tail _ (.tail _ (.tail _ (.head _)))))))))))|exact .tail _ (.tail _ (.tail _ (.tail _ (.tail _ (.tail _ (.tail _ (.tail _ (.tail _ (.tail _ (.tail _ (.tail _ (.head _))))))))))))):a∈l:=h
theorem rp{P:Prop}(h:P:=by repeat constructor):P:=h
inductive au where
 |mk (op n:Int) (name:bj) (l:List au)
def au.op:au→Int|.mk a _ _ _=>a
def au.n:au→Int|.mk _ a _ _=>a
def au.name:au→bj|.mk _ _ a _=>a
def au.l:au→List au|.mk _ _ _ a=>a
mutual
def au.enc:au→List AV
 |.mk op n name l=>[.int .i64 op,.int .i64 n,.str name,.lst (au.encs l)]
def au.encs:List au→List (List AV)
 |[]=>[]
 |x::l=>x.enc::au.encs l
end
theorem au.encs_eq:∀l:List au,au.encs l=l.map au.enc
 |[]=>rfl
 |x::l=>by rw[au.encs,au.encs_eq l];rfl
def au.row(x:au):List AV:=[.W9 x.op,.W9 x.n,.str x.name,.lst (x.l.map au.enc)]
theorem au.enc_row(x:au):x.enc=x.row:=by cases x;rw[au.enc,au.encs_eq];rfl
theorem De{l:List au}{i:Nat}(h:i<l.length):(l.map au.enc)[i]? =some [.W9 l[i].op,.W9 l[i].n,.str l[i].name,.lst (l[i].l.map au.enc)]:=by rw[az h,au.enc_row];rfl
def z0(op:Int):Nat:=if op=0 then 2^50 else 0
def z3(op:Int):Nat:=if op=3 then 2^50 else 0
def Df(op:Int)(name:bj)(n:Nat):Nat:=(if n=0 then(if op=0∨op=1∨op=2 then 0 else 2^50)else 0)+(if name=[113]then 0 else z3 op)
mutual
def au.wt:au→Nat
 |.mk op _ name l=>1+name.length+Df op name l.length+au.wts l
def au.wts:List au→Nat
 |[]=>0
 |x::l=>x.wt+z0 x.op+au.wts l
end
theorem au.wt_eq(x:au):x.wt=1+x.name.length+Df x.op x.name x.l.length+au.wts x.l:=by cases x;rfl
theorem au.wts_get0:∀(l:List au) (i:Nat) (h:i<l.length),l[i].wt+z0 l[i].op≤au.wts l
 |x::l,0,_=>by simp[au.wts]
 |x::l,i+1,h=>by have:=au.wts_get0 l i (by simpa using h);simp only[List.getElem_cons_succ,au.wts];omega
theorem au.wts_get(l:List au)(i:Nat)(h:i<l.length):l[i].wt≤au.wts l:=by have:=au.wts_get0 l i h;omega
theorem au.wts_len:∀l:List au,l.length≤au.wts l
 |[]=>Vo _
 |x::l=>by have:=au.wts_len l;have:=x.wt_eq;simp only[VL,au.wts];omega
theorem au.kid(x:au){i:Nat}(h:i<x.l.length):x.l[i].wt<x.wt:=by have:=au.wts_get x.l i h;have:=x.wt_eq;omega
theorem au.len(x:au):x.l.length<x.wt:=by have:=au.wts_len x.l;have:=x.wt_eq;omega
inductive ab where
 |mk (op line:Int) (name arg:bj) (index:List au) (expr:au) (body els:List ab)
def ab.op:ab→Int|.mk a _ _ _ _ _ _ _=>a
def ab.line:ab→Int|.mk _ a _ _ _ _ _ _=>a
def ab.name:ab→bj|.mk _ _ a _ _ _ _ _=>a
def ab.arg:ab→bj|.mk _ _ _ a _ _ _ _=>a
def ab.index:ab→List au|.mk _ _ _ _ a _ _ _=>a
def ab.expr:ab→au|.mk _ _ _ _ _ a _ _=>a
def ab.body:ab→List ab|.mk _ _ _ _ _ _ a _=>a
def ab.els:ab→List ab|.mk _ _ _ _ _ _ _ a=>a
mutual
def ab.enc:ab→List AV
 |.mk op line name arg index e body els=>[.int .i64 op,.int .i64 line,.str name,.str arg,.lst (index.map au.enc),.int .i64 e.op,.int .i64 e.n,.str e.name,.lst (e.l.map au.enc),.lst (ab.encs body),.lst (ab.encs els)]
def ab.encs:List ab→List (List AV)
 |[]=>[]
 |x::l=>x.enc::ab.encs l
end
theorem ab.encs_eq:∀l:List ab,ab.encs l=l.map ab.enc
 |[]=>rfl
 |x::l=>by rw[ab.encs,ab.encs_eq l];rfl
def ab.row(x:ab):List AV:=[.W9 x.op,.W9 x.line,.str x.name,.str x.arg,.lst (x.index.map au.enc),.W9 x.expr.op,.W9 x.expr.n,.str x.expr.name,.lst (x.expr.l.map au.enc),.lst (x.body.map ab.enc),.lst (x.els.map ab.enc)]
theorem ab.enc_row(x:ab):x.enc=x.row:=by cases x;rw[ab.enc,ab.encs_eq,ab.encs_eq];rfl
theorem FE{l:List ab}{i:Nat}(h:i<l.length):(l.map ab.enc)[i]? =some [.W9 l[i].op,.W9 l[i].line,.str l[i].name,.str l[i].arg,.lst (l[i].index.map au.enc),.W9 l[i].expr.op,.W9 l[i].expr.n,.str l[i].expr.name,.lst (l[i].expr.l.map au.enc),.lst (l[i].body.map ab.enc),.lst (l[i].els.map ab.enc)]:=by rw[az h,ab.enc_row];rfl
def zv(op eop:Int):Nat:=if op=1∨op=2∨op=3∨op=14 then z0 eop else 0
def zi(name:bj)(n:Nat):Nat:=if n=0∨name=[113]then 0 else 2^50
mutual
def ab.wt:ab→Nat
 |.mk op _ name arg index e body els=>1+name.length+arg.length+au.wts index+e.wt+zv op e.op+zi name index.length+ab.wts body+ab.wts els
def ab.wts:List ab→Nat
 |[]=>0
 |x::l=>x.wt+ab.wts l
end
theorem ab.wt_eq(x:ab):x.wt=1+x.name.length+x.arg.length+au.wts x.index+x.expr.wt+zv x.op x.expr.op+zi x.name x.index.length+ab.wts x.body+ab.wts x.els:=by cases x;rfl
theorem ab.wts_get:∀(l:List ab) (i:Nat) (h:i<l.length),l[i].wt≤ab.wts l
 |x::l,0,_=>by simp[ab.wts]
 |x::l,i+1,h=>by have:=ab.wts_get l i (by simpa using h);simp only[List.getElem_cons_succ,ab.wts];omega
theorem ab.wts_len:∀l:List ab,l.length≤ab.wts l
 |[]=>Vo _
 |x::l=>by have:=ab.wts_len l;have:=x.wt_eq;simp only[VL,ab.wts];omega
structure aH where
 kind:Int
 line:Int
 name:bj
 size:Int
 init:Int
 on:bj
 deriving Inhabited
def aH.enc(d:aH):List AV:=[.W9 d.kind,.W9 d.line,.str d.name,.W9 d.size,.W9 d.init,.str d.on]
structure aj where
 name:bj
 line:Int
 locals:List bj
 body:List ab
def aj.enc(t:aj):List AV:=[.str t.name,.W9 t.line,.lst (t.locals.map aw),.lst (t.body.map ab.enc)]
structure bO where
 decls:List aH
 threads:List aj
def bO.enc(p:bO):List AV:=[.lst (p.decls.map aH.enc),.lst (p.threads.map aj.enc)]
def aH.wt(d:aH):Nat:=1+d.name.length+d.on.length
def aj.wt(t:aj):Nat:=1+t.name.length+t.locals.length+(t.locals.map List.length).sum+ab.wts t.body
def bO.wt(p:bO):Nat:=(p.decls.map aH.wt).sum+(p.threads.map aj.wt).sum
theorem Cr{α:Type}{f:α→Nat}:∀(l:List α) (i:Nat) (h:i<l.length),f l[i]≤(l.map f).sum
 |x::l,0,_=>by simp
 |x::l,i+1,h=>by have:=Cr (f:=f) l i (by simpa using h);simp only[List.getElem_cons_succ,Vp,Wm];omega
theorem Gu{α:Type}{f:α→Nat}(hf:∀x,1≤f x):∀l:List α,l.length≤(l.map f).sum
 |[]=>Vo _
 |x::l=>by have:=Gu hf l;have:=hf x;simp only[VL,Vp,Wm];omega
theorem Ic{α:Type}{p:α→Prop}{l:List α}{i:Nat}(h:i<l.length)(h1:∀x∈l.take i,p x)(h2:p l[i]):∀x∈l.take (i+1),p x:=by
 rw[Vw h];intro x hx;rcases VC.1 hx with hx|hx
 ·exact h1 x hx
 ·simp at hx;subst hx;exact h2
theorem TU(n:Nat)(G:Nat→Prop)(S:Nat→List AV×SH){B:List AV→SH→W.Kn→Prop}{vs:List AV}{L:SH}(hl:n<2^62)(h0:G 0)(hv:vs=(S 0).1)(hL:L=(S 0).2)
  (h1:∀i,i<n→decide ((i:Int)<(n:Int))=true→IntKind.i64.wrap ((i:Int)+1)=((i+1:Nat):Int)→G i→∀nx:W.Kn,(G (i+1)→∀vs' L',aI vs' L' (S (i+1)).1 (S (i+1)).2→nx vs' L')→B (S i).1 (S i).2 nx)
  (h2:∀i,i=n→decide ((i:Int)<(n:Int))=false→G i→∀nx:W.Kn,B (S i).1 (S i).2 nx):W.loop B vs L:=by
 refine sP n S G h0 hv hL λi hi hG=>?_
 rcases Vt i n with h|h
 ·exact h1 i h (bF h) (aE h hl) hG _ λhg vs' L' hz=>⟨i+1,W4,W4,hg,hz⟩
 ·exact h2 i W4 (bM h) hG _
theorem pq(n:Nat)(G:Nat→Prop)(S:Nat→List AV){B:List AV→SH→W.Kn→Prop}{vs:List AV}{L:SH}(hl:n<2^62)(h0:G 0)(hv:vs=S 0)
  (h1:∀i,i<n→decide ((i:Int)<(n:Int))=true→IntKind.i64.wrap ((i:Int)+1)=((i+1:Nat):Int)→G i→∀nx:W.Kn,(G (i+1)→nx (S (i+1)) L)→B (S i) L nx)
  (h2:∀i,i=n→decide ((i:Int)<(n:Int))=false→G i→∀nx:W.Kn,B (S i) L nx):W.loop B vs L:=
 TU n G (λi=>(S i,L)) hl h0 hv rfl (λi h hd hi hG nx hn=>h1 i h hd hi hG nx λhg=>hn hg _ _ (.refl _ _)) h2
theorem fp{α:Type}(l:List α)(p:α→Bool)(S:Nat→List AV){B:List AV→SH→W.Kn→Prop}{vs:List AV}{L:SH}(hl:l.length<2^62)(hv:vs=S 0)
  (h1:∀i (h:i<l.length),decide ((i:Int)<(l.length:Int))=true→IntKind.i64.wrap ((i:Int)+1)=((i+1:Nat):Int)→(∀x∈l.take i,p x=false)→∀nx:W.Kn,(p l[i]=false→nx (S (i+1)) L)→B (S i) L nx)
  (h2:∀i,i=l.length→decide ((i:Int)<(l.length:Int))=false→(∀x∈l,p x=false)→∀nx:W.Kn,B (S i) L nx):W.loop B vs L:=
 pq l.length (λi=>∀x∈l.take i,p x=false) S hl W7 hv (λi h hd hi hG nx hn=>h1 i h hd hi hG nx λhp=>hn (Ic h hG hp))
  λi e hd hG nx=>h2 i e hd (by rw[Wb W4]at hG;exact hG) nx
theorem Nq{α:Type}{p:α→Bool}{l:List α}(h:∀x∈l,p x=false):l.any p=false:=by simpa using h
theorem KU{α:Type}{p:α→Bool}{l:List α}{i:Nat}(h:i<l.length)(hp:p l[i]=true):l.any p=true:=W3.2 ⟨_,VI h,hp⟩
theorem Nr{α:Type}{p:α→Bool}{l:List α}{i:Nat}(h:i<l.length)(hp:p l[i]=false):l.all p=false:=List.all_eq_false.2 ⟨_,VI h,by simp[hp]⟩
theorem KV{s:bj}{k:IntKind}{i:Nat}{K:AV→Prop}(h:K (.int .u8 (s.getD i 0).toNat))(hi:i<s.length:=by assumption):W.ixS (.str s) (.int k (i:Int)) K:=⟨s,k,i,s[i],rfl,rfl,W4,by simp[hi],by simpa[List.getD,hi]using h⟩
def mO{α:Type}(p:α→Bool):List α→Nat→Int
 |[],_=>-1
 |x::l,i=>if p x then(i:Int)else mO p l (i+1)
theorem gL{α:Type}{p:α→Bool}:∀{l:List α} {i:Nat},(∀x∈l,p x=false)→mO p l i=-1
 |[],_,_=>rfl
 |x::l,i,h=>by rw[mO,h x W7];exact gL λy hy=>h y (by simp[hy])
theorem KW{α:Type}{p:α→Bool}:∀{l:List α} {j k:Nat} (hk:k<l.length),(∀x∈l.take k,p x=false)→p l[k]=true→mO p l j=(j+k:Nat)
 |x::l,j,0,hk,h,hp=>by simp at hp;simp[mO,hp]
 | x::l,j,k+1,hk,h,hp=>by rw[mO,h x W7];have:=KW (p:=p) (l:=l) (j:=j+1) (k:=k) (by simpa using hk) (λy hy=>h y (by simp[hy])) (by simpa using hp);simp only[VQ,if_false,this];congr 1;omega
theorem pr{α:Type}{p:α→Bool}{l:List α}{k:Nat}(hk:k<l.length)(h:∀x∈l.take k,p x=false)(hp:p l[k]=true):mO p l 0=k:=by rw[KW hk h hp];simp
structure bb where
 name:bj
 index:Int
 size:Int
 vol:Bool
 init:Int
 deriving Inhabited
def bb.enc(c:bb):List AV:=[.str c.name,.W9 c.index,.W9 c.size,.bool c.vol,.W9 c.init]
structure cb where
 name:bj
 rw:Bool
 deriving Inhabited
def cb.enc(c:cb):List AV:=[.str c.name,.bool c.rw]
structure cX where
 name:bj
 mutex:Int
 deriving Inhabited
def cX.enc(c:cX):List AV:=[.str c.name,.W9 c.mutex]
structure cM where
 thread:Int
 stmt:Int
 line:Int
 deriving Inhabited
def cM.enc(c:cM):List AV:=[.W9 c.thread,.W9 c.stmt,.W9 c.line]
structure aN where
 cells:List bb
 locks:List cb
 conds:List cX
 futures:List bj
 threads:List bj
 sites:List cM
def aN.enc(w:aN):List AV:=[.lst (w.cells.map bb.enc),.lst (w.locks.map cb.enc),.lst (w.conds.map cX.enc),.lst (w.futures.map aw),.lst (w.threads.map aw),.lst (w.sites.map cM.enc)]
structure dH where
 thread:Int
 wake:Int
def dH.enc(c:dH):List AV:=[.W9 c.thread,.W9 c.wake]
structure bP where
 w:aN
 ts:List iD
def bP.enc(c:bP):List AV:=[.lst (c.w.cells.map bb.enc),.lst (c.w.locks.map cb.enc),.lst (c.w.conds.map cX.enc),.lst (c.w.futures.map aw),.lst (c.w.threads.map aw),.lst (c.w.sites.map cM.enc),.lst (c.ts.map iD.enc)]
def fV(l:List cb)(s:bj):Int:=mO (λx=>decide (x.name=s)) l 0
def w6(l:List bb)(s:bj):Int:=mO (λx=>decide (x.name=s)) l 0
def bU(i:bn):List Int:=
 if i.op=1∨i.op=6∨i.op=10∨i.op=27 then [i.a]else
 if i.op=2∨i.op=3 then [i.a,i.b]else
 if i.op=4 then [i.a,i.b,i.c]else
 if i.op=7 then [i.a,i.c]else
 if i.op=8∨i.op=26 then [i.b]else
 if i.op=9 then [i.b,i.c]else []
def KX(w:aN)(i:Int):Bool:=inB i w.cells.length&&decide ((w.cells.getD i.toNat default).size=0)
def Jz(w:aN)(i n:Int):Bool:=inB i w.cells.length&&decide ((w.cells.getD i.toNat default).index=0)&&decide ((w.cells.getD i.toNat default).size≠0)&&decide ((w.cells.getD i.toNat default).size=n)
def Ie(w:aN)(i:Int)(rw:Bool):Bool:=inB i w.locks.length&&((w.locks.getD i.toNat ⟨[],false⟩).rw==rw)
def JA(w:aN)(i:bn):Bool:=
 if i.op=6 then KX w i.b else if i.op=8 then KX w i.a else if i.op=7 then Jz w i.b i.n else if i.op=9 then Jz w i.a i.n else
 if i.op=11∨i.op=12 then Ie w i.a false else if i.op=13∨i.op=14∨i.op=15∨i.op=16 then Ie w i.a true else
 if i.op=21∨i.op=22∨i.op=23 then inB i.a w.conds.length else if i.op=24∨i.op=25 then inB i.a w.threads.length else
 if i.op=26 then inB i.a w.futures.length else if i.op=27 then inB i.b w.futures.length else
 if i.op=3 then decide (i.n=4∨i.n=5)else if i.op=4 then decide (6≤i.n∧i.n≤18)else true
def bn.sil(i:bn):Prop:=1≤i.op∧i.op≤5
inductive JB (ins:List bn):Nat→Nat→Prop where
 |ev (k:Nat) (i:bn):ins[k]? =some i→¬i.sil→JB ins k 0
 |go (k m:Nat) (i:bn):ins[k]? =some i→i.sil→i.op≠5→JB ins (k+1) m→JB ins k (m+1)
 |jump (k m j:Nat) (i:bn):ins[k]? =some i→i.op=5→i.a=(j:Nat)→JB ins j m→JB ins k (m+1)
def pt(ins:List bn)(k:Nat):Prop:=∃m,JB ins k m
theorem JB.uniq{ins:List bn}{k m1:Nat}(h1:JB ins k m1):∀{m2:Nat},JB ins k m2→m1=m2:=by
 induction h1 with
 |ev k i hi hs=>
  intro m2 h2;cases h2 with
  |ev=>rfl
  |go _ _ i' hi' hs'=>rw[hi]at hi';cases hi';exact absurd hs' hs
  |jump _ _ j i' hi' hs'=>rw[hi]at hi';cases hi';exact absurd ⟨W4,W4⟩ hs
 |go k m i hi hs h5 hm ih=>
  intro m2 h2;cases h2 with
  |ev _ i' hi' hs'=>rw[hi]at hi';cases hi';exact absurd hs hs'
  |go _ _ i' hi' hs' _ hm'=>rw[ih hm']
  |jump _ _ j i' hi' hs'=>rw[hi]at hi';cases hi';exact absurd hs' h5
 |jump k m j i hi hs ha hm ih=>
  intro m2 h2;cases h2 with
  |ev _ i' hi' hs'=>rw[hi]at hi';cases hi';exact absurd ⟨W4,W4⟩ hs'
  |go _ _ i' hi' hs' h5 hm'=>rw[hi]at hi';cases hi';exact absurd hs h5
  |jump _ _ j' i' hi' hs' ha' hm'=>
   rw[hi]at hi';cases hi';have:j=j':=by omega
   subst this;rw[ih hm']
theorem JB.lt{ins:List bn}{k m:Nat}(h:JB ins k m):k<ins.length:=by
 cases h with
 |ev _ i hi _=>exact(V7.1 hi).1
 |go _ _ i hi=>exact(V7.1 hi).1
 |jump _ _ j i hi=>exact(V7.1 hi).1
theorem FF{α:Type}[BEq α][LawfulBEq α]:∀{l U:List α},l.Nodup→(∀x∈l,x∈U)→l.length≤U.length
 |[],U,_,_=>by simp
 | x::l,U,hn,hs=>by
  have hx:x∈U:=hs x W7;have h1:=VA.1 hn;have:=FF (l:=l) (U:=U.erase x) h1.2 λy hy=>(List.mem_erase_of_ne (by rintro rfl;exact h1.1 hy)).2 (hs y (by simp[hy]))
  rw[List.length_erase_of_mem hx]at this;have:=List.length_pos_of_mem hx;simp only[VL];omega
theorem Nt:∀{n:Nat} {l:List Nat},l.Nodup→(∀j∈l,j<n)→l.length≤n:=by
 intro n l hn h;have:=FF hn (U:=List.range n) λj hj=>Wl.2 (h j hj)
 simpa using this
def fW(t:ThrD)(c:Int):Bool:=decide (t.status=3)&&decide (t.cond=c)
def fitsS(w:aN)(s:SyncD):Bool:=decide (s.locks.length=w.locks.length)&&decide (s.done.length=w.futures.length)&&decide (s.threads.length=w.threads.length)&&w.conds.all λc=>inB c.mutex w.locks.length
def rwAt(w:aN)(o:Int):Bool:=(w.locks.getD o.toNat default).rw
def allowedS(w:aN)(k o:Int):Bool:=
 if k=1∨k=2∨k=5∨k=12∨k=13∨k=14∨k=15 then decide (o=-1)
 else if k=3∨k=4 then inB o w.cells.length
 else if k=6∨k=7 then inB o w.locks.length&&!rwAt w o
 else if k=8∨k=9∨k=10∨k=11 then inB o w.locks.length&&rwAt w o
 else if k=16∨k=17∨k=18∨k=19 then inB o w.conds.length
 else if k=20∨k=21 then inB o w.threads.length
 else if k=22∨k=23 then inB o w.futures.length
 else false
def aM(s:SyncD)(o:Int):LockD:=s.locks.getD o.toNat default
def cm(s:SyncD)(o:Int):ThrD:=s.threads.getD o.toNat default
def zD(s:SyncD)(o:Int):Bool:=s.done.getD o.toNat default
def lU(w:aN)(o:Int):Int:=(w.conds.getD o.toNat default).mutex
def cP(w:aN)(s:SyncD)(t k o:Int):Bool:=
 if k=6 then decide ((aM s o).owner=-1)
 else if k=10 then decide ((aM s o).owner=-1)&&decide ((aM s o).readers.length=0)
 else if k=8 then decide ((aM s o).owner=-1)&&!(aM s o).readers.contains t
 else if k=7∨k=11 then decide ((aM s o).owner=t)
 else if k=9 then(aM s o).readers.contains t
 else if k=12 then decide (s.tx=-1)
 else if k=13 then decide (s.tx=t)
 else if k=14 then !(cm s t).atomic
 else if k=15 then(cm s t).atomic
 else if k=16∨k=18∨k=19 then decide ((aM s (lU w o)).owner=t)
 else if k=20 then decide (o≠t)&&decide ((cm s o).status=0)
 else if k=21 then decide (o≠t)&&decide ((cm s o).status=5)
 else if k=22 then !zD s o
 else if k=23 then zD s o
 else true
def bQ(w:aN)(s:SyncD)(t k o:Int):Bool:=
  fitsS w s&&inB t w.threads.length&&allowedS w k o &&
    (if k=1 then decide ((cm s t).status=1)
     else if k=17 then decide ((cm s t).status=4)&&decide ((cm s t).cond=o)&&decide ((aM s (lU w o)).owner=-1)
     else decide ((cm s t).status=2)&&cP w s t k o)
structure Nu(w:aN)(s:SyncD):Prop where
 locks:s.locks.length=w.locks.length
 done:s.done.length=w.futures.length
 threads:s.threads.length=w.threads.length
 conds:∀c∈w.conds,inB c.mutex w.locks.length=true
theorem zE{w:aN}{s:SyncD}:fitsS w s=true↔Nu w s:=by simp only[fitsS,VS,decide_eq_true_eq,VE];exact⟨λ⟨⟨⟨h1,h2⟩,h3⟩,h4⟩=>⟨h1,h2,h3,h4⟩,λ⟨h1,h2,h3,h4⟩=>⟨⟨⟨h1,h2⟩,h3⟩,h4⟩⟩
theorem KY{w:aN}{s:SyncD}(h:Nu w s){o:Int}(ho:inB o w.conds.length=true):inB (lU w o) s.locks.length=true:=by
 obtain⟨h1,h2⟩:=ay.1 ho;have hlt:o.toNat<w.conds.length:=by omega
 rw[h.locks];have:w.conds.getD o.toNat default=w.conds[o.toNat]:=by simp[hlt]
 unfold lU;rw[this];exact h.conds _ (VI hlt)
theorem Nv{s:SyncD}(hr:∀l∈s.locks,l.readers.length<2^40)(o:Int):(aM s o).readers.length<2^62:=by
 unfold aM;rcases Vt o.toNat s.locks.length with h|h
 ·have:=hr _ (VI h);simp[h];omega
 ·simp[List.getD,Vu h];decide
theorem kinds(k:Int):(k<1∨23<k)∨k=1∨k=2∨k=3∨k=4∨k=5∨k=6∨k=7∨k=8∨k=9∨k=10∨k=11∨k=12∨k=13∨k=14∨k=15∨k=16∨k=17∨k=18∨k=19∨k=20∨k=21∨k=22∨k=23:=by omega
theorem If{w:aN}{k o:Int}(hk:k<1∨23<k):allowedS w k o=false:=by
 unfold allowedS
 repeat (rw[if_neg W4])
end Go.Proofs.YtenbpcngcicamaaGreatDoor.Am
