/- A part of the proof; the statement is proved in the last part. -/
import Derived.Test.YtljkdffikfkcgaaGreatQ2e
set_option linter.unusedSimpArgs false
set_option linter.unusedVariables false
section
namespace Go.Proofs.YtljkdffikfkcgaaGreat.Am
set_option maxRecDepth 100000
set_option maxHeartbeats 1000000
set_option linter.unusedVariables false
def Dx(n:Int):List AV:=[.int .u8 n]
def ft{α:Type}(z:α)(n:Nat)(l:List α):List α:=l.take n++List.replicate (n-l.length) z
def Bf{α:Type}(z:α)(n:Nat)(l:List α)(i:Nat):List α:=l.take i++List.replicate (n-i) z
theorem C0{α:Type}{z:α}{n i:Nat}{l:List α}(h1:i≤n)(h2:i≤l.length):(Bf z n l i).length=n:=by simp[Bf];omega
theorem C1{α:Type}{z:α}{n i:Nat}{l:List α}(h1:i≤n)(h2:i≤l.length)(h:i=n∨i=l.length):Bf z n l i=ft z n l:=by
 unfold Bf ft
 rcases h with rfl | rfl
 ·simp[show i-l.length=0 by omega]
 ·rw[List.take_of_length_le (Nat.le_refl _),List.take_of_length_le h1]
theorem GF{α β:Type}{z:α}{n i:Nat}{l:List α}(f:α→β)(h1:i<n)(h2:i<l.length):((Bf z n l i).map f).set i (f l[i])=(Bf z n l (i+1)).map f:=by
 unfold Bf
 obtain⟨m,hm⟩:∃m,n-i=m+1:=⟨n-i-1,by omega⟩
 have hl:((l.take i).map f).length=i:=by simp;omega
 rw[hm,show n-(i+1)=m by omega,List.replicate_succ,List.take_succ_eq_append_getElem h2,List.map_append,List.map_append,List.set_append_right _ _ (by omega),hl,Nat.sub_self,List.map_append,List.append_assoc]
 rfl
theorem E2{K:SH}{A B:List (List AV)}{x y:List AV}(h:nI K x y)(j:Nat)(r r':List AV)(h1:(A++x::B)[j]? =some r)(h2:(A++y::B)[j]? =some r'):nI K r r':=by
 rcases Nat.lt_or_ge j A.length with hj | hj
 ·rw[List.getElem?_append_left hj]at h1 h2
  rw[h1]at h2;cases h2
  exact nI.refl _ _
 ·rw[List.getElem?_append_right hj]at h1 h2
  generalize j-A.length=k at h1 h2
  match k with
  | 0=>cases h1;cases h2;exact h
  | k+1=>
   simp only[List.getElem?_cons_succ]at h1 h2
   rw[h1]at h2;cases h2
   exact nI.refl _ _
theorem ls{α:Type}{z:α}{n:Nat}{l:List α}:(ft z n l).length=n:=by simp[ft];omega
def Lk(c:sx)(n:Nat)(pc:Int)(regs taint:List Int):bC:=⟨pc.tmod c.ins.length,ft 0 n regs,ft [] n (taint.map fun x=>[x]),0⟩
def GG(x:Int):List AV:=[.lst [az x]]
def dz(n:Nat)(l:List Int)(i:Nat):List (List AV):=(l.take i).map GG++List.replicate (n-i) [.nils]
theorem sY{n i:Nat}{l:List Int}(h1:i≤n)(h2:i≤l.length):(dz n l i).length=n:=by simp[dz];omega
theorem Dy{n i:Nat}{l:List Int}{v:AV}(h1:i<n)(h2:i<l.length):(dz n l i).set i [v]=(l.take i).map GG++[v]::List.replicate (n-(i+1)) [.nils]:=by
 unfold dz
 obtain⟨m,hm⟩:∃m,n-i=m+1:=⟨n-i-1,by omega⟩
 rw[hm,show n-(i+1)=m by omega,List.replicate_succ,List.set_append_right _ _ (by simp;omega)]
 simp[Nat.min_eq_left (Nat.le_of_lt h2)]
theorem Ca{n i:Nat}{l:List Int}(h1:i<n)(h2:i<l.length):dz n l (i+1)=(l.take i).map GG++GG l[i]::List.replicate (n-(i+1)) [.nils]:=by
 unfold dz
 rw[List.take_succ_eq_append_getElem h2,List.map_append,List.append_assoc]
 rfl
def GH(l:List Int):List AV:=if l=[]then [.nils]else bD l
theorem Dz{n i:Nat}{l:List Int}:dz n l i=(Bf [] n (l.map fun x=>[x]) i).map GH:=by
 unfold dz Bf
 rw[List.map_append,List.map_replicate,←List.map_take,List.map_map]
 rfl
section
variable {Q:R} {n:Nat} {ins:List av} {regs taint:List Int} {b2 bp bR bT:Nat} {pc:Int}
def Bg(b2 bR bT:Nat)(rs:List Int)(ts:List (List AV)):SH:=(bT,⟨1,ts⟩)::(bR,⟨1,rs.map az⟩)::[(b2,⟨4,[[.int .i64 0,.nils,.nils,.int .i64 0]]⟩)]
theorem II(hn:n<2^30)(ht:taint.length<2^63)(ht2:∀x∈taint,0≤x∧x<256)(rs:List Int)(hrs:rs.length=n)
  (hq:∀L:SH,aN [.agg [.int .i64 pc,.sl bR 0 n,.sl bT 0 n,.int .i64 0]] L [.agg [.int .i64 pc,.sl bR 0 n,.lst ((ft [] n (taint.map fun x=>[x])).map bD),.int .i64 0]] [(bR,⟨1,rs.map az⟩)]→Q (.agg [.int .i64 pc,.sl bR 0 n,.sl bT 0 n,.int .i64 0]) L) :
  W.loop (eO Q) [.lst (taint.map Dx),.pptr [[.int .i64 n,.lst (ins.map av.enc)]] 0 0,.ptr b2 0 0,.pptr [[.int .i64 pc,.sl bR 0 n,.sl bT 0 n,.int .i64 0]] 0 0,.int .i64 0] (Bg b2 bR bT rs (dz n taint 0)):=by
 refine cv (β:=Unit) (min n taint.length) (fun i _=>([.lst (taint.map Dx),.pptr [[.int .i64 n,.lst (ins.map av.enc)]] 0 0,.ptr b2 0 0,.pptr [[.int .i64 pc,.sl bR 0 n,.sl bT 0 n,.int .i64 0]] 0 0,.int .i64 i],Bg b2 bR bT rs (dz n taint i))) (fun _ _=>True) () trivial (.refl _ _) ?_
 intro i _ hi _
 dsimp only
 unfold eO
 generalize hnx:(fun(vs':List AV) (L':SH)=>∃j o',i<j∧j≤min n taint.length∧_)=nx
 have hx:=fun h:i<taint.length=>aw (f:=Dx) h
 have hfz:(i=n∨i=taint.length)→∀b:Nat×Blk,Fz [(bT,⟨1,dz n taint i⟩),b] (.sl bT 0 n) (.lst ((ft [] n (taint.map fun x=>[x])).map bD)):=fun he b=>by
  have hl:(taint.map fun x=>[x]).length=taint.length:=by simp
  rw[←C1 (z:=[]) (l:=taint.map fun x=>[x]) (show i≤n by omega) (by omega) (by omega)]
  refine Fz.slm (f:=GH) (size:=1) (.head _) Dz (by decide) (by rw[C0 (by omega) (by omega)]) (fun y _=>by unfold GH;split<;>rfl) (fun y _ q a a2 h1 h2=>?_)
  unfold GH at h1
  split at h1
  ·rename_i hy
   subst hy
   match q with
   | 0=>cases h1;cases h2;exact .nils
   | q+1=>simp at h1
  ·rw[h1]at h2;cases h2;exact .refl _
 unfold Bg
 by_cases g1:i<n
 ·by_cases g2:i<taint.length
  ·have hd1:=bW g1
   have hd2:=bW g2
   have hx:=hx g2
   have hi1:=bc g1 (by omega)
   have hb:=ht2 _ (List.getElem_mem g2)
   have hcv:IntKind.i64.wrap taint[i]=taint[i]:=IntWalk.i64_in _ (by omega)
   have hrow:(dz n taint i)[i]? =some [.nils]:=by
    unfold dz
    rw[List.getElem?_append_right (by simp;omega)]
    simp only[List.length_map,List.length_take,Nat.min_eq_left hi,Nat.min_eq_left (Nat.le_of_lt g2),Nat.sub_self]
    obtain⟨m,hm⟩:∃m,n-i=m+1:=⟨n-i-1,by omega⟩
    rw[hm];rfl
   have hlen:(dz n taint i).length=n:=sY (by omega) (by omega)
   repeat' (first | refine st ?_ | refine sb (fun nb_ hnb_=>?_) | refine s2 (fun h=>?_) (fun h=>?_) | fail)
   subst hnx
   refine⟨i+1,(),by omega,by omega,trivial,?_⟩
   refine aN.rowA (A:=[]) (b:=bT) (rows:=(dz n taint i).set i [.sl nb_ 0 1]) (rows':=dz n taint (i+1)) (.one (.there _ (.here _)) (.one (.there _ (.here _)) (.one (.there _ (.here _)) (.nil _)))) (by rw[List.length_set,sY (by omega) (by omega),sY (by omega) (by omega)]) ?_ rfl
   rw[Dy g1 g2,Ca g1 g2]
   exact E2 (.cons (Fz.sls (l:=[taint[i]]) (f:=az) (size:=1) (.head _) (by rw[hcv];rfl) (by decide) rfl) .nil)
  ·have hd1:=bW g1
   have hd2:decide ((i:Int)<(taint.length:Int))=false:=by simp;omega
   repeat' (first | refine st ?_ | refine sb (fun nb_ hnb_=>?_) | refine s2 (fun h=>?_) (fun h=>?_) | fail)
   refine hq _ ?_
   exact aN.drop (K:=[(bT,⟨1,dz n taint i⟩),(b2,⟨4,[[.int .i64 pc,.sl bR 0 n,.sl bT 0 n,.int .i64 0]]⟩)]) (.cons _ (.swap _ _ _)) rfl (nI.cons (Fz.aggs (.cons (.refl _) (.cons (.refl _) (.cons (hfz (.inr (by omega)) _) (.cons (.refl _) .nil))))) .nil).at_.2
 ·have hd1:decide ((i:Int)<(n:Int))=false:=by simp;omega
  repeat' (first | refine st ?_ | refine sb (fun nb_ hnb_=>?_) | refine s2 (fun h=>?_) (fun h=>?_) | fail)
  refine hq _ ?_
  exact aN.drop (K:=[(bT,⟨1,dz n taint i⟩),(b2,⟨4,[[.int .i64 pc,.sl bR 0 n,.sl bT 0 n,.int .i64 0]]⟩)]) (.cons _ (.swap _ _ _)) rfl (nI.cons (Fz.aggs (.cons (.refl _) (.cons (.refl _) (.cons (hfz (.inl (by omega)) _) (.cons (.refl _) .nil))))) .nil).at_.2
theorem IJ(hn:n<2^30)(hr:regs.length<2^63)(ht:taint.length<2^63)(ht2:∀x∈taint,0≤x∧x<256)
  (hq:∀L:SH,aN [.agg [.int .i64 pc,.sl bR 0 n,.sl bT 0 n,.int .i64 0]] L [.agg [.int .i64 pc,.sl bR 0 n,.lst ((ft [] n (taint.map fun x=>[x])).map bD),.int .i64 0]] [(bR,⟨1,(ft 0 n regs).map az⟩)]→Q (.agg [.int .i64 pc,.sl bR 0 n,.sl bT 0 n,.int .i64 0]) L) :
  W.loop (gk Q) [.lst (regs.map az),.lst (taint.map Dx),.pptr [[.int .i64 n,.lst (ins.map av.enc)]] 0 0,.ptr b2 0 0,.pptr [[.int .i64 pc,.sl bR 0 n,.sl bT 0 n,.int .i64 0]] 0 0,.int .i64 0] (Bg b2 bR bT (Bf 0 n regs 0) (dz n taint 0)):=by
 refine cv (β:=Unit) (min n regs.length) (fun i _=>([.lst (regs.map az),.lst (taint.map Dx),.pptr [[.int .i64 n,.lst (ins.map av.enc)]] 0 0,.ptr b2 0 0,.pptr [[.int .i64 pc,.sl bR 0 n,.sl bT 0 n,.int .i64 0]] 0 0,.int .i64 i],Bg b2 bR bT (Bf 0 n regs i) (dz n taint 0))) (fun _ _=>True) () trivial (.refl _ _) ?_
 intro i _ hi _
 dsimp only
 unfold gk
 generalize hnx:(fun(vs':List AV) (L':SH)=>∃j o',i<j∧j≤min n regs.length∧_)=nx
 have hx:=fun h:i<regs.length=>aw (f:=az) h
 have hend:(i=n∨i=regs.length)→W.loop (eO Q) [.lst (taint.map Dx),.pptr [[.int .i64 n,.lst (ins.map av.enc)]] 0 0,.ptr b2 0 0,.pptr [[.int .i64 pc,.sl bR 0 n,.sl bT 0 n,.int .i64 0]] 0 0,.int .i64 0] (Bg b2 bR bT (Bf 0 n regs i) (dz n taint 0)):=fun he=>by
  rw[C1 (by omega) (by omega) he]
  exact II hn ht ht2 _ ls hq
 unfold Bg at hend ⊢
 by_cases g1:i<n
 ·by_cases g2:i<regs.length
  ·have hd1:=bW g1
   have hd2:=bW g2
   have hx:=hx g2
   have hi1:=bc g1 (by omega)
   have hlen:((Bf 0 n regs i).map az).length=n:=by rw[List.length_map,C0 (by omega) (by omega)]
   have hrow:((Bf 0 n regs i).map az)[i]? =some [.int .i64 0]:=by
    unfold Bf
    rw[List.map_append,List.getElem?_append_right (by simp;omega)]
    simp only[List.length_map,List.length_take,Nat.min_eq_left (Nat.le_of_lt g2),Nat.sub_self]
    obtain⟨m,hm⟩:∃m,n-i=m+1:=⟨n-i-1,by omega⟩
    rw[hm];rfl
   repeat' (first | refine st ?_ | refine sb (fun nb_ hnb_=>?_) | refine s2 (fun h=>?_) (fun h=>?_) | fail)
   subst hnx
   refine⟨i+1,(),by omega,by omega,trivial,?_⟩
   unfold Bg
   rw[←GF az g1 g2]
   exact .refl _ _
  ·have hd1:=bW g1
   have hd2:decide ((i:Int)<(regs.length:Int))=false:=by simp;omega
   have hend:=hend (.inr (by omega))
   repeat' (first | exact hend | refine st ?_ | refine sb (fun nb_ hnb_=>?_) | refine s2 (fun h=>?_) (fun h=>?_) | fail)
 ·have hd1:decide ((i:Int)<(n:Int))=false:=by simp;omega
  have hend:=hend (.inl (by omega))
  repeat' (first | exact hend | refine st ?_ | refine sb (fun nb_ hnb_=>?_) | refine s2 (fun h=>?_) (fun h=>?_) | fail)
end
theorem E3(n:Nat)(ins:List av)(pc:Int)(regs taint:List Int)(hn:n<2^20)(hi:0<ins.length)(hi2:ins.length<2^40)(hp:0≤pc∧pc<256)(hr:regs.length<2^63)(ht:taint.length<2^63)(ht2:∀x∈taint,0≤x∧x<256):
  aj Tryz.prog 5 [.agg [.int .i64 n,.lst (ins.map av.enc)],.int .u8 pc,.lst (regs.map az),.lst (taint.map Dx)] [] fun u K=>∃(v:AV) (bR:Nat),u=v∧v=.agg [.int .i64 (pc.tmod ins.length),.sl bR 0 n,.lst ((ft [] n (taint.map fun x=>[x])).map bD),.int .i64 0]∧K=[(bR,⟨1,(ft 0 n regs).map az⟩)]:=by
 refine aj.fz (wo _ _ _ _ _ _ ?_)
 unfold mX
 generalize hQ:(fun(v:AV) (L:SH)=>∃v2 L2,aN [v] L [v2] L2∧∃(v:AV) (bR:Nat),_)=Q
 have hq:∀(bR bT:Nat) (L:SH),aN [.agg [.int .i64 (pc.tmod ins.length),.sl bR 0 n,.sl bT 0 n,.int .i64 0]] L [.agg [.int .i64 (pc.tmod ins.length),.sl bR 0 n,.lst ((ft [] n (taint.map fun x=>[x])).map bD),.int .i64 0]] [(bR,⟨1,(ft 0 n regs).map az⟩)]→Q (.agg [.int .i64 (pc.tmod ins.length),.sl bR 0 n,.sl bT 0 n,.int .i64 0]) L:=fun bR bT L h=>by
  subst hQ;exact⟨_,_,h,_,bR,rfl,rfl,rfl⟩
 clear hQ
 have hcv:IntKind.i64.wrap pc=pc:=IntWalk.i64_in pc (by omega)
 have hz:decide ((ins.length:Int)=0)=false:=decide_eq_false (by omega)
 have e0:List.replicate n [AV.int .i64 0]=(Bf 0 n regs 0).map az:=by simp[Bf,az]
 have e1:List.replicate n [AV.nils]=dz n taint 0:=by simp[dz]
 repeat' (first | refine st ?_ | refine sb (fun nb_ hnb_=>?_) | refine s2 (fun h=>?_) (fun h=>?_) | fail)
 rw[hcv,e0,e1]
 refine IJ (pc:=pc.tmod ins.length) (by omega) hr ht ht2 fun L h=>hq _ _ L h
end Go.Proofs.YtljkdffikfkcgaaGreat.Am
end
section
namespace Go.Proofs.YtljkdffikfkcgaaGreat.Am
set_option linter.unusedVariables false
set_option maxRecDepth 100000
def jv(Q:R)(x46 x152:AV)(L153:SH):Prop:=
 W.ext 0 x152 fun x154=>
 W.ext 1 x152 fun x155=>
 xW [(.int .i64 0),.nils,.nils,(.int .i64 0)] 4 x154 L153 fun x159 L160=>
 wg x155 true (c7 4 x46 L160) L160 fun x161 L163=>
 wg x155 true (c7 4 x159 L163) L163 fun x165 L167=>
 W.grd x155 true (fun k170=>wc (.fn 8 []) [x161,x165] L167 fun x172 L173=>
 k170 x172 L173) L167 fun x169 L171=>
 W.pick x155 x169 (.bool false) fun x174=>
 Q x174 L171
def jw(Q:R)(x42 x46 x27 x50:AV)(L51:SH):Prop:=
 W.ext 0 x50 fun x52=>
 W.ext 1 x50 fun x53=>
 xW [(.int .i64 0),.nils,.nils,(.int .i64 0)] 4 x52 L51 fun x57 L58=>
 W.un .not x42 fun x59=>
 wg x59 false (c7 4 x46 L58) L58 fun x60 L62=>
 wg x59 false (c7 4 x57 L62) L62 fun x64 L66=>
 W.grd x59 false (fun k69=>wc (.fn 8 []) [x60,x64] L66 fun x71 L72=>
 k69 x71 L72) L66 fun x68 L70=>
 wg x59 false (W.un .not x68) L70 fun x73 L75=>
 W.pick x59 (.bool true) x73 fun x77=>
 wg x77 false (W.faddr 0 x46) L75 fun x78 L80=>
 wg x77 false (wl x78 L80) L80 fun x82 L84=>
 wg x77 false (wb .lss 3 x82 (.int .i64 0)) L84 fun x86 L88=>
 W.pick x77 (.bool true) x86 fun x90=>
 wg x90 false (W.faddr 0 x46) L88 fun x91 L93=>
 wg x90 false (wl x91 L93) L93 fun x95 L97=>
 wg x90 false (W.faddr 1 x27) L97 fun x99 L101=>
 wg x90 false (wl x99 L101) L101 fun x103 L105=>
 wg x90 false (W.len x103) L105 fun x107 L109=>
 wg x90 false (wb .geq 3 x95 x107) L109 fun x111 L113=>
 W.pick x90 (.bool true) x111 fun x115=>
 wg x115 false (W.faddr 1 x27) L113 fun x116 L118=>
 wg x115 false (wl x116 L118) L118 fun x120 L122=>
 wg x115 false (W.faddr 0 x46) L122 fun x124 L126=>
 wg x115 false (wl x124 L126) L126 fun x128 L130=>
 wg x115 false (W.idx 6 x120 x128 L130) L130 fun x132 L134=>
 wg x115 false (W.faddr 0 x132) L134 fun x136 L138=>
 wg x115 false (wl x136 L138) L138 fun x140 L142=>
 W.grd x115 false (fun k145=>wc (.fn 9 []) [x140] L142 fun x147 L148=>
 k145 x147 L148) L142 fun x144 L146=>
 W.pick x115 (.bool true) x144 fun x149=>
 wk x149 (
 Q (.bool false) L146) (
 c7 2 x27 L146 fun x150=>
 c7 4 x46 L146 fun x151=>
 wc (.fn 6 []) [x150,x151] L146 (jv Q x46))
def jx(Q:R)(x27 x35 x39:AV)(L40:SH):Prop:=
 W.ext 0 x39 fun x41=>
 W.ext 1 x39 fun x42=>
 xW [(.int .i64 0),.nils,.nils,(.int .i64 0)] 4 x41 L40 fun x46 L47=>
 c7 2 x27 L47 fun x48=>
 c7 4 x35 L47 fun x49=>
 wc (.fn 7 []) [x48,x49] L47 (jw Q x42 x46 x27)
def jy(Q:R)(x27 x30:AV)(L31:SH):Prop:=
 xW [(.int .i64 0),.nils,.nils,(.int .i64 0)] 4 x30 L31 fun x35 L36=>
 c7 2 x27 L36 fun x37=>
 c7 4 x35 L36 fun x38=>
 wc (.fn 6 []) [x37,x38] L36 (jx Q x27 x35)
def jz(Q:R)(t1 t2 t3 t4 x2:AV)(L3:SH):Prop:=
 xW [.nils,.nils,.nils,.nils,.nils,.nils,.nils] 7 x2 L3 fun x7 L8=>
 (true=true)∧(
 aY 6 x7 [] 1 L8 fun x10 r11=>
 W.conv .i64 t1 fun x12=>
 aY 6 x7 [rm 1 r11] 5 L8 fun x14 r15=>
 W.len x14 fun x16=>
 wb .rem 3 x12 x16 fun x17=>
 di [] 8 2 x10 x17 L8 fun x18 r19=>
 dr [] 9 2 x18 L8 fun x20 r21=>
 W.calm [rm 9 r21,rm 8 r19,rm 5 r15,rm 1 r11] ⟨10,[],[],[],false,[]⟩ (
 W.alloc [(.int .i64 0),.nils] L8 fun x22 L23=>
 wn [] [] (ac x22) [] fun r24=>
 ds [] 11 2 x22 x20 L23 fun L25 r26=>
 W.frz1 x22 L25 fun x27 L28=>
 c7 2 x27 L28 fun x29=>
 wc (.fn 5 []) [x29,t2,t3,t4] L28 (jy Q x27)))
def eY(t0 t1 t2 t3 t4:AV)(L:SH)(Q:R):Prop:=
 W.len t0 fun x0=>
 wb .gtr 3 x0 (.int .i64 200) fun x1=>
 wk x1 (
 Q (.bool true) L) (
 wc (.fn 4 []) [t0] L (jz Q t1 t2 t3 t4))
theorem jA(t0 t1 t2 t3 t4:AV)(L:SH)(Q:R)(h:eY t0 t1 t2 t3 t4 L Q):aj Tryz.prog 3 [t0,t1,t2,t3,t4] L Q:=
 bx ⟨fun _=>none,fun _=>[],fun k=>if k=3 then [11]else if k=4 then [12]else if k=5 then [13]else if k=6 then [14]else if k=7 then [16]else if k=10 then [18]else [],fun k=>if k=4 then [0,1,0,4,0,16,48,124,255,511,0,2047]else []⟩ Tryz.func3 (by kernel_rfl) (by kernel_rfl) h
end Go.Proofs.YtljkdffikfkcgaaGreat.Am
end
section
namespace Go.Proofs.YtljkdffikfkcgaaGreat.Am
set_option linter.unusedVariables false
set_option maxRecDepth 100000
def mZ(t0:AV)(L:SH)(Q:R):Prop:=
 wk t0 (
 Q (.int .i64 1) L) (
 Q (.int .i64 0) L)
theorem wI(t0:AV)(L:SH)(Q:R)(h:mZ t0 L Q):aj Tryz.prog 49 [t0] L Q:=
 bx ⟨fun _=>none,fun _=>[],fun _=>[],fun _=>[]⟩ Tryz.func49 (by kernel_rfl) (by kernel_rfl) h
def wJ(Q:R)(L:SH)(t0 t1:AV):Prop:=
 wb .eql 3 t0 (.int .i64 5) fun x2=>
 wk x2 (
 wb .eql 2 t1 (.int .i64 0) fun x3=>
 wc (.fn 49 []) [x3] L fun x4 L5=>
 Q (.tup [x4,(.bool true)]) L5) (
 Q (.tup [(.int .i64 0),(.bool false)]) L)
def m0(t0 t1:AV)(L:SH)(Q:R):Prop:=
 wb .eql 3 t0 (.int .i64 4) fun x0=>
 wk x0 (
 W.un .neg t1 fun x1=>
 Q (.tup [x1,(.bool true)]) L) (
 (wJ Q L t0 t1))
theorem wK(t0 t1:AV)(L:SH)(Q:R)(h:m0 t0 t1 L Q):aj Tryz.prog 33 [t0,t1] L Q:=
 bx ⟨fun _=>none,fun _=>[],fun _=>[],fun _=>[]⟩ Tryz.func33 (by kernel_rfl) (by kernel_rfl) h
def uo(Q:R)(L:SH)(t1 t2:AV):Prop:=
 wb .neq 2 t1 (.int .i64 0) fun x37=>
 b9 x37 true t2 L fun x38 L40=>
 wg x37 true (wb .neq 2 x38 (.int .i64 0)) L40 fun x41 L43=>
 W.pick x37 x41 (.bool false) fun x45=>
 wc (.fn 49 []) [x45] L43 fun x46 L47=>
 Q (.tup [x46,(.bool true)]) L47
def uq(Q:R)(L:SH)(t1 t2:AV):Prop:=
 wb .neq 2 t1 (.int .i64 0) fun x49=>
 b9 x49 false t2 L fun x50 L52=>
 wg x49 false (wb .neq 2 x50 (.int .i64 0)) L52 fun x53 L55=>
 W.pick x49 (.bool true) x53 fun x57=>
 wc (.fn 49 []) [x57] L55 fun x58 L59=>
 Q (.tup [x58,(.bool true)]) L59
def ur(Q:R)(L:SH)(t0 t1 t2:AV):Prop:=
 wb .eql 3 t0 (.int .i64 17) fun x36=>
 wk x36 (
 (uo Q L t1 t2)) (
 wb .eql 3 t0 (.int .i64 18) fun x48=>
 wk x48 (
 (uq Q L t1 t2)) (
 Q (.tup [(.int .i64 0),(.bool false)]) L))
def ut(Q:R)(L:SH)(t0 t1 t2:AV):Prop:=
 wb .eql 3 t0 (.int .i64 16) fun x32=>
 wk x32 (
 wb .geq 2 t1 t2 fun x33=>
 wc (.fn 49 []) [x33] L fun x34 L35=>
 Q (.tup [x34,(.bool true)]) L35) (
 (ur Q L t0 t1 t2))
def uu(Q:R)(L:SH)(t0 t1 t2:AV):Prop:=
 wb .eql 3 t0 (.int .i64 15) fun x28=>
 wk x28 (
 wb .gtr 2 t1 t2 fun x29=>
 wc (.fn 49 []) [x29] L fun x30 L31=>
 Q (.tup [x30,(.bool true)]) L31) (
 (ut Q L t0 t1 t2))
def uv(Q:R)(L:SH)(t0 t1 t2:AV):Prop:=
 wb .eql 3 t0 (.int .i64 14) fun x24=>
 wk x24 (
 wb .leq 2 t1 t2 fun x25=>
 wc (.fn 49 []) [x25] L fun x26 L27=>
 Q (.tup [x26,(.bool true)]) L27) (
 (uu Q L t0 t1 t2))
def uw(Q:R)(L:SH)(t0 t1 t2:AV):Prop:=
 wb .eql 3 t0 (.int .i64 13) fun x20=>
 wk x20 (
 wb .lss 2 t1 t2 fun x21=>
 wc (.fn 49 []) [x21] L fun x22 L23=>
 Q (.tup [x22,(.bool true)]) L23) (
 (uv Q L t0 t1 t2))
def ux(Q:R)(L:SH)(t0 t1 t2:AV):Prop:=
 wb .eql 3 t0 (.int .i64 12) fun x16=>
 wk x16 (
 wb .neq 2 t1 t2 fun x17=>
 wc (.fn 49 []) [x17] L fun x18 L19=>
 Q (.tup [x18,(.bool true)]) L19) (
 (uw Q L t0 t1 t2))
def uy(Q:R)(L:SH)(t0 t1 t2:AV):Prop:=
 wb .eql 3 t0 (.int .i64 11) fun x12=>
 wk x12 (
 wb .eql 2 t1 t2 fun x13=>
 wc (.fn 49 []) [x13] L fun x14 L15=>
 Q (.tup [x14,(.bool true)]) L15) (
 (ux Q L t0 t1 t2))
def uz(Q:R)(L:SH)(t0 t2 t1:AV):Prop:=
 wb .eql 3 t0 (.int .i64 10) fun x9=>
 wk x9 (
 wb .eql 2 t2 (.int .i64 0) fun x10=>
 wk x10 (
 Q (.tup [(.int .i64 0),(.bool true)]) L) (
 wb .rem 2 t1 t2 fun x11=>
 Q (.tup [x11,(.bool true)]) L)) (
 (uy Q L t0 t1 t2))
def sZ(Q:R)(L:SH)(t0 t2 t1:AV):Prop:=
 wb .eql 3 t0 (.int .i64 9) fun x6=>
 wk x6 (
 wb .eql 2 t2 (.int .i64 0) fun x7=>
 wk x7 (
 Q (.tup [(.int .i64 0),(.bool true)]) L) (
 wb .quo 2 t1 t2 fun x8=>
 Q (.tup [x8,(.bool true)]) L)) (
 (uz Q L t0 t2 t1))
def s5(Q:R)(L:SH)(t0 t1 t2:AV):Prop:=
 wb .eql 3 t0 (.int .i64 7) fun x2=>
 wk x2 (
 wb .sub 2 t1 t2 fun x3=>
 Q (.tup [x3,(.bool true)]) L) (
 wb .eql 3 t0 (.int .i64 8) fun x4=>
 wk x4 (
 wb .mul 2 t1 t2 fun x5=>
 Q (.tup [x5,(.bool true)]) L) (
 (sZ Q L t0 t2 t1)))
def ky(t0 t1 t2:AV)(L:SH)(Q:R):Prop:=
 wb .eql 3 t0 (.int .i64 6) fun x0=>
 wk x0 (
 wb .add 2 t1 t2 fun x1=>
 Q (.tup [x1,(.bool true)]) L) (
 (s5 Q L t0 t1 t2))
theorem uA(t0 t1 t2:AV)(L:SH)(Q:R)(h:ky t0 t1 t2 L Q):aj Tryz.prog 35 [t0,t1,t2] L Q:=
 bx ⟨fun _=>none,fun _=>[],fun _=>[],fun _=>[]⟩ Tryz.func35 (by kernel_rfl) (by kernel_rfl) h
def kz(t0:AV)(L:SH)(Q:R):Prop:=
 wb .geq 3 t0 (.int .i64 1) fun x0=>
 b9 x0 true t0 L fun x1 L3=>
 wg x0 true (wb .leq 3 x1 (.int .i64 5)) L3 fun x4 L6=>
 W.pick x0 x4 (.bool false) fun x8=>
 Q x8 L6
theorem uB(t0:AV)(L:SH)(Q:R)(h:kz t0 L Q):aj Tryz.prog 9 [t0] L Q:=
 bx ⟨fun _=>none,fun _=>[],fun _=>[],fun _=>[]⟩ Tryz.func9 (by kernel_rfl) (by kernel_rfl) h
def zM(Q:R)(L52:SH)(x3 x5 x4:AV):Prop:=
 W.bslice 1 [(.int .i64 0)] 0 [] L52 fun x55 L56=>
 W.slice 1 x3 none (some x5) none L56 fun x57=>
 W.append 1 8 x55 x57 L56 fun x58 L59=>
 W.bslice 1 [(.int .i64 0)] 1 [(0,x4)] L59 fun x60 L61=>
 W.append 1 8 x58 x60 L61 fun x62 L63=>
 W.slice 1 x3 (some x5) none none L63 fun x64=>
 W.append 1 8 x62 x64 L63 fun x65 L66=>
 Q x65 L66
def zN(Q:R)(L27:SH)(x3 x5 x4:AV):Prop:=
 W.len x3 fun x31=>
 wb .lss 3 x5 x31 fun x32=>
 b9 x32 true x3 L27 fun x33 L35=>
 b9 x32 true x5 L35 fun x36 L38=>
 wg x32 true (W.idx 1 x33 x36 L38) L38 fun x39 L41=>
 wg x32 true (wl x39 L41) L41 fun x43 L45=>
 b9 x32 true x4 L45 fun x47 L49=>
 wg x32 true (wb .eql 3 x43 x47) L49 fun x50 L52=>
 W.pick x32 x50 (.bool false) fun x54=>
 wk x54 (
 Q x3 L52) (
 (zM Q L52 x3 x5 x4))
def qU(Q:R)(v0:Vs)(L2:SH)(n1:Kn):Prop:=
 ui 0 1 5 v0 fun x3 x4 x5=>
 W.len x3 fun x6=>
 wb .lss 3 x5 x6 fun x7=>
 b9 x7 true x3 L2 fun x8 L10=>
 b9 x7 true x5 L10 fun x11 L13=>
 wg x7 true (W.idx 1 x8 x11 L13) L13 fun x14 L16=>
 wg x7 true (wl x14 L16) L16 fun x18 L20=>
 b9 x7 true x4 L20 fun x22 L24=>
 wg x7 true (wb .lss 3 x18 x22) L24 fun x25 L27=>
 W.pick x7 x25 (.bool false) fun x29=>
 wk x29 (
 wb .add 3 x5 (.int .i64 1) fun x30=>
 n1 [x3,x4,x30] L27) (
 (zN Q L27 x3 x5 x4))
def tZ(t0 t1:AV)(L:SH)(Q:R):Prop:=
 W.loop (qU Q) [t0,t1,(.int .i64 0)] L
theorem zO(t0 t1:AV)(L:SH)(Q:R)(h:tZ t0 t1 L Q):aj Tryz.prog 50 [t0,t1] L Q:=
 bx ⟨fun _=>none,fun k=>if k=2 then [0,1,5]else [],fun _=>[],fun _=>[]⟩ Tryz.func50 (by kernel_rfl) (by kernel_rfl) h
def wL(n1:Kn)(x6 x3 x4 x11:AV)(L12:SH):Prop:=
 wb .add 3 x6 (.int .i64 1) fun x13=>
 n1 [x3,x4,x11,x13] L12
def wM(n15:Kn)(x19 x17 x24:AV)(L25:SH):Prop:=
 wb .add 3 x19 (.int .i64 1) fun x26=>
 n15 [x17,x24,x26] L25
def kB(Q:R)(v14:Vs)(L16:SH)(n15:Kn):Prop:=
 ui 1 5 7 v14 fun x17 x18 x19=>
 W.len x17 fun x20=>
 wb .lss 3 x19 x20 fun x21=>
 wk x21 (
 BL 1 x17 x19 L16 fun x23=>
 wc (.fn 50 []) [x18,x23] L16 (wM n15 x19 x17)) (
 Q x18 L16)
def kC(Q:R)(v0:Vs)(L2:SH)(n1:Kn):Prop:=
 DU 0 1 5 6 v0 fun x3 x4 x5 x6=>
 W.len x3 fun x7=>
 wb .lss 3 x6 x7 fun x8=>
 wk x8 (
 BL 1 x3 x6 L2 fun x10=>
 wc (.fn 50 []) [x5,x10] L2 (wL n1 x6 x3 x4)) (
 W.loop (kB Q) [x4,x5,(.int .i64 0)] L2)
def m3(t0 t1:AV)(L:SH)(Q:R):Prop:=
 W.loop (kC Q) [t0,t1,.nils,(.int .i64 0)] L
theorem wN(t0 t1:AV)(L:SH)(Q:R)(h:m3 t0 t1 L Q):aj Tryz.prog 36 [t0,t1] L Q:=
 bx ⟨fun _=>none,fun k=>if k=3 then [0,1,5,6]else if k=7 then [1,5,7]else [],fun _=>[],fun _=>[]⟩ Tryz.func36 (by kernel_rfl) (by kernel_rfl) h
def yd(n28:Kn)(L29:SH)(x32 x30 x33 x31:AV):Prop:=
 (true=true)∧(
 aY 2 x32 [] 1 L29 fun x39 r40=>
 W.calm [rm 1 r40] ⟨2,[],[],[],false,[]⟩ (
 W.bslice 1 [(.int .i64 0)] 0 [] L29 fun x41 L42=>
 wn [] [] (ac x41) [] fun r43=>
 aY 2 x30 [rm 2 r43,rm 1 r40] 4 L42 fun x45 r46=>
 di [rm 2 r43,rm 1 r40] 6 1 x45 x33 L42 fun x47 r48=>
 dl [rm 2 r43,rm 1 r40] 7 x47 L42 fun x49 r50=>
 W.calm [rm 1 r40] ⟨8,(ac x41++ac x49),(ac x41),[],false,[]⟩ (
 W.append 1 8 x41 x49 L42 fun x51 L52=>
 wn (ac x41++ac x49) (ac x41) (ac x51) [] fun r53=>
 W.calm [rm 1 r40] ⟨9,[],[],[],false,[]⟩ (
 W.bslice 1 [.nils] 1 [(0,x51)] L52 fun x54 L55=>
 wn [] [] (ac x54) [] fun r56=>
 W.calm [] ⟨10,(ac x39++ac x54),(ac x39),[],false,[]⟩ (
 W.append 1 24 x39 x54 L55 fun x57 L58=>
 wn (ac x39++ac x54) (ac x39) (ac x57) [] fun r59=>
 W.faddr 2 x32 fun x60=>
 ds [] 12 1 x60 x57 L58 fun L61 r62=>
 wb .add 3 x33 (.int .i64 1) fun x63=>
 n28 [x30,x31,x32,x63] L61)))))
def m4(Q:R)(v27:Vs)(L29:SH)(n28:Kn):Prop:=
 DU 1 2 3 4 v27 fun x30 x31 x32 x33=>
 bf 2 x30 L29 fun x35=>
 W.len x35 fun x36=>
 wb .lss 3 x33 x36 fun x37=>
 wk x37 (
 (yd n28 L29 x32 x30 x33 x31)) (
 c7 4 x32 L29 fun x64=>
 W.store 4 x31 x64 L29 fun L65=>
 W.load true 4 x31 L65 fun x66=>
 Q x66 L65)
def qV(t0:AV)(L:SH)(Q:R):Prop:=
 W.box t0 L fun x0 L1=>
 W.alloc [(.int .i64 0),.nils,.nils,(.int .i64 0)] L1 fun x2 L3=>
 W.frz1 x0 L3 fun x4 L5=>
 (true=true)∧(
 aY 0 x4 [] 1 L5 fun x7 r8=>
 aY 3 x4 [rm 1 r8] 3 L5 fun x10 r11=>
 W.calm [rm 3 r11,rm 1 r8] ⟨4,[],[],[],false,[]⟩ (
 W.bslice 1 [(.int .i64 0)] 0 [] L5 fun x12 L13=>
 wn [] [] (ac x12) [] fun r14=>
 aY 1 x4 [rm 4 r14,rm 3 r11,rm 1 r8] 6 L13 fun x16 r17=>
 W.calm [rm 3 r11,rm 1 r8] ⟨7,(ac x12++ac x16),(ac x12),[],false,[]⟩ (
 W.append 1 8 x12 x16 L13 fun x18 L19=>
 wn (ac x12++ac x16) (ac x12) (ac x18) [] fun r20=>
 W.build [(.int .i64 0),.nils,.nils,(.int .i64 0)] [(0,1,x7),(3,1,x10),(1,1,x18)] fun x21=>
 W.calm [rm 7 r20,rm 6 r17,rm 4 r14,rm 3 r11,rm 1 r8] ⟨9,[],[],[],false,[]⟩ (
 W.alloc [(.int .i64 0),.nils,.nils,(.int .i64 0)] L19 fun x22 L23=>
 wn [] [] (ac x22) [] fun r24=>
 ds [] 10 4 x22 x21 L23 fun L25 r26=>
 W.loop (m4 Q) [x4,x2,x22,(.int .i64 0)] L25))))
theorem ye(t0:AV)(L:SH)(Q:R)(h:qV t0 L Q):aj Tryz.prog 14 [t0] L Q:=
 bx ⟨fun _=>none,fun k=>if k=3 then [1,2,3,4]else [],fun k=>if k=0 then [1]else [],fun k=>if k=1 then [0,1,0,4,0,0,32,112,255,0,1023]else if k=5 then [0,1,0,0,8,0,56,120,252,508,1023,2047,4095]else []⟩ Tryz.func14 (by kernel_rfl) (by kernel_rfl) h
def iT(t0:AV)(L:SH)(Q:R):Prop:=
 wb .lss 2 t0 (.int .i64 1) fun x0=>
 b9 x0 false t0 L fun x1 L3=>
 wg x0 false (wb .gtr 2 x1 (.int .i64 100)) L3 fun x4 L6=>
 W.pick x0 (.bool true) x4 fun x8=>
 wk x8 (
 Q (.int .i64 0) L6) (
 Q t0 L6)
theorem qW(t0:AV)(L:SH)(Q:R)(h:iT t0 L Q):aj Tryz.prog 34 [t0] L Q:=
 bx ⟨fun _=>none,fun _=>[],fun _=>[],fun _=>[]⟩ Tryz.func34 (by kernel_rfl) (by kernel_rfl) h
def yf(Q:R)(L65:SH)(x16:AV):Prop:=
 W.build [(.int .i64 0),.nils,.nils,(.int .i64 0)] [] fun x68=>
 W.store 4 x16 x68 L65 fun L69=>
 W.load true 4 x16 L69 fun x70=>
 Q (.tup [x70,(.bool false)]) L69
def yg(Q:R)(n12:Kn)(L13:SH)(x17 x18 x15 x16 x14:AV):Prop:=
 (true=true)∧(
 di [] 2 1 x17 x18 L13 fun x21 r22=>
 dl [] 3 x21 L13 fun x23 r24=>
 wb .lss 3 x23 (.int .i64 0) fun x25=>
 W.dgrd x25 false (fun k27=>k27 x17 L13 rz) L13 fun x26 L29 r28=>
 W.dgrd x25 false (fun k31=>k31 x18 L29 rz) L29 fun x30 L33 r32=>
 W.dgrd x25 false (fun k35=>di [] 8 1 x26 x30 L33 fun x38 r39=>
 k35 x38 L33 r39) L33 fun x34 L37 r36=>
 W.dgrd x25 false (fun k41=>dl [] 9 x34 L37 fun x44 r45=>
 k41 x44 L37 r45) L37 fun x40 L43 r42=>
 W.dgrd x25 false (fun k47=>W.faddr 1 x15 fun x50=>
 k47 x50 L43 rz) L43 fun x46 L49 r48=>
 W.dgrd x25 false (fun k52=>dl [rm 9 r42,rm 8 r36] 11 x46 L49 fun x55 r56=>
 k52 x55 L49 r56) L49 fun x51 L54 r53=>
 W.dgrd x25 false (fun k58=>W.len x51 fun x61=>
 k58 x61 L54 rz) L54 fun x57 L60 r59=>
 W.dgrd x25 false (fun k63=>wb .geq 3 x40 x57 fun x66=>
 k63 x66 L60 rz) L60 fun x62 L65 r64=>
 W.pick x25 (.bool true) x62 fun x67=>
 wk x67 (
 (yf Q L65 x16)) (
 wb .add 3 x18 (.int .i64 1) fun x71=>
 n12 [x14,x15,x16,x17,x71] L65))
def dZ(Q:R)(v72:Vs)(L74:SH):Prop:=
 HI 2 3 4 8 9 10 v72 fun x75 x76 x77 x78 x79 x80=>
 (true=true)∧(
 aY 1 x76 [] 1 L74 fun x82 r83=>
 aY 1 x75 [rm 1 r83] 3 L74 fun x85 r86=>
 aY 2 x76 [rm 3 r86,rm 1 r83] 5 L74 fun x88 r89=>
 aY 1 x75 [rm 5 r89,rm 3 r86,rm 1 r83] 7 L74 fun x91 r92=>
 W.calm [rm 7 r92,rm 5 r89,rm 3 r86,rm 1 r83] ⟨9,[],[],[],false,[]⟩ (
 W.bslice 1 [(.int .i64 0)] 0 [] L74 fun x93 L94=>
 wn [] [] (ac x93) [] fun r95=>
 W.calm [rm 7 r92,rm 5 r89,rm 3 r86,rm 1 r83] ⟨11,(ac x93++ac x80),(ac x93),[],false,[]⟩ (
 W.append 1 8 x93 x80 L94 fun x96 L97=>
 wn (ac x93++ac x80) (ac x93) (ac x96) [] fun r98=>
 di [rm 7 r92,rm 5 r89] 12 1 x82 x85 L97 fun x99 r100=>
 ds [rm 7 r92,rm 5 r89] 13 1 x99 x78 L97 fun L101 r102=>
 di [] 14 1 x88 x91 L101 fun x103 r104=>
 ds [] 15 1 x103 x96 L101 fun L105 r106=>
 bf 0 x76 L105 fun x108=>
 wb .add 3 x108 (.int .i64 1) fun x109=>
 W.faddr 0 x76 fun x110=>
 W.store 1 x110 x109 L105 fun L111=>
 c7 4 x76 L111 fun x112=>
 W.store 4 x77 x112 L111 fun L113=>
 W.load true 4 x77 L113 fun x114=>
 Q (.tup [x114,x79]) L113)))
def yh(Q:R)(L13:SH)(x14 x15 x16:AV):Prop:=
 bf 1 x14 L13 fun x119=>
 W.faddr 0 x15 fun x120=>
 W.store 1 x120 x119 L13 fun L121=>
 c7 4 x15 L121 fun x122=>
 W.store 4 x16 x122 L121 fun L123=>
 W.load true 4 x16 L123 fun x124=>
 Q (.tup [x124,(.bool true)]) L123
def yi(j73:Kn)(L13:SH)(x15 x14 x16:AV):Prop:=
 (true=true)∧(
 aY 1 x15 [] 1 L13 fun x130 r131=>
 aY 2 x14 [rm 1 r131] 3 L13 fun x133 r134=>
 di [] 4 1 x130 x133 L13 fun x135 r136=>
 dl [] 5 x135 L13 fun x137 r138=>
 aY 2 x15 [rm 5 r138,rm 4 r136,rm 3 r134,rm 1 r131] 7 L13 fun x140 r141=>
 aY 2 x14 [rm 7 r141,rm 5 r138,rm 4 r136,rm 3 r134,rm 1 r131] 9 L13 fun x143 r144=>
 di [rm 5 r138,rm 4 r136,rm 3 r134,rm 1 r131] 10 1 x140 x143 L13 fun x145 r146=>
 dl [rm 5 r138,rm 4 r136,rm 3 r134,rm 1 r131] 11 x145 L13 fun x147 r148=>
 j73 [x14,x15,x16,x137,(.bool true),x147] L13)
def yj(j73:Kn)(L155:SH)(x15 x14 x16 x167:AV)(L169:SH)(q168:Ns):Prop:=
 wn [] q168 [] L155.names fun r170=>
 W.ext 0 x167 fun x171=>
 W.ext 1 x167 fun x172=>
 bf 2 x15 L169 fun x174=>
 bf 2 x14 L169 fun x176=>
 BL 1 x174 x176 L169 fun x178=>
 j73 [x14,x15,x16,x171,x172,x178] L169
def yk(j73:Kn)(L13:SH)(x15 x14 x16:AV)(r152:Fp)(x153:AV)(L155:SH)(q154:Ns):Prop:=
 wn [] q154 [] L13.names fun r156=>
 aY 1 x15 [rc 2 r156,rm 1 r152] 4 L155 fun x158 r159=>
 aY 2 x14 [rm 4 r159,rc 2 r156,rm 1 r152] 6 L155 fun x161 r162=>
 di [rc 2 r156,rm 1 r152] 7 1 x158 x161 L155 fun x163 r164=>
 dl [rc 2 r156,rm 1 r152] 8 x163 L155 fun x165 r166=>
 wd [] 9 (.fn 33 []) [x153,x165] L155 (yj j73 L155 x15 x14 x16)
def yl(j73:Kn)(L208:SH)(x14 x15 x16 x210 x211 x232:AV)(L234:SH)(q233:Ns):Prop:=
 wn [] q233 [] L208.names fun r235=>
 j73 [x14,x15,x16,x210,x211,x232] L234
def ym(j73:Kn)(L184:SH)(x15 x14 x16 x206:AV)(L208:SH)(q207:Ns):Prop:=
 wn [] q207 [] L184.names fun r209=>
 W.ext 0 x206 fun x210=>
 W.ext 1 x206 fun x211=>
 (true=true)∧(
 aY 2 x15 [] 1 L208 fun x213 r214=>
 aY 2 x14 [rm 1 r214] 3 L208 fun x216 r217=>
 di [] 4 1 x213 x216 L208 fun x218 r219=>
 dl [] 5 x218 L208 fun x220 r221=>
 aY 2 x15 [rm 5 r221,rm 4 r219,rm 3 r217,rm 1 r214] 7 L208 fun x223 r224=>
 aY 3 x14 [rm 7 r224,rm 5 r221,rm 4 r219,rm 3 r217,rm 1 r214] 9 L208 fun x226 r227=>
 di [rm 5 r221,rm 4 r219,rm 3 r217,rm 1 r214] 10 1 x223 x226 L208 fun x228 r229=>
 dl [rm 5 r221,rm 4 r219,rm 3 r217,rm 1 r214] 11 x228 L208 fun x230 r231=>
 wd [] 12 (.fn 36 []) [x220,x230] L208 (yl j73 L208 x14 x15 x16 x210 x211))
def yn(j73:Kn)(L13:SH)(x15 x14 x16:AV)(r181:Fp)(x182:AV)(L184:SH)(q183:Ns):Prop:=
 wn [] q183 [] L13.names fun r185=>
 aY 1 x15 [rc 2 r185,rm 1 r181] 4 L184 fun x187 r188=>
 aY 2 x14 [rm 4 r188,rc 2 r185,rm 1 r181] 6 L184 fun x190 r191=>
 di [rc 2 r185,rm 1 r181] 7 1 x187 x190 L184 fun x192 r193=>
 dl [rc 2 r185,rm 1 r181] 8 x192 L184 fun x194 r195=>
 aY 1 x15 [rm 8 r195,rm 7 r193,rm 6 r191,rm 4 r188,rc 2 r185,rm 1 r181] 10 L184 fun x197 r198=>
 aY 3 x14 [rm 10 r198,rm 8 r195,rm 7 r193,rm 6 r191,rm 4 r188,rc 2 r185,rm 1 r181] 12 L184 fun x200 r201=>
 di [rm 8 r195,rm 7 r193,rm 6 r191,rm 4 r188,rc 2 r185,rm 1 r181] 13 1 x197 x200 L184 fun x202 r203=>
 dl [rm 8 r195,rm 7 r193,rm 6 r191,rm 4 r188,rc 2 r185,rm 1 r181] 14 x202 L184 fun x204 r205=>
 wd [] 15 (.fn 35 []) [x182,x194,x204] L184 (ym j73 L184 x15 x14 x16)
def yo(j73:Kn)(L13:SH)(x116 x14 x15 x16:AV):Prop:=
 wb .eql 3 x116 (.int .i64 3) fun x149=>
 wk x149 (
 (true=true)∧(
 aY 4 x14 [] 1 L13 fun x151 r152=>
 wd [] 2 (.fn 34 []) [x151] L13 (yk j73 L13 x15 x14 x16 r152))) (
 (true=true)∧(
 aY 4 x14 [] 1 L13 fun x180 r181=>
 wd [] 2 (.fn 34 []) [x180] L13 (yn j73 L13 x15 x14 x16 r181)))
def yp(j73:Kn)(L13:SH)(x116 x14 x15 x16:AV):Prop:=
 wb .eql 3 x116 (.int .i64 1) fun x125=>
 wk x125 (
 bf 4 x14 L13 fun x127=>
 j73 [x14,x15,x16,x127,(.bool true),.nils] L13) (
 wb .eql 3 x116 (.int .i64 2) fun x128=>
 wk x128 (
 (yi j73 L13 x15 x14 x16)) (
 (yo j73 L13 x116 x14 x15 x16)))
def cN(Q:R)(L13:SH)(x14 x15 x16:AV):Prop:=
 W.join (dZ Q) fun j73=>
 bf 0 x14 L13 fun x116=>
 wb .eql 3 x116 (.int .i64 5) fun x117=>
 wk x117 (
 (yh Q L13 x14 x15 x16)) (
 (yp j73 L13 x116 x14 x15 x16))
def iB(Q:R)(v11:Vs)(L13:SH)(n12:Kn):Prop:=
 B5 2 3 4 6 7 v11 fun x14 x15 x16 x17 x18=>
 W.len x17 fun x19=>
 wb .lss 3 x18 x19 fun x20=>
 wk x20 (
 (yg Q n12 L13 x17 x18 x15 x16 x14)) (
 (cN Q L13 x14 x15 x16))
def yq(Q:R)(x6 x2 x4 x9:AV)(L10:SH):Prop:=
 W.loop (iB Q) [x6,x2,x4,x9,(.int .i64 0)] L10
def dG(t0 t1:AV)(L:SH)(Q:R):Prop:=
 W.box t0 L fun x0 L1=>
 W.box t1 L1 fun x2 L3=>
 W.alloc [(.int .i64 0),.nils,.nils,(.int .i64 0)] L3 fun x4 L5=>
 W.frz1 x0 L5 fun x6 L7=>
 c7 6 x6 L7 fun x8=>
 wc (.fn 21 []) [x8] L7 (yq Q x6 x2 x4)
theorem ee(t0 t1:AV)(L:SH)(Q:R)(h:dG t0 t1 L Q):aj Tryz.prog 15 [t0,t1] L Q:=
 bx ⟨fun k=>if k=11 then some [2,3,4,8,9,10]else none,fun k=>if k=3 then [2,3,4,6,7]else [],fun k=>if k=0 then [2]else [],fun k=>if k=5 then [0,0,3,7,15,31,63,63,255,511,63,1087,3135,8191,16383]else if k=18 then [0,1,0,4,15,31,0,64,0,256,960,1984,63,8191]else if k=20 then [0,1,3,0,8,0,32,120,248,511,1023,2047,2047,4095,16383]else if k=10 then [0,1,3,0,8,0,32,120,248,0,512,0,2048,7680,15872,32767,65535,131071,131071,262143,1048575]else if k=11 then [0,1,0,4,15,31,0,64,0,256,960,1984,4095,8191]else if k=22 then [0,1,0,4,0,16,0,64,0,0,0,1536,3855,7951,16383,32767]else []⟩ Tryz.func15 (by kernel_rfl) (by kernel_rfl) h
def uC(Q:R)(L36:SH)(x4:AV):Prop:=
 W.build [(.int .i64 0),.nils,.nils,(.int .i64 0)] [] fun x39=>
 W.store 4 x4 x39 L36 fun L40=>
 W.load true 4 x4 L40 fun x41=>
 Q (.tup [x41,(.bool false)]) L40
def uD(Q:R)(L82:SH)(x51:AV):Prop:=
 W.build [(.int .i64 0),.nils,.nils,(.int .i64 0)] [] fun x85=>
 W.store 4 x51 x85 L82 fun L86=>
 W.load true 4 x51 L86 fun x87=>
 Q (.tup [x87,(.bool false)]) L86
def uE(Q:R)(L102:SH)(x51:AV):Prop:=
 W.build [(.int .i64 0),.nils,.nils,(.int .i64 0)] [] fun x111=>
 W.store 4 x51 x111 L102 fun L112=>
 W.load true 4 x51 L112 fun x113=>
 Q (.tup [x113,(.bool false)]) L112
def uF(Q:R)(L124:SH)(x51:AV):Prop:=
 W.build [(.int .i64 0),.nils,.nils,(.int .i64 0)] [] fun x126=>
 W.store 4 x51 x126 L124 fun L127=>
 W.load true 4 x51 L127 fun x128=>
 Q (.tup [x128,(.bool false)]) L127
def uG(Q:R)(n47:Kn)(x51 x50 x52 x49 x116:AV)(L117:SH):Prop:=
 W.ext 0 x116 fun x118=>
 W.ext 1 x116 fun x119=>
 xW [(.int .i64 0),.nils,.nils,(.int .i64 0)] 4 x118 L117 fun x123 L124=>
 W.un .not x119 fun x125=>
 wk x125 (
 (uF Q L124 x51)) (
 c7 4 x123 L124 fun x129=>
 W.store 4 x50 x129 L124 fun L130=>
 wb .add 3 x52 (.int .i64 1) fun x131=>
 n47 [x49,x50,x51,x131] L130)
def uH(Q:R)(n47:Kn)(L102:SH)(x49 x52 x51 x97 x50:AV):Prop:=
 bf 1 x49 L102 fun x108=>
 W.len x108 fun x109=>
 wb .eql 3 x52 x109 fun x110=>
 wk x110 (
 (uE Q L102 x51)) (
 c7 6 x97 L102 fun x114=>
 c7 4 x50 L102 fun x115=>
 wc (.fn 15 []) [x114,x115] L102 (uG Q n47 x51 x50 x52 x49))
def uI(Q:R)(n47:Kn)(x50 x51 x49 x52 x97 x101:AV)(L102:SH):Prop:=
 W.un .not x101 fun x103=>
 wk x103 (
 c7 4 x50 L102 fun x104=>
 W.store 4 x51 x104 L102 fun L105=>
 W.load true 4 x51 L105 fun x106=>
 Q (.tup [x106,(.bool true)]) L105) (
 (uH Q n47 L102 x49 x52 x51 x97 x50))
def uJ(Q:R)(n47:Kn)(L82:SH)(x49 x50 x51 x52:AV):Prop:=
 bf 1 x49 L82 fun x89=>
 bf 0 x50 L82 fun x91=>
 uh 6 x89 x91 L82 fun x93=>
 xW [(.int .i64 0),(.int .i64 0),(.int .i64 0),(.int .i64 0),(.int .i64 0),(.int .i64 0)] 6 x93 L82 fun x97 L98=>
 bf 0 x97 L98 fun x100=>
 wc (.fn 9 []) [x100] L98 (uI Q n47 x50 x51 x49 x52 x97)
def uK(Q:R)(n47:Kn)(L48:SH)(x50 x49 x51 x52:AV):Prop:=
 bf 0 x50 L48 fun x58=>
 wb .lss 3 x58 (.int .i64 0) fun x59=>
 wg x59 false (W.faddr 0 x50) L48 fun x60 L62=>
 wg x59 false (wl x60 L62) L62 fun x64 L66=>
 wg x59 false (W.faddr 1 x49) L66 fun x68 L70=>
 wg x59 false (wl x68 L70) L70 fun x72 L74=>
 wg x59 false (W.len x72) L74 fun x76 L78=>
 wg x59 false (wb .geq 3 x64 x76) L78 fun x80 L82=>
 W.pick x59 (.bool true) x80 fun x84=>
 wk x84 (
 (uD Q L82 x51)) (
 (uJ Q n47 L82 x49 x50 x51 x52))
def uL(Q:R)(L48:SH)(x51:AV):Prop:=
 W.build [(.int .i64 0),.nils,.nils,(.int .i64 0)] [] fun x132=>
 W.store 4 x51 x132 L48 fun L133=>
 W.load true 4 x51 L133 fun x134=>
 Q (.tup [x134,(.bool false)]) L133
def fF(Q:R)(v46:Vs)(L48:SH)(n47:Kn):Prop:=
 DU 2 3 4 6 v46 fun x49 x50 x51 x52=>
 bf 1 x49 L48 fun x54=>
 W.len x54 fun x55=>
 wb .leq 3 x52 x55 fun x56=>
 wk x56 (
 (uK Q n47 L48 x50 x49 x51 x52)) (
 (uL Q L48 x51))
def uM(Q:R)(x2 x6 x4 x43:AV)(L44:SH):Prop:=
 W.store 4 x2 x43 L44 fun L45=>
 W.loop (fF Q) [x6,x2,x4,(.int .i64 0)] L45
def kD(t0 t1:AV)(L:SH)(Q:R):Prop:=
 W.box t0 L fun x0 L1=>
 W.box t1 L1 fun x2 L3=>
 W.alloc [(.int .i64 0),.nils,.nils,(.int .i64 0)] L3 fun x4 L5=>
 W.frz1 x0 L5 fun x6 L7=>
 bf 1 x2 L7 fun x9=>
 W.len x9 fun x10=>
 bf 0 x6 L7 fun x12=>
 wb .neq 3 x10 x12 fun x13=>
 wg x13 false (W.faddr 2 x2) L7 fun x14 L16=>
 wg x13 false (wl x14 L16) L16 fun x18 L20=>
 wg x13 false (W.len x18) L20 fun x22 L24=>
 wg x13 false (W.faddr 0 x6) L24 fun x26 L28=>
 wg x13 false (wl x26 L28) L28 fun x30 L32=>
 wg x13 false (wb .neq 3 x22 x30) L32 fun x34 L36=>
 W.pick x13 (.bool true) x34 fun x38=>
 wk x38 (
 (uC Q L36 x4)) (
 c7 4 x2 L36 fun x42=>
 wc (.fn 14 []) [x42] L36 (uM Q x2 x6 x4))
theorem uN(t0 t1:AV)(L:SH)(Q:R)(h:kD t0 t1 L Q):aj Tryz.prog 7 [t0,t1] L Q:=
 bx ⟨fun _=>none,fun k=>if k=5 then [2,3,4,6]else [],fun k=>if k=0 then [2]else if k=9 then [7]else if k=14 then [8]else [],fun _=>[]⟩ Tryz.func7 (by kernel_rfl) (by kernel_rfl) h
def lG(Q:R)(n93:Kn)(L94:SH)(x95 x97 x96:AV):Prop:=
 (true=true)∧(
 aY 1 x95 [] 1 L94 fun x103 r104=>
 di [] 3 1 x103 x97 L94 fun x105 r106=>
 dl [] 4 x105 L94 fun x107 r108=>
 aY 1 x96 [rm 4 r108,rm 3 r106,rm 1 r104] 6 L94 fun x110 r111=>
 di [rm 4 r108,rm 3 r106,rm 1 r104] 8 1 x110 x97 L94 fun x112 r113=>
 dl [rm 4 r108,rm 3 r106,rm 1 r104] 9 x112 L94 fun x114 r115=>
 wb .neq 2 x107 x114 fun x116=>
 wk x116 (
 Q (.bool false) L94) (
 wb .add 3 x97 (.int .i64 1) fun x117=>
 n93 [x95,x96,x117] L94))
def lH(Q:R)(n119:Kn)(L120:SH)(x123 x121 x122 x142:AV)(L144:SH)(q143:Ns):Prop:=
 wn [] q143 [] L120.names fun r145=>
 W.un .not x142 fun x146=>
 wk x146 (
 Q (.bool false) L144) (
 wb .add 3 x123 (.int .i64 1) fun x147=>
 n119 [x121,x122,x147] L144)
def lI(Q:R)(n119:Kn)(L120:SH)(x121 x123 x122:AV):Prop:=
 (true=true)∧(
 aY 2 x121 [] 1 L120 fun x129 r130=>
 di [] 3 1 x129 x123 L120 fun x131 r132=>
 dl [] 4 x131 L120 fun x133 r134=>
 aY 2 x122 [rm 4 r134,rm 3 r132,rm 1 r130] 6 L120 fun x136 r137=>
 di [rm 4 r134,rm 3 r132,rm 1 r130] 8 1 x136 x123 L120 fun x138 r139=>
 dl [rm 4 r134,rm 3 r132,rm 1 r130] 9 x138 L120 fun x140 r141=>
 wd [] 10 (.fn 16 []) [x133,x140] L120 (lH Q n119 L120 x123 x121 x122))
def fL(Q:R)(v118:Vs)(L120:SH)(n119:Kn):Prop:=
 ui 2 3 6 v118 fun x121 x122 x123=>
 bf 2 x121 L120 fun x125=>
 W.len x125 fun x126=>
 wb .lss 3 x123 x126 fun x127=>
 wk x127 (
 (lI Q n119 L120 x121 x123 x122)) (
 Q (.bool true) L120)
def fM(Q:R)(v92:Vs)(L94:SH)(n93:Kn):Prop:=
 ui 2 3 5 v92 fun x95 x96 x97=>
 bf 1 x95 L94 fun x99=>
 W.len x99 fun x100=>
 wb .lss 3 x97 x100 fun x101=>
 wk x101 (
 (lG Q n93 L94 x95 x97 x96)) (
 W.loop (fL Q) [x95,x96,(.int .i64 0)] L94)
def gt(t0 t1:AV)(L:SH)(Q:R):Prop:=
 W.box t0 L fun x0 L1=>
 W.box t1 L1 fun x2 L3=>
 W.frz1 x0 L3 fun x4 L5=>
 W.frz1 x2 L5 fun x6 L7=>
 bf 0 x4 L7 fun x9=>
 bf 0 x6 L7 fun x11=>
 wb .neq 3 x9 x11 fun x12=>
 wg x12 false (W.faddr 3 x4) L7 fun x13 L15=>
 wg x12 false (wl x13 L15) L15 fun x17 L19=>
 wg x12 false (W.faddr 3 x6) L19 fun x21 L23=>
 wg x12 false (wl x21 L23) L23 fun x25 L27=>
 wg x12 false (wb .neq 3 x17 x25) L27 fun x29 L31=>
 W.pick x12 (.bool true) x29 fun x33=>
 wg x33 false (W.faddr 1 x4) L31 fun x34 L36=>
 wg x33 false (wl x34 L36) L36 fun x38 L40=>
 wg x33 false (W.len x38) L40 fun x42 L44=>
 wg x33 false (W.faddr 1 x6) L44 fun x46 L48=>
 wg x33 false (wl x46 L48) L48 fun x50 L52=>
 wg x33 false (W.len x50) L52 fun x54 L56=>
 wg x33 false (wb .neq 3 x42 x54) L56 fun x58 L60=>
 W.pick x33 (.bool true) x58 fun x62=>
 wg x62 false (W.faddr 2 x4) L60 fun x63 L65=>
 wg x62 false (wl x63 L65) L65 fun x67 L69=>
 wg x62 false (W.len x67) L69 fun x71 L73=>
 wg x62 false (W.faddr 2 x6) L73 fun x75 L77=>
 wg x62 false (wl x75 L77) L77 fun x79 L81=>
 wg x62 false (W.len x79) L81 fun x83 L85=>
 wg x62 false (wb .neq 3 x71 x83) L85 fun x87 L89=>
 W.pick x62 (.bool true) x87 fun x91=>
 wk x91 (
 Q (.bool false) L89) (
 W.loop (fM Q) [x4,x6,(.int .i64 0)] L89)
theorem lJ(t0 t1:AV)(L:SH)(Q:R)(h:gt t0 t1 L Q):aj Tryz.prog 8 [t0,t1] L Q:=
 bx ⟨fun _=>none,fun k=>if k=4 then [2,3,5]else if k=9 then [2,3,6]else [],fun k=>if k=0 then [2,3]else [],fun k=>if k=6 then [0,1,0,7,15,0,32,0,224,480,1023]else if k=11 then [0,1,0,7,15,0,32,0,224,480,1023,2047]else []⟩ Tryz.func8 (by kernel_rfl) (by kernel_rfl) h
end Go.Proofs.YtljkdffikfkcgaaGreat.Am
end
section
namespace Go.Proofs.YtljkdffikfkcgaaGreat.Am
set_option maxRecDepth 100000
set_option linter.unusedSimpArgs false
set_option linter.unusedVariables false
set_option linter.unusedSectionVars false
theorem zc{k:IntKind}{m d:Nat}:cf (some (.int k (m:Int))) d=some m:=by simp[cf,jI]
theorem qX{α:Type}{f:α→List AV}{l:List α}{n i:Nat}{k:IntKind}{L:SH}{K:AV→Prop}(hn:∀x,(f x).length=n)(hi:i≤l.length)(h:K (.lst ((l.take i).map f))):W.slice n (.lst (l.map f)) none (some (.int k (i:Int))) none L K:=by
 refine sL (l:=0) (h:=i) rfl zc (Nat.zero_le _) (by simpa using hi) (fun r hr=>?_) ?_
 ·cases l with
  | nil=>cases hr
  | cons x l=>simp at hr;rw[←hr];exact hn x
 ·rw[List.drop_zero,Nat.sub_zero,←List.map_take];exact h
theorem qY{α:Type}{f:α→List AV}{l:List α}{n i:Nat}{k:IntKind}{L:SH}{K:AV→Prop}(hn:∀x,(f x).length=n)(hi:i≤l.length)(h:K (.lst ((l.drop i).map f))):W.slice n (.lst (l.map f)) (some (.int k (i:Int))) none none L K:=by
 refine sL (l:=i) (h:=(l.map f).length) zc rfl (by simpa using hi) (Nat.le_refl _) (fun r hr=>?_) ?_
 ·cases l with
  | nil=>cases hr
  | cons x l=>simp at hr;rw[←hr];exact hn x
 ·rw[List.take_of_length_le (by simp),←List.map_drop];exact h
theorem Bh{b bX i k n by_:Nat}{rows m:List (List AV)}{L L':SH}{KL:AV→SH→Prop}(hX:(bX,(⟨n,m⟩:Blk))∈L)(hd:dE b ⟨n,rows⟩ L L')(hr:rows.length=i)(hk:k=m.length)(h2:2*(i+m.length)*by_≤2^48)(h3:2*(i+m.length)≤2^62)(h4:(m.all fun r=>r.all AV.one)=true)
  (h:∀b',b'∉L.names→KL (.sl b' 0 (i+m.length)) ((b',⟨n,rows++m⟩)::L')):W.append n by_ (.sl b 0 i) (.sl bX 0 k) L KL:=by
 subst hk
 subst hr
 exact lm (y:=⟨n,rows⟩) (l:=rows) hd.mem' rfl (by simp) (by simp) (qv hX rfl rfl) h2 h3 h4 hd (fun b' hb=>h b' hb)
def zP(l:List Int)(n:Int):List Int:=l.takeWhile fun x=>decide (x<n)
def hY(l:List Int)(n:Int):List Int:=l.dropWhile fun x=>decide (x<n)
def kE(l:List Int)(n:Int):List Int:=if(hY l n).head? =some n then l else zP l n++n::hY l n
theorem wO(l:List Int)(n:Int):zP l n++hY l n=l:=List.takeWhile_append_dropWhile
theorem zQ:∀(l:List Int) (n:Int) (i:Nat),(∀x∈l.take i,x<n)→(∀x,(l.drop i).head? =some x→¬x<n)→zP l n=l.take i∧hY l n=l.drop i
 | [],n,i,_,_=>by simp[zP,hY]
 | x::l,n,0,_,h2=>by
  have:¬x<n:=h2 x rfl
  simp[zP,hY,this]
 | x::l,n,i+1,h1,h2=>by
  have hx:x<n:=h1 x (by simp)
  obtain⟨e1,e2⟩:=zQ l n i (fun y hy=>h1 y (by simp[hy])) (fun y hy=>h2 y (by simpa using hy))
  unfold zP at e1 ⊢
  unfold hY at e2 ⊢
  simp[hx,e1,e2]
theorem C2(l:List Int)(n:Int)(hl:l.length<2^41):aD Tryz.prog 50 [.lst (l.map az),.int .i64 n] (.lst ((kE l n).map az)):=by
 refine aj.fz (zO _ _ _ _ ?_)
 unfold tZ
 generalize hQ:(fun(v:AV) (L:SH)=>∃v2 L2,aN [v] L [v2] L2∧v2=AV.lst ((kE l n).map az)∧L2=[])=Q
 refine sM l.length (fun i=>([.lst (l.map az),.int .i64 n,.int .i64 i],[])) (fun i=>∀x∈l.take i,x<n) (by simp) rfl rfl ?_
 intro i hi hG
 dsimp only
 unfold qU
 have fin:∀(b:Nat) (L:SH) (k:Nat),k=(l.take i).length+1+(l.drop i).length→zP l n=l.take i∧hY l n=l.drop i→¬(hY l n).head? =some n→(b,(⟨1,((l.take i).map az++[[.int .i64 n]])++(l.drop i).map az⟩:Blk))∈L→Q (.sl b 0 k) L:=fun b L k hk hlh hne hm=>by
  subst hQ
  have e:kE l n=l.take i++n::l.drop i:=by unfold kE;rw[if_neg hne,hlh.1,hlh.2]
  exact⟨_,[],aN.all (Fz.sls (l:=kE l n) hm (by rw[e];simp[az]) (by decide) (by rw[hk,e];simp;omega)),rfl,rfl⟩
 rcases Nat.lt_or_ge i l.length with g1 | g1
 ·have hd:=bW g1
  have hx:=aw (f:=az) g1
  have htk:l.take (i+1)=l.take i++[l[i]]:=List.take_succ_eq_append_getElem g1
  have hhd:(l.drop i).head? =some l[i]:=by rw[List.drop_eq_getElem_cons g1];rfl
  have hlt:(l.take i).length=i:=by simp;omega
  cases hc:decide (l[i]<n)with
  | true=>
   repeat' (first | refine st ?_ | refine sb (fun nb_ hnb_=>?_) | refine s2 (fun h=>?_) (fun h=>?_) | fail)
   exact⟨i+1,by omega,by omega,fun x hx=>by
    rw[htk]at hx
    rcases List.mem_append.1 hx with h | h
    ·exact hG x h
    ·simp at h;subst h;exact of_decide_eq_true hc,gh (by rw[bc g1 (by omega)]<;>rfl) rfl⟩
  | false=>
   have hlh:=zQ l n i hG (fun x hx=>by rw[hhd]at hx;cases hx;exact of_decide_eq_false hc)
   cases he:decide (l[i]=n)with
   | true=>
    repeat' (first | refine st ?_ | refine sb (fun nb_ hnb_=>?_) | refine s2 (fun h=>?_) (fun h=>?_) | fail)
    subst hQ
    have e:kE l n=l:=by unfold kE;rw[if_pos];rw[hlh.2,hhd,of_decide_eq_true he]
    exact⟨_,[],aN.all (.refl _),by rw[e]<;>rfl,rfl⟩
   | false=>
    have hne:¬(hY l n).head? =some n:=by rw[hlh.2,hhd];intro h;cases h;simp at he
    repeat' (first | refine st ?_ | refine qX (fun _=>rfl) (by omega) ?_ | refine qY (fun _=>rfl) (by omega) ?_ | refine iS rp (fun _=>rfl) (by simp) (by simp;omega) (by simp;omega) (fun _=>rfl) (fun nb_ hnb_=>?_) | refine Bh rp rp (by simp) (by rfl) (by simp;omega) (by simp;omega) (by rfl) (fun nb_ hnb_=>?_) | refine sb (fun nb_ hnb_=>?_) | refine s2 (fun h=>?_) (fun h=>?_) | fail)
    exact fin _ _ _ (by simp) hlh hne (by simp[ay])
 ·have hd:=cX g1
  have hi0:i=l.length:=by omega
  have hhd:(l.drop i).head? =none:=by rw[List.drop_eq_nil_of_le g1];rfl
  have hlh:=zQ l n i hG (fun x hx=>by rw[hhd]at hx;cases hx)
  have hne:¬(hY l n).head? =some n:=by rw[hlh.2,hhd];nofun
  repeat' (first | refine st ?_ | refine qX (fun _=>rfl) (by omega) ?_ | refine qY (fun _=>rfl) (by omega) ?_ | refine iS rp (fun _=>rfl) (by simp) (by simp;omega) (by simp;omega) (fun _=>rfl) (fun nb_ hnb_=>?_) | refine Bh rp rp (by simp) (by rfl) (by simp;omega) (by simp;omega) (by rfl) (fun nb_ hnb_=>?_) | refine sb (fun nb_ hnb_=>?_) | refine s2 (fun h=>?_) (fun h=>?_) | fail)
  exact fin _ _ _ (by simp) hlh hne (by simp[ay])
theorem E4(l:List Int)(n:Int):(kE l n).length≤l.length+1:=by
 unfold kE
 split
 ·omega
 ·have:=congrArg List.length (wO l n)
  simp only[List.length_append,List.length_cons]at this ⊢
  omega
theorem E5{l:List Int}{n:Int}(h:l.Pairwise (·<·)):(kE l n).Pairwise (·<·):=by
 unfold kE
 split
 ·exact h
 ·rename_i hne
  have hl:=wO l n
  rw[←hl]at h
  obtain⟨h1,h2,h3⟩:=List.pairwise_append.1 h
  have hlow:∀x∈zP l n,x<n:=fun x hx=>by
   unfold zP at hx
   have:=List.all_eq_true.1 (List.all_takeWhile (p:=fun x=>decide (x<n)) (l:=l)) x hx
   exact of_decide_eq_true this
  refine List.pairwise_append.2 ⟨h1,List.pairwise_cons.2 ⟨?_,h2⟩,?_⟩
  ·cases hh:hY l n with
   | nil=>intro y hy;cases hy
   | cons x r=>
    rw[hh]at hne h2
    have hx:¬x<n:=by
     have:(hY l n).head? =some x:=by rw[hh];rfl
     unfold hY at this
     have h0:=List.head?_dropWhile_not (p:=fun x=>decide (x<n)) l
     rw[this]at h0
     simpa using h0
    have hxn:x≠n:=fun e=>hne (by rw[e];rfl)
    intro y hy
    rcases List.mem_cons.1 hy with rfl | hy
    ·omega
    ·have:=(List.pairwise_cons.1 h2).1 y hy
     omega
  ·intro a ha b hb
   rcases List.mem_cons.1 hb with rfl | hb
   ·exact hlow a ha
   ·exact h3 a ha b hb
theorem E6{l:List Int}{n x:Int}:x∈kE l n↔x∈l∨x=n:=by
 unfold kE
 have hl:=wO l n
 split
 ·rename_i hh
  constructor
  ·exact .inl
  ·rintro(h | rfl)
   ·exact h
   ·rw[←hl]
    exact List.mem_append_right _ (List.mem_of_mem_head? hh)
 ·constructor
  ·intro h
   rcases List.mem_append.1 h with h | h
   ·left;rw[←hl];exact List.mem_append_left _ h
   ·rcases List.mem_cons.1 h with h | h
    ·exact .inr h
    ·left;rw[←hl];exact List.mem_append_right _ h
  ·rintro(h | rfl)
   ·rw[←hl]at h
    rcases List.mem_append.1 h with h | h
    ·exact List.mem_append_left _ h
    ·exact List.mem_append_right _ (List.mem_cons_of_mem _ h)
   ·exact List.mem_append_right _ List.mem_cons_self
def puts(l m:List Int):List Int:=m.foldl kE l
theorem Bi:∀(m:List Int) {l:List Int},l.Pairwise (·<·)→(puts l m).Pairwise (·<·)
 | [],_,h=>h
 | x::m,_,h=>Bi m (E5 h)
theorem Bj:∀(m:List Int) {l:List Int} {x:Int},x∈puts l m↔x∈l∨x∈m
 | [],l,x=>by simp[puts]
 | y::m,l,x=>by
  have:=Bj m (l:=kE l y) (x:=x)
  unfold puts at this ⊢
  rw[List.foldl_cons,this,E6]
  simp only[List.mem_cons]
  constructor
  ·rintro((h | h) | h)
   ·exact .inl h
   ·exact .inr (.inl h)
   ·exact .inr (.inr h)
  ·rintro(h | h | h)
   ·exact .inl (.inl h)
   ·exact .inl (.inr h)
   ·exact .inr h
theorem wP:∀(m l:List Int),(puts l m).length≤l.length+m.length
 | [],l=>by simp[puts]
 | y::m,l=>by
  have h1:=wP m (kE l y)
  have h2:=E4 l y
  unfold puts at h1 ⊢
  rw[List.foldl_cons,List.length_cons]
  omega
theorem GI(m:List Int):puts [] m=xX m:=GD (Bi m .nil) (CW m) fun x=>by rw[Bj,zJ];simp
theorem zd(l m:List Int)(x:Int):puts l (m++[x])=kE (puts l m) x:=by unfold puts;rw[List.foldl_append];rfl
theorem E7(l m r:List Int):puts l (m++r)=puts (puts l m) r:=by unfold puts;rw[List.foldl_append]
theorem DA(a b:List Int)(ha:a.length<2^40)(hb:b.length<2^40):aD Tryz.prog 36 [.lst (a.map az),.lst (b.map az)] (.lst ((xX (a++b)).map az)):=by
 refine aj.fz (wN _ _ _ _ ?_)
 unfold m3
 generalize hQ:(fun(v:AV) (L:SH)=>∃v2 L2,aN [v] L [v2] L2∧v2=AV.lst ((xX (a++b)).map az)∧L2=[])=Q
 refine cv a.length (fun i (_:Unit)=>([.lst (a.map az),.lst (b.map az),.lst ((puts [] (a.take i)).map az),.int .i64 i],[])) (fun _ _=>True) () trivial (aN.vals (.cons (.refl _) (.cons (.refl _) (.cons .nils (.cons (.refl _) .nil))))) ?_
 rintro i _ hi _
 dsimp only
 unfold kC
 have hpl:=wP (a.take i) []
 have htl:(a.take i).length≤a.length:=by rw[List.length_take];exact Nat.min_le_right _ _
 simp only[List.length_nil]at hpl
 rcases Nat.lt_or_ge i a.length with g1 | g1
 ·have hd:=bW g1
  have hx:=aw (f:=az) g1
  have hp:=C2 (puts [] (a.take i)) a[i] (by omega)
  repeat' (first | refine st ?_ | ((with_reducible refine ao 50 ?_);refine af (hp) ?_) | ((with_reducible refine al 50 ?_);refine ab (hp) ?_) | refine sb (fun nb_ hnb_=>?_) | refine s2 (fun h=>?_) (fun h=>?_) | fail)
  exact⟨i+1,(),by omega,by omega,trivial,gh (by rw[bc g1 (by omega),List.take_succ_eq_append_getElem g1,zd]<;>rfl) rfl⟩
 ·have hd:=cX g1
  repeat' (first | refine st ?_ | refine sb (fun nb_ hnb_=>?_) | refine s2 (fun h=>?_) (fun h=>?_) | fail)
  rw[List.take_of_length_le g1]at *
  refine sM b.length (fun i=>([.lst (b.map az),.lst ((puts (puts [] a) (b.take i)).map az),.int .i64 i],[])) (fun _=>True) trivial rfl rfl ?_
  intro j hj _
  dsimp only
  unfold kB
  have hpl2:=wP (b.take j) (puts [] a)
  have htl2:(b.take j).length≤b.length:=by rw[List.length_take];exact Nat.min_le_right _ _
  rcases Nat.lt_or_ge j b.length with g2 | g2
  ·have hd:=bW g2
   have hx:=aw (f:=az) g2
   have hp:=C2 (puts (puts [] a) (b.take j)) b[j] (by omega)
   repeat' (first | refine st ?_ | ((with_reducible refine ao 50 ?_);refine af (hp) ?_) | ((with_reducible refine al 50 ?_);refine ab (hp) ?_) | refine sb (fun nb_ hnb_=>?_) | refine s2 (fun h=>?_) (fun h=>?_) | fail)
   exact⟨j+1,by omega,by omega,trivial,gh (by rw[bc g2 (by omega),List.take_succ_eq_append_getElem g2,zd]<;>rfl) rfl⟩
  ·have hd:=cX g2
   rw[List.take_of_length_le g2,←E7,GI]
   repeat' (first | refine st ?_ | refine sb (fun nb_ hnb_=>?_) | refine s2 (fun h=>?_) (fun h=>?_) | fail)
   subst hQ
   exact⟨_,[],aN.all (.refl _),rfl,rfl⟩
end Go.Proofs.YtljkdffikfkcgaaGreat.Am
end
section
namespace Go.Proofs.YtljkdffikfkcgaaGreat.Am
set_option maxRecDepth 100000
set_option linter.unusedSimpArgs false
set_option linter.unusedVariables false
theorem lu(b:Bool):aD Tryz.prog 49 [.bool b] (.int .i64 (gl b)):=by
 refine wI _ _ _ ?_
 unfold mZ
 cases b
 all_goals
  repeat' (first | refine st ?_ | refine sb (fun nb_ hnb_=>?_) | refine s2 (fun h=>?_) (fun h=>?_) | fail)
  exact⟨rfl,rfl⟩
theorem DB(op a:Int):aD Tryz.prog 33 [.int .i64 op,.int .i64 a] (qR (xY op a)):=by
 refine wK _ _ _ _ ?_
 unfold m0
 generalize hQ:(fun(u:AV) (K:SH)=>u=qR (xY op a)∧K=[])=Q
 repeat' (first | refine st ?_ | ((with_reducible refine ao 49 ?_);refine af (lu _) ?_) | ((with_reducible refine al 49 ?_);refine ab (lu _) ?_) | refine sb (fun nb_ hnb_=>?_) | refine s2 (fun h=>?_) (fun h=>?_) | fail)
 all_goals
  subst hQ
  refine⟨?_,rfl⟩
  simp_all[xY,qR]
theorem Cb(op a b:Int):aD Tryz.prog 35 [.int .i64 op,.int .i64 a,.int .i64 b] (qR (iA op a b)):=by
 refine uA _ _ _ _ _ ?_
 unfold ky
 generalize hQ:(fun(u:AV) (K:SH)=>u=qR (iA op a b)∧K=[])=Q
 repeat' (first | refine st ?_ | ((with_reducible refine ao 49 ?_);refine af (lu _) ?_) | ((with_reducible refine al 49 ?_);refine ab (lu _) ?_) | refine sb (fun nb_ hnb_=>?_) | refine s2 (fun h=>?_) (fun h=>?_) | fail)
 all_goals
  subst hQ
  refine⟨?_,rfl⟩
  simp_all[iA,qR]
end Go.Proofs.YtljkdffikfkcgaaGreat.Am
end
section
namespace Go.Proofs.YtljkdffikfkcgaaGreat.Am
set_option maxRecDepth 100000
set_option linter.unusedSimpArgs false
set_option linter.unusedVariables false
set_option linter.unusedSectionVars false
theorem aN.pickV{vs vs2:List AV}{L R:SH}(h:eo L R)(hv:∀K,nI K vs vs2):aN vs L vs2 R:=by
 obtain⟨K,hK⟩:=h.perm
 exact aN.drop hK (hv K).at_.1 (hv K).at_.2
theorem E8(s:bC)(h1:s.regs.length<2^40)(h2:s.taint.length<2^40)(h3:∀l∈s.taint,l.length≤2^30):aj Tryz.prog 14 [.agg s.enc] [] (vo s):=by
 refine aj.fz (ye _ _ _ ?_)
 unfold qV
 generalize hQ:(fun(v:AV) (L:SH)=>∃v2 L2,aN [v] L [v2] L2∧vo s v2 L2)=Q
 repeat' (first | refine st ?_ | refine iS rp (fun _=>rfl) (by rfl) (by simp;omega) (by simp;omega) (fun _=>rfl) (fun nb_ hnb_=>?_) | refine sb (fun nb_ hnb_=>?_) | refine s2 (fun h=>?_) (fun h=>?_) | fail)
 rename_i _ _ b2 _ _ _ b1 _
 rw[Nat.zero_add]
 revert nb_
 intro b3 _
 refine cv s.taint.length (fun i (o:Option Nat)=>([.pptr [s.enc] 0 0,.ptr b2 0 0,.ptr b3 0 0,.int .i64 i],(b3,⟨4,[[.int .i64 s.pc,.sl b1 0 s.regs.length,aq o i,.int .i64 s.ev]]⟩)::(b1,⟨1,s.regs.map az⟩)::(b2,⟨4,[[.int .i64 0,.nils,.nils,.int .i64 0]]⟩)::am o 1 ((s.taint.take i).map bD))) (fun i o=>o=none→i=0) none (fun _=>rfl) (aN.box (K:=[]) (.refl _) (.cons (.refl _) (.cons (.refl _) (.cons .nile (.cons (.refl _) .nil))))) ?_
 intro i o hi ho
 dsimp only
 unfold m4
 have hlen:((s.taint.take i).map bD).length=i:=by simp;omega
 have h0:o=none→(s.taint.take i).map bD=[]:=fun e=>by rw[ho e];rfl
 rcases Nat.lt_or_ge i s.taint.length with g1 | g1
 ·have hd:=bW g1
  have hx:=aw (f:=bD) g1
  have hr:=h3 _ (List.getElem_mem g1)
  repeat' (first | refine st ?_ | refine iS rp (fun _=>rfl) (by rfl) (by simp;omega) (by simp;omega) (fun _=>rfl) (fun nb_ hnb_=>?_) | refine cG rp rp hlen h0 (by rfl) (by simp) (by simp;omega) (by simp;omega) (by rfl) (fun nb_ hnb_=>?_) | refine sb (fun nb_ hnb_=>?_) | refine s2 (fun h=>?_) (fun h=>?_) | fail)
  rename_i br _ _ _
  refine⟨i+1,some nb_,by omega,by omega,nofun,?_⟩
  refine aN.rowA (A:=[(b3,_),(b1,_),(b2,_)]) (b:=nb_) (R:=[]) (rows':=(s.taint.take (i+1)).map bD) rp ?_ ?_ (by rw[bc g1 (by omega)]<;>rfl)
  ·simp;omega
  ·intro j r r' q1 q2
   rw[List.take_succ_eq_append_getElem g1,List.map_append]at q2
   rcases Nat.lt_or_ge j i with hj | hj
   ·rw[List.getElem?_append_left (by rw[hlen];exact hj)]at q1 q2
    rw[q1]at q2;cases q2
    exact nI.refl _ _
   ·rw[List.getElem?_append_right (by rw[hlen];exact hj),hlen]at q1 q2
    generalize j-i=k at q1 q2
    match k with
    | 0=>
     cases q1;cases q2
     exact .cons (Fz.sls (l:=s.taint[i]) rp rfl (by decide) (by simp)) .nil
    | k+1=>simp at q1
 ·have hd:=cX g1
  have hi0:i=s.taint.length:=by omega
  subst hi0
  rw[List.take_of_length_le (Nat.le_refl _)]
  have ho2:o=none→s.taint=[]:=fun e=>List.length_eq_zero_iff.1 (ho e)
  cases o with
  | none=>
   dsimp only[aq,am]
   repeat' (first | refine st ?_ | refine sb (fun nb_ hnb_=>?_) | refine s2 (fun h=>?_) (fun h=>?_) | fail)
   subst hQ
   exact⟨.agg [.int .i64 s.pc,.sl b1 0 s.regs.length,.lst [],.int .i64 s.ev],_,aN.pickV (R:=[(b1,_)]) rp (fun K=>.cons (Fz.aggs (.cons (.refl _) (.cons (.refl _) (.cons .emp (.cons (.refl _) .nil))))) .nil),some b1,none,rfl,rfl,nofun,ho2⟩
  | some bl=>
   dsimp only[aq,am]
   repeat' (first | refine st ?_ | refine sb (fun nb_ hnb_=>?_) | refine s2 (fun h=>?_) (fun h=>?_) | fail)
   subst hQ
   exact⟨_,_,aN.pick (R:=[(b1,_),(bl,_)]) rp rfl,some b1,some bl,rfl,rfl,nofun,ho2⟩
end Go.Proofs.YtljkdffikfkcgaaGreat.Am
end
section
namespace Go.Proofs.YtljkdffikfkcgaaGreat.Am
set_option linter.unusedVariables false
set_option maxRecDepth 100000
def nK(Q:R)(L18:SH)(x19:AV):Prop:=
 bf 1 x19 L18 fun x30=>
 bf 2 x19 L18 fun x32=>
 bf 3 x19 L18 fun x34=>
 W.bslice 1 [(.int .i64 0)] 3 [(0,x30),(1,x32),(2,x34)] L18 fun x35 L36=>
 Q x35 L36
def nL(Q:R)(L46:SH)(x48 x47:AV):Prop:=
 wb .eql 3 x48 (.int .i64 9) fun x54=>
 wk x54 (
 bf 2 x47 L46 fun x56=>
 bf 3 x47 L46 fun x58=>
 W.bslice 1 [(.int .i64 0)] 2 [(0,x56),(1,x58)] L46 fun x59 L60=>
 Q x59 L60) (
 Q .nils L46)
def nM(Q:R)(v44:Vs)(L46:SH):Prop:=
 ui 1 4 37 v44 fun x47 x48 x49=>
 wk x49 (
 bf 2 x47 L46 fun x51=>
 W.bslice 1 [(.int .i64 0)] 1 [(0,x51)] L46 fun x52 L53=>
 Q x52 L53) (
 (nL Q L46 x48 x47))
def nN(Q:R)(L18:SH)(x20 x19:AV):Prop:=
 W.join (nM Q) fun j45=>
 wb .eql 3 x20 (.int .i64 8) fun x61=>
 wk x61 (
 j45 [x19,x20,x61] L18) (
 wb .eql 3 x20 (.int .i64 26) fun x62=>
 j45 [x19,x20,x62] L18)
def nO(Q:R)(L18:SH)(x20 x19:AV):Prop:=
 wb .eql 3 x20 (.int .i64 7) fun x37=>
 wk x37 (
 bf 1 x19 L18 fun x39=>
 bf 3 x19 L18 fun x41=>
 W.bslice 1 [(.int .i64 0)] 2 [(0,x39),(1,x41)] L18 fun x42 L43=>
 Q x42 L43) (
 (nN Q L18 x20 x19))
def nP(Q:R)(v16:Vs)(L18:SH):Prop:=
 ui 1 4 13 v16 fun x19 x20 x21=>
 wk x21 (
 bf 1 x19 L18 fun x23=>
 bf 2 x19 L18 fun x25=>
 W.bslice 1 [(.int .i64 0)] 2 [(0,x23),(1,x25)] L18 fun x26 L27=>
 Q x26 L27) (
 wb .eql 3 x20 (.int .i64 4) fun x28=>
 wk x28 (
 (nK Q L18 x19)) (
 (nO Q L18 x20 x19)))
def nQ(Q:R)(L8:SH)(x10 x9:AV):Prop:=
 W.join (nP Q) fun j17=>
 wb .eql 3 x10 (.int .i64 2) fun x63=>
 wk x63 (
 j17 [x9,x10,x63] L8) (
 wb .eql 3 x10 (.int .i64 3) fun x64=>
 j17 [x9,x10,x64] L8)
def nR(Q:R)(v6:Vs)(L8:SH):Prop:=
 ui 1 4 5 v6 fun x9 x10 x11=>
 wk x11 (
 bf 1 x9 L8 fun x13=>
 W.bslice 1 [(.int .i64 0)] 1 [(0,x13)] L8 fun x14 L15=>
 Q x14 L15) (
 (nQ Q L8 x10 x9))
def nS(j7:Kn)(L3:SH)(x5 x2:AV):Prop:=
 wb .eql 3 x5 (.int .i64 6) fun x66=>
 wk x66 (
 j7 [x2,x5,x66] L3) (
 wb .eql 3 x5 (.int .i64 10) fun x67=>
 wk x67 (
 j7 [x2,x5,x67] L3) (
 wb .eql 3 x5 (.int .i64 27) fun x68=>
 j7 [x2,x5,x68] L3))
def hZ(t0:AV)(L:SH)(Q:R):Prop:=
 yU t0 L fun x2 L3=>
 bf 0 x2 L3 fun x5=>
 W.join (nR Q) fun j7=>
 wb .eql 3 x5 (.int .i64 1) fun x65=>
 wk x65 (
 j7 [x2,x5,x65] L3) (
 (nS j7 L3 x5 x2))
theorem nT(t0:AV)(L:SH)(Q:R)(h:hZ t0 L Q):aj Tryz.prog 21 [t0] L Q:=
 bx ⟨fun k=>if k=5 then some [1,4,5]else if k=8 then some [1,4,13]else if k=15 then some [1,4,37]else none,fun _=>[],fun k=>if k=0 then [1]else [],fun _=>[]⟩ Tryz.func21 (by kernel_rfl) (by kernel_rfl) h
end Go.Proofs.YtljkdffikfkcgaaGreat.Am
end
section
namespace Go.Proofs.YtljkdffikfkcgaaGreat.Am
set_option maxRecDepth 100000
set_option maxHeartbeats 1000000
set_option linter.unusedVariables false
def aO(i:av):List Int:=
 if i.op=1∨i.op=6∨i.op=10∨i.op=27 then [i.a]else
 if i.op=2∨i.op=3 then [i.a,i.b]else
 if i.op=4 then [i.a,i.b,i.c]else
 if i.op=7 then [i.a,i.c]else
 if i.op=8∨i.op=26 then [i.b]else
 if i.op=9 then [i.b,i.c]else []
theorem jB(i:av):aD Tryz.prog 21 [.agg i.enc] (.lst ((aO i).map az)):=by
 obtain⟨op,ia,ib,ic,n,site⟩:=i
 refine aj.fz (nT _ _ _ ?_)
 unfold hZ
 generalize hQ:(fun(v:AV) (L:SH)=>∃v2 L2,aN [v] L [v2] L2∧v2=AV.lst ((aO ⟨op,ia,ib,ic,n,site⟩).map az)∧L2=[])=Q
 have hq:∀(l:List Int),aO ⟨op,ia,ib,ic,n,site⟩=l→∀v L,Fz L v (.lst (l.map az))→Q v L:=fun l hl v L h=>by
  subst hQ;exact⟨_,[],aN.all h,by rw[hl],rfl⟩
 clear hQ
 repeat' (first | refine st ?_ | refine sb (fun nb_ hnb_=>?_) | refine s2 (fun h=>?_) (fun h=>?_) | fail)
 all_goals first
  | exact hq [ia] (by simp_all[aO];done) _ _ (Fz.sls (l:=[ia]) (f:=az) (.head _) rfl (by decide) rfl)
  | exact hq [ib] (by simp_all[aO];done) _ _ (Fz.sls (l:=[ib]) (f:=az) (.head _) rfl (by decide) rfl)
  | exact hq [ia,ib] (by simp_all[aO];done) _ _ (Fz.sls (l:=[ia,ib]) (f:=az) (.head _) rfl (by decide) rfl)
  | exact hq [ia,ic] (by simp_all[aO];done) _ _ (Fz.sls (l:=[ia,ic]) (f:=az) (.head _) rfl (by decide) rfl)
  | exact hq [ib,ic] (by simp_all[aO];done) _ _ (Fz.sls (l:=[ib,ic]) (f:=az) (.head _) rfl (by decide) rfl)
  | exact hq [ia,ib,ic] (by simp_all[aO];done) _ _ (Fz.sls (l:=[ia,ib,ic]) (f:=az) (.head _) rfl (by decide) rfl)
  | exact hq [] (by simp_all[aO];done) _ _ .nils
end Go.Proofs.YtljkdffikfkcgaaGreat.Am
end
section
namespace Go.Proofs.YtljkdffikfkcgaaGreat.Am
set_option maxRecDepth 100000
set_option linter.unusedSimpArgs false
set_option linter.unusedVariables false
set_option linter.unusedSectionVars false
theorem t6(n:Int):aD Tryz.prog 34 [.int .i64 n] (.int .i64 (ET n)):=by
 refine qW _ _ _ ?_
 unfold iT
 generalize hQ:(fun(u:AV) (K:SH)=>u=AV.int .i64 (ET n)∧K=[])=Q
 repeat' (first | refine st ?_ | refine sb (fun nb_ hnb_=>?_) | refine s2 (fun h=>?_) (fun h=>?_) | fail)
 all_goals
  subst hQ
  refine⟨?_,rfl⟩
  simp_all[ET]<;>omega
def zR(op:Int):Bool:=decide (1≤op)&&decide (op≤5)
theorem ze(op:Int):aD Tryz.prog 9 [.int .i64 op] (.bool (zR op)):=by
 refine uB _ _ _ ?_
 unfold kz
 generalize hQ:(fun(u:AV) (K:SH)=>u=AV.bool (zR op)∧K=[])=Q
 repeat' (first | refine st ?_ | refine sb (fun nb_ hnb_=>?_) | refine s2 (fun h=>?_) (fun h=>?_) | fail)
 all_goals
  subst hQ
  refine⟨?_,rfl⟩
  simp_all[zR]<;>omega
def kF(r:Option bC)(o t:Option Nat)(v:AV)(L:SH):Prop:=
 match r with
 | none=>v=.tup [.agg hO,.bool false]∨∃s3:bC,v=.tup [.agg (cq s3 o t),.bool false]
 | some s2=>v=.tup [.agg (cq s2 o t),.bool true]∧L=am o 1 (s2.regs.map az)++am t 1 (s2.taint.map bD)
theorem iU(s:bC)(o t:Option Nat)(ho:o=none→s.regs=[])(hsm:s.regs.length<2^40)(i:av)(b3 b4:Nat)(R:SH)(Q:AV→SH→Prop)(l:List Int)(hl:l.length<2^40)
  (hbad:l.all s.has=false→∀L,Q (.tup [.agg hO,.bool false]) L)
  (hgood:l.all s.has=true→cN Q ((b4,⟨4,[hO]⟩)::(b3,⟨4,[cq s o t]⟩)::R) (.pptr [i.enc] 0 0) (.ptr b3 0 0) (.ptr b4 0 0)) :
  W.loop (iB Q) [.pptr [i.enc] 0 0,.ptr b3 0 0,.ptr b4 0 0,.lst (l.map az),.int .i64 (0:Nat)] ((b4,⟨4,[hO]⟩)::(b3,⟨4,[cq s o t]⟩)::R):=by
 refine sM l.length (fun k=>([.pptr [i.enc] 0 0,.ptr b3 0 0,.ptr b4 0 0,.lst (l.map az),.int .i64 k],(b4,⟨4,[hO]⟩)::(b3,⟨4,[cq s o t]⟩)::R)) (fun k=>∀x∈l.take k,s.has x=true) (by simp) rfl rfl ?_
 intro k hk hG
 dsimp only
 unfold iB
 rcases Nat.lt_or_ge k l.length with g1 | g1
 ·have hd:=bW g1
  have hx:=aw (f:=az) g1
  have htk:l.take (k+1)=l.take k++[l[k]]:=List.take_succ_eq_append_getElem g1
  have no:s.has l[k]=false→l.all s.has=false:=fun h=>by
   rw[List.all_eq_false]
   exact⟨_,List.getElem_mem g1,by simp[h]⟩
  have next:s.has l[k]=true→∀x∈l.take (k+1),s.has x=true:=fun h x hx=>by
   rw[htk]at hx
   rcases List.mem_append.1 hx with h1 | h1
   ·exact hG x h1
   ·simp at h1;rw[h1];exact h
  cases o with
  | none=>
   have h0:=ho rfl
   have h00:s.has l[k]=false:=by simp[bC.has,inB,h0]
   unfold cq
   dsimp only[cR]
   repeat' (first | refine st ?_ | refine sb (fun nb_ hnb_=>?_) | refine s2 (fun h=>?_) (fun h=>?_) | fail)
   all_goals first | exact hbad (no h00) _ | skip
   all_goals
    exfalso
    simp_all
    try omega
  | some b1=>
   have key:s.has l[k]=(decide (0≤l[k])&&decide (l[k]<(s.regs.length:Int))):=rfl
   unfold cq
   dsimp only[cR]
   repeat' (first | refine st ?_ | refine sb (fun nb_ hnb_=>?_) | refine s2 (fun h=>?_) (fun h=>?_) | fail)
   all_goals first | exact hbad (no (by rw[key];simp_all<;>omega)) _ | exact⟨k+1,by omega,by omega,next (by rw[key];simp_all<;>omega),gh (by rw[bc g1 (by omega)]<;>rfl) rfl⟩
 ·have hd:=cX g1
  have hk0:k=l.length:=by omega
  subst hk0
  have hgood:=hgood (List.all_eq_true.2 fun x hx=>hG x (by simpa using hx))
  repeat' (first | exact hgood | refine st ?_ | refine sb (fun nb_ hnb_=>?_) | refine s2 (fun h=>?_) (fun h=>?_) | fail)
theorem GJ{b i n by_:Nat}{rows:List (List AV)}{L L':SH}{KL:AV→SH→Prop}(hd:dE b ⟨n,rows⟩ L L')(hr:rows.length=i)(h2:2*i*by_≤2^48)(h3:2*i≤2^62)(h:∀b',b'∉L.names→KL (.sl b' 0 i) ((b',⟨n,rows⟩)::L')):W.append n by_ (.sl b 0 i) .nils L KL:=by
 subst hr
 exact lm (y:=⟨n,rows⟩) (l:=rows) (m:=[]) hd.mem' rfl (by simp) (by simp) rfl (by simpa using h2) (by simpa using h3) rfl hd (fun b' hb=>by simpa using h b' hb)
theorem vq(s:bC)(op a ib ic n site v:Int)(k:Nat)(u:List Int)(hu:u.length≤2^31)(b1 b2 b3 b4:Nat)(ok:Bool)(ha:a=k)(hal:k<s.regs.length)(hal2:k<s.taint.length)(h13:b3≠b1)(h23:b3≠b2)(x:AV)(hx:x=.nils∧u=[]∨x=.lst (u.map az))(Q:AV→SH→Prop)
  (hq:∀vv L,(∃v2 L2,aN [vv] L [v2] L2∧kF (if ok then some (s.put a v u)else none) (some b1) (some b2) v2 L2)→Q vv L) :
  dZ Q [.pptr [(av.mk op a ib ic n site).enc] 0 0,.ptr b3 0 0,.ptr b4 0 0,.int .i64 v,.bool ok,x] [(b4,⟨4,[hO]⟩),(b3,⟨4,[cq s (some b1) (some b2)]⟩),(b1,⟨1,s.regs.map az⟩),(b2,⟨1,s.taint.map bD⟩)]:=by
 subst ha
 have hxa:=aw (f:=az) hal
 have hya:=aw (f:=bD) hal2
 have e1:(s.put k v u).regs.map az=(s.regs.map az).set k [.int .i64 v]:=by simp[bC.put,List.map_set,az]
 have e2:(s.put k v u).taint.map bD=(s.taint.map bD).set k [.lst (u.map az)]:=by simp[bC.put,List.map_set,bD]
 have e3:cq (s.put k v u) (some b1) (some b2)=[.int .i64 (IntKind.i64.wrap (s.pc+1)),.sl b1 0 s.regs.length,.sl b2 0 s.taint.length,.int .i64 s.ev]:=by simp[cq,bC.put,cR]
 have fin:∀(nb m:Nat) (L:SH) (c3 c4:Blk) (r:List AV),r=[.sl nb 0 m]→m=u.length→yc L ([(b1,⟨1,(s.regs.map az).set k [.int .i64 v]⟩)]++(b2,⟨1,(s.taint.map bD).set k r⟩)::[]) [(nb,⟨1,u.map az⟩),(b4,c4),(b3,c3)]→Q (.tup [.agg [.int .i64 (IntKind.i64.wrap (s.pc+1)),.sl b1 0 s.regs.length,.sl b2 0 s.taint.length,.int .i64 s.ev],.bool ok]) L:=by
  intro nb m L c3 c4 r hr hm hrest
  subst hr
  refine hq _ _ ?_
  cases ok with
  | false=>exact⟨_,[],aN.all (.refl _),.inr ⟨s.put k v u,by rw[e3]⟩⟩
  | true=>
   refine⟨.tup [.agg (cq (s.put k v u) (some b1) (some b2)),.bool true],[(b1,⟨1,(s.regs.map az).set k [.int .i64 v]⟩),(b2,⟨1,(s.taint.map bD).set k [.lst (u.map az)]⟩)],?_,rfl,?_⟩
   ·refine aN.rowA (A:=[(b1,_)]) (b:=b2) (R:=[]) (rows':=(s.taint.map bD).set k [.lst (u.map az)]) hrest (by simp) (fun j r r' q1 q2=>?_) (by rw[e3])
    rw[List.getElem?_set]at q1 q2
    by_cases hj:k=j
    ·rw[if_pos hj]at q1 q2
     rw[if_pos (by simp;omega)]at q1 q2
     cases q1;cases q2
     exact .cons (Fz.sls (l:=u) (.head _) rfl (by decide) hm) .nil
    ·rw[if_neg hj]at q1 q2
     rw[q1]at q2;cases q2
     exact nI.refl _ _
   ·rw[e1,e2];rfl
 unfold dZ
 rcases hx with⟨rfl,rfl⟩ | rfl
 ·repeat' (first | refine st ?_ | refine GJ rp rfl (by decide) (by decide) (fun nb_ hnb_=>?_) | refine sb (fun nb_ hnb_=>?_) | refine s2 (fun h=>?_) (fun h=>?_) | fail)
  exact fin nb_ 0 _ _ _ _ rfl rfl rp
 ·repeat' (first | refine st ?_ | refine iS rp (fun _=>rfl) (by rfl) (by simp;omega) (by simp;omega) (fun _=>rfl) (fun nb_ hnb_=>?_) | refine sb (fun nb_ hnb_=>?_) | refine s2 (fun h=>?_) (fun h=>?_) | fail)
  exact fin nb_ (0+u.length) _ _ _ _ rfl (by simp) rp
end Go.Proofs.YtljkdffikfkcgaaGreat.Am
end
section
namespace Go.Proofs.YtljkdffikfkcgaaGreat.Am
set_option maxRecDepth 100000
set_option linter.unusedSimpArgs false
set_option linter.unusedVariables false
set_option linter.unusedSectionVars false
structure La(P:Prop):Prop where
 h:P
theorem C3{Q:AV→SH→Prop}{vs:List AV}{L:SH}(h:La (dZ Q vs L)):dZ Q vs L:=h.h
theorem DC(o:Option Nat)(n:Nat):(cR o n).one=true:=by cases o<;>rfl
theorem kG(s:bC)(o t:Option Nat):(cq s o t).all AV.one=true:=by
 unfold cq
 simp[DC]
 exact⟨rfl,rfl⟩
theorem Ln(n a:Int):aD Tryz.prog 33 [.int .i64 (ET n),.int .i64 a] (.tup [.int .i64 (xY n a).1,.bool (xY n a).2]):=by
 have:=DB (ET n) a
 rwa [Kj]at this
theorem Lb(n a b:Int):aD Tryz.prog 35 [.int .i64 (ET n),.int .i64 a,.int .i64 b] (.tup [.int .i64 (iA n a b).1,.bool (iA n a b).2]):=by
 have:=Cb (ET n) a b
 rwa [Iz]at this
section
variable (s:bC) (o t:Option Nat) (ho:o=none→s.regs=[]) (ht:t=none→s.taint=[]) (hlen:s.taint.length=s.regs.length) (hsm:s.regs.length<2^40) (hsh:∀l∈s.taint,l.length≤2^30) (ia ib ic n site:Int)
include ho ht hlen hsm hsh
theorem IK:aj Tryz.prog 15 [.agg (av.mk 5 ia ib ic n site).enc,.agg (cq s o t)] (am o 1 (s.regs.map az)++am t 1 (s.taint.map bD)) (kF (aK ⟨5,ia,ib,ic,n,site⟩ s) o t):=by
 have hr:aD Tryz.prog 21 [.agg (av.mk 5 ia ib ic n site).enc] (.lst (([]:List Int).map az)):=by have:=jB ⟨5,ia,ib,ic,n,site⟩;simpa[aO]using this
 refine aj.fz (ee _ _ _ _ ?_)
 unfold dG
 generalize hQ:(fun(v:AV) (L:SH)=>∃v2 L2,aN [v] L [v2] L2∧kF (aK ⟨5,ia,ib,ic,n,site⟩ s) o t v2 L2)=Q
 have hqq:∀vv L,(∃v2 L2,aN [vv] L [v2] L2∧kF (aK ⟨5,ia,ib,ic,n,site⟩ s) o t v2 L2)→Q vv L:=by
  subst hQ;exact fun _ _ h=>h
 clear hQ
 repeat' (first | refine st ?_ | refine wa (cs:=cq s o t) rfl (kG s o t) (fun nb_ hnb_=>?_) | ((with_reducible refine ao 21 ?_);refine af (hr) ?_) | ((with_reducible refine al 21 ?_);refine ab (hr) ?_) | refine sb (fun nb_ hnb_=>?_) | refine s2 (fun h=>?_) (fun h=>?_) | fail)
 rename_i b3 hb3
 refine iU s o t ho hsm (av.mk 5 ia ib ic n site) b3 nb_ _ Q [] (by simp) (fun h L=>?_) (fun h=>?_)
 ·simp at h
 ·have e:aK ⟨5,ia,ib,ic,n,site⟩ s=some {s with pc:=ia}:=by simp[aK]
  rw[e]at hqq
  unfold cN
  rcases o with _ | b1<;>rcases t with _ | b2
  all_goals
   dsimp only[am,List.cons_append,List.nil_append]
   repeat' (first | refine st ?_ | refine sb (fun nb_ hnb_=>?_) | refine s2 (fun h=>?_) (fun h=>?_) | fail)
   exact hqq _ _ ⟨_,_,aN.forget (K:=[(nb_,_),(b3,_)]) (List.Perm.refl _),rfl,rfl⟩
theorem IL:aj Tryz.prog 15 [.agg (av.mk 1 ia ib ic n site).enc,.agg (cq s o t)] (am o 1 (s.regs.map az)++am t 1 (s.taint.map bD)) (kF (aK ⟨1,ia,ib,ic,n,site⟩ s) o t):=by
 have hr:aD Tryz.prog 21 [.agg (av.mk 1 ia ib ic n site).enc] (.lst ([ia].map az)):=by have:=jB ⟨1,ia,ib,ic,n,site⟩;simpa[aO]using this
 refine aj.fz (ee _ _ _ _ ?_)
 unfold dG
 generalize hQ:(fun(v:AV) (L:SH)=>∃v2 L2,aN [v] L [v2] L2∧kF (aK ⟨1,ia,ib,ic,n,site⟩ s) o t v2 L2)=Q
 have hqq:∀vv L,(∃v2 L2,aN [vv] L [v2] L2∧kF (aK ⟨1,ia,ib,ic,n,site⟩ s) o t v2 L2)→Q vv L:=by
  subst hQ;exact fun _ _ h=>h
 clear hQ
 repeat' (first | refine st ?_ | refine wa (cs:=cq s o t) rfl (kG s o t) (fun nb_ hnb_=>?_) | ((with_reducible refine ao 21 ?_);refine af (hr) ?_) | ((with_reducible refine al 21 ?_);refine ab (hr) ?_) | refine sb (fun nb_ hnb_=>?_) | refine s2 (fun h=>?_) (fun h=>?_) | fail)
 rename_i b3 hb3
 refine iU s o t ho hsm (av.mk 1 ia ib ic n site) b3 nb_ _ Q [ia] (by simp) (fun h L=>?_) (fun h=>?_)
 ·have e:aK ⟨1,ia,ib,ic,n,site⟩ s=none:=by
   simp at h
   simp_all[aK]
  rw[e]at hqq
  exact hqq _ _ ⟨_,[],aN.all (.refl _),.inl rfl⟩
 ·have ha:s.has ia=true:=by simpa using h
  have e:aK ⟨1,ia,ib,ic,n,site⟩ s=if true then some (s.put ia n [])else none:=by simp[aK,ha]
  rw[e]at hqq
  obtain⟨a,rfl,hal⟩:=cU.1 ha
  obtain⟨b1,rfl⟩:=cV ho hal
  obtain⟨b2,rfl⟩:=cV ht (k:=a) (by omega)
  have h13:b3≠b1:=fun e=>hb3 (by simp[SH.names,am,e])
  have h23:b3≠b2:=fun e=>hb3 (by simp[SH.names,am,e])
  have hal2:a<s.taint.length:=by omega
  have hxa:=aw (f:=az) hal
  have hya:=aw (f:=bD) hal2
  unfold cN
  dsimp only[am,List.cons_append,List.nil_append]
  repeat' (first | (with_reducible refine C3 ?_) | refine st ?_ | refine sb (fun nb_ hnb_=>?_) | refine s2 (fun h=>?_) (fun h=>?_) | fail)
  exact⟨vq s 1 a _ _ n site n a [] (by decide) b1 b2 b3 nb_ true rfl hal hal2 h13 h23 _ (.inl ⟨rfl,rfl⟩) Q hqq⟩
theorem IM:aj Tryz.prog 15 [.agg (av.mk 2 ia ib ic n site).enc,.agg (cq s o t)] (am o 1 (s.regs.map az)++am t 1 (s.taint.map bD)) (kF (aK ⟨2,ia,ib,ic,n,site⟩ s) o t):=by
 have hr:aD Tryz.prog 21 [.agg (av.mk 2 ia ib ic n site).enc] (.lst ([ia,ib].map az)):=by have:=jB ⟨2,ia,ib,ic,n,site⟩;simpa[aO]using this
 refine aj.fz (ee _ _ _ _ ?_)
 unfold dG
 generalize hQ:(fun(v:AV) (L:SH)=>∃v2 L2,aN [v] L [v2] L2∧kF (aK ⟨2,ia,ib,ic,n,site⟩ s) o t v2 L2)=Q
 have hqq:∀vv L,(∃v2 L2,aN [vv] L [v2] L2∧kF (aK ⟨2,ia,ib,ic,n,site⟩ s) o t v2 L2)→Q vv L:=by
  subst hQ;exact fun _ _ h=>h
 clear hQ
 repeat' (first | refine st ?_ | refine wa (cs:=cq s o t) rfl (kG s o t) (fun nb_ hnb_=>?_) | ((with_reducible refine ao 21 ?_);refine af (hr) ?_) | ((with_reducible refine al 21 ?_);refine ab (hr) ?_) | refine sb (fun nb_ hnb_=>?_) | refine s2 (fun h=>?_) (fun h=>?_) | fail)
 rename_i b3 hb3
 refine iU s o t ho hsm (av.mk 2 ia ib ic n site) b3 nb_ _ Q [ia,ib] (by simp) (fun h L=>?_) (fun h=>?_)
 ·have e:aK ⟨2,ia,ib,ic,n,site⟩ s=none:=by
   simp at h
   simp_all[aK]
  rw[e]at hqq
  exact hqq _ _ ⟨_,[],aN.all (.refl _),.inl rfl⟩
 ·obtain⟨ha,hb⟩:s.has ia=true∧s.has ib=true:=by simpa using h
  have e:aK ⟨2,ia,ib,ic,n,site⟩ s=if true then some (s.put ia (s.reg ib) (s.tnt ib))else none:=by simp[aK,ha,hb]
  rw[e]at hqq
  obtain⟨a,rfl,hal⟩:=cU.1 ha
  obtain⟨b,rfl,hbl⟩:=cU.1 hb
  obtain⟨b1,rfl⟩:=cV ho hal
  obtain⟨b2,rfl⟩:=cV ht (k:=a) (by omega)
  have h13:b3≠b1:=fun e=>hb3 (by simp[SH.names,am,e])
  have h23:b3≠b2:=fun e=>hb3 (by simp[SH.names,am,e])
  have hal2:a<s.taint.length:=by omega
  have hxa:=aw (f:=az) hal
  have hya:=aw (f:=bD) hal2
  have hbl2:b<s.taint.length:=by omega
  have hxb:=aw (f:=az) hbl
  have hyb:=aw (f:=bD) hbl2
  have hub:s.taint[b].length≤2^31:=by have:=hsh _ (List.getElem_mem hbl2);omega
  have hrb:s.reg b=s.regs[b]:=by simp[bC.reg,List.getD,hbl]
  have htb:s.tnt b=s.taint[b]:=by simp[bC.tnt,List.getD,hbl2]
  rw[hrb,htb]at hqq
  unfold cN
  dsimp only[am,List.cons_append,List.nil_append]
  repeat' (first | (with_reducible refine C3 ?_) | refine st ?_ | refine sb (fun nb_ hnb_=>?_) | refine s2 (fun h=>?_) (fun h=>?_) | fail)
  exact⟨vq s 2 a _ _ n site _ a _ hub b1 b2 b3 nb_ true rfl hal hal2 h13 h23 _ (.inr rfl) Q hqq⟩
theorem IP:aj Tryz.prog 15 [.agg (av.mk 3 ia ib ic n site).enc,.agg (cq s o t)] (am o 1 (s.regs.map az)++am t 1 (s.taint.map bD)) (kF (aK ⟨3,ia,ib,ic,n,site⟩ s) o t):=by
 have hr:aD Tryz.prog 21 [.agg (av.mk 3 ia ib ic n site).enc] (.lst ([ia,ib].map az)):=by have:=jB ⟨3,ia,ib,ic,n,site⟩;simpa[aO]using this
 refine aj.fz (ee _ _ _ _ ?_)
 unfold dG
 generalize hQ:(fun(v:AV) (L:SH)=>∃v2 L2,aN [v] L [v2] L2∧kF (aK ⟨3,ia,ib,ic,n,site⟩ s) o t v2 L2)=Q
 have hqq:∀vv L,(∃v2 L2,aN [vv] L [v2] L2∧kF (aK ⟨3,ia,ib,ic,n,site⟩ s) o t v2 L2)→Q vv L:=by
  subst hQ;exact fun _ _ h=>h
 clear hQ
 repeat' (first | refine st ?_ | refine wa (cs:=cq s o t) rfl (kG s o t) (fun nb_ hnb_=>?_) | ((with_reducible refine ao 21 ?_);refine af (hr) ?_) | ((with_reducible refine al 21 ?_);refine ab (hr) ?_) | refine sb (fun nb_ hnb_=>?_) | refine s2 (fun h=>?_) (fun h=>?_) | fail)
 rename_i b3 hb3
 refine iU s o t ho hsm (av.mk 3 ia ib ic n site) b3 nb_ _ Q [ia,ib] (by simp) (fun h L=>?_) (fun h=>?_)
 ·have e:aK ⟨3,ia,ib,ic,n,site⟩ s=none:=by
   simp at h
   simp_all[aK]
  rw[e]at hqq
  exact hqq _ _ ⟨_,[],aN.all (.refl _),.inl rfl⟩
 ·obtain⟨ha,hb⟩:s.has ia=true∧s.has ib=true:=by simpa using h
  have e:aK ⟨3,ia,ib,ic,n,site⟩ s=if(xY n (s.reg ib)).2 then some (s.put ia (xY n (s.reg ib)).1 (s.tnt ib))else none:=by simp[aK,ha,hb]
  rw[e]at hqq
  obtain⟨a,rfl,hal⟩:=cU.1 ha
  obtain⟨b,rfl,hbl⟩:=cU.1 hb
  obtain⟨b1,rfl⟩:=cV ho hal
  obtain⟨b2,rfl⟩:=cV ht (k:=a) (by omega)
  have h13:b3≠b1:=fun e=>hb3 (by simp[SH.names,am,e])
  have h23:b3≠b2:=fun e=>hb3 (by simp[SH.names,am,e])
  have hal2:a<s.taint.length:=by omega
  have hxa:=aw (f:=az) hal
  have hya:=aw (f:=bD) hal2
  have hbl2:b<s.taint.length:=by omega
  have hxb:=aw (f:=az) hbl
  have hyb:=aw (f:=bD) hbl2
  have hub:s.taint[b].length≤2^31:=by have:=hsh _ (List.getElem_mem hbl2);omega
  have hrb:s.reg b=s.regs[b]:=by simp[bC.reg,List.getD,hbl]
  have htb:s.tnt b=s.taint[b]:=by simp[bC.tnt,List.getD,hbl2]
  have hop:=t6 n
  have hun:=Ln n s.regs[b]
  rw[hrb,htb]at hqq
  generalize xY n s.regs[b]=p at hun hqq
  unfold cN
  dsimp only[am,List.cons_append,List.nil_append]
  repeat' (first | (with_reducible refine C3 ?_) | refine st ?_ | ((with_reducible refine ao 34 ?_);refine af (hop) ?_) | ((with_reducible refine al 34 ?_);refine ab (hop) ?_) | ((with_reducible refine ao 33 ?_);refine af (hun) ?_) | ((with_reducible refine al 33 ?_);refine ab (hun) ?_) | (refine zC ?_ ?_;focus (simp[rm,rc,rz,W.free,ac,dt,ay,SH.names,cR];done)) | refine sb (fun nb_ hnb_=>?_) | refine s2 (fun h=>?_) (fun h=>?_) | fail)
  exact⟨vq s 3 a _ _ n site p.1 a _ hub b1 b2 b3 nb_ p.2 rfl hal hal2 h13 h23 _ (.inr rfl) Q hqq⟩
theorem IQ:aj Tryz.prog 15 [.agg (av.mk 4 ia ib ic n site).enc,.agg (cq s o t)] (am o 1 (s.regs.map az)++am t 1 (s.taint.map bD)) (kF (aK ⟨4,ia,ib,ic,n,site⟩ s) o t):=by
 have hr:aD Tryz.prog 21 [.agg (av.mk 4 ia ib ic n site).enc] (.lst ([ia,ib,ic].map az)):=by have:=jB ⟨4,ia,ib,ic,n,site⟩;simpa[aO]using this
 refine aj.fz (ee _ _ _ _ ?_)
 unfold dG
 generalize hQ:(fun(v:AV) (L:SH)=>∃v2 L2,aN [v] L [v2] L2∧kF (aK ⟨4,ia,ib,ic,n,site⟩ s) o t v2 L2)=Q
 have hqq:∀vv L,(∃v2 L2,aN [vv] L [v2] L2∧kF (aK ⟨4,ia,ib,ic,n,site⟩ s) o t v2 L2)→Q vv L:=by
  subst hQ;exact fun _ _ h=>h
 clear hQ
 repeat' (first | refine st ?_ | refine wa (cs:=cq s o t) rfl (kG s o t) (fun nb_ hnb_=>?_) | ((with_reducible refine ao 21 ?_);refine af (hr) ?_) | ((with_reducible refine al 21 ?_);refine ab (hr) ?_) | refine sb (fun nb_ hnb_=>?_) | refine s2 (fun h=>?_) (fun h=>?_) | fail)
 rename_i b3 hb3
 refine iU s o t ho hsm (av.mk 4 ia ib ic n site) b3 nb_ _ Q [ia,ib,ic] (by simp) (fun h L=>?_) (fun h=>?_)
 ·have e:aK ⟨4,ia,ib,ic,n,site⟩ s=none:=by
   simp at h
   simp_all[aK]
  rw[e]at hqq
  exact hqq _ _ ⟨_,[],aN.all (.refl _),.inl rfl⟩
 ·obtain⟨ha,hb,hc⟩:s.has ia=true∧s.has ib=true∧s.has ic=true:=by simpa using h
  have e:aK ⟨4,ia,ib,ic,n,site⟩ s=if(iA n (s.reg ib) (s.reg ic)).2 then some (s.put ia (iA n (s.reg ib) (s.reg ic)).1 (xX (s.tnt ib++s.tnt ic)))else none:=by simp[aK,ha,hb,hc]
  rw[e]at hqq
  obtain⟨a,rfl,hal⟩:=cU.1 ha
  obtain⟨b,rfl,hbl⟩:=cU.1 hb
  obtain⟨c,rfl,hcl⟩:=cU.1 hc
  obtain⟨b1,rfl⟩:=cV ho hal
  obtain⟨b2,rfl⟩:=cV ht (k:=a) (by omega)
  have h13:b3≠b1:=fun e=>hb3 (by simp[SH.names,am,e])
  have h23:b3≠b2:=fun e=>hb3 (by simp[SH.names,am,e])
  have hal2:a<s.taint.length:=by omega
  have hxa:=aw (f:=az) hal
  have hya:=aw (f:=bD) hal2
  have hbl2:b<s.taint.length:=by omega
  have hxb:=aw (f:=az) hbl
  have hyb:=aw (f:=bD) hbl2
  have hcl2:c<s.taint.length:=by omega
  have hxc:=aw (f:=az) hcl
  have hyc:=aw (f:=bD) hcl2
  have hub:s.taint[b].length≤2^31:=by have:=hsh _ (List.getElem_mem hbl2);omega
  have huc:s.taint[c].length≤2^31:=by have:=hsh _ (List.getElem_mem hcl2);omega
  have hrb:s.reg b=s.regs[b]:=by simp[bC.reg,List.getD,hbl]
  have htb:s.tnt b=s.taint[b]:=by simp[bC.tnt,List.getD,hbl2]
  have hrc:s.reg c=s.regs[c]:=by simp[bC.reg,List.getD,hcl]
  have htc:s.tnt c=s.taint[c]:=by simp[bC.tnt,List.getD,hcl2]
  have hop:=t6 n
  have hun:=Lb n s.regs[b] s.regs[c]
  have hui:=DA s.taint[b] s.taint[c] (by omega) (by omega)
  have hua:(xX (s.taint[b]++s.taint[c])).length≤2^31:=Nat.le_trans (yW (U:=s.taint[b]++s.taint[c]) fun x hx=>hx) (by have h1:=hsh _ (List.getElem_mem hbl2);have h2:=hsh _ (List.getElem_mem hcl2);simp;omega)
  rw[hrb,htb,hrc,htc]at hqq
  generalize iA n s.regs[b] s.regs[c]=p at hun hqq
  generalize xX (s.taint[b]++s.taint[c])=u at hui hqq hua
  unfold cN
  dsimp only[am,List.cons_append,List.nil_append]
  repeat' (first | (with_reducible refine C3 ?_) | refine st ?_ | ((with_reducible refine ao 34 ?_);refine af (hop) ?_) | ((with_reducible refine al 34 ?_);refine ab (hop) ?_) | ((with_reducible refine ao 35 ?_);refine af (hun) ?_) | ((with_reducible refine al 35 ?_);refine ab (hun) ?_) | ((with_reducible refine ao 36 ?_);refine af (hui) ?_) | ((with_reducible refine al 36 ?_);refine ab (hui) ?_) | (refine zC ?_ ?_;focus (simp[rm,rc,rz,W.free,ac,dt,ay,SH.names,cR];done)) | refine sb (fun nb_ hnb_=>?_) | refine s2 (fun h=>?_) (fun h=>?_) | fail)
  exact⟨vq s 4 a _ _ n site p.1 a u hua b1 b2 b3 nb_ p.2 rfl hal hal2 h13 h23 _ (.inr rfl) Q hqq⟩
end
end Go.Proofs.YtljkdffikfkcgaaGreat.Am
end
section
namespace Go.Proofs.YtljkdffikfkcgaaGreat.Am
set_option maxRecDepth 100000
set_option linter.unusedVariables false
set_option linter.unusedSectionVars false
theorem E9(s:bC)(o t:Option Nat)(ho:o=none→s.regs=[])(ht:t=none→s.taint=[])(hlen:s.taint.length=s.regs.length)(hsm:s.regs.length<2^40)(hsh:∀l∈s.taint,l.length≤2^30)(i:av)(h1:1≤i.op)(h5:i.op≤5):
  aj Tryz.prog 15 [.agg i.enc,.agg (cq s o t)] (am o 1 (s.regs.map az)++am t 1 (s.taint.map bD)) (kF (aK i s) o t):=by
 obtain⟨op,ia,ib,ic,n,site⟩:=i
 dsimp only at h1 h5
 obtain rfl | rfl | rfl | rfl | rfl:op=1∨op=2∨op=3∨op=4∨op=5:=by omega
 ·exact IL s o t ho ht hlen hsm hsh ia ib ic n site
 ·exact IM s o t ho ht hlen hsm hsh ia ib ic n site
 ·exact IP s o t ho ht hlen hsm hsh ia ib ic n site
 ·exact IQ s o t ho ht hlen hsm hsh ia ib ic n site
 ·exact IK s o t ho ht hlen hsm hsh ia ib ic n site
section
variable (c:sx) (s:bC) (U:List Int) (hU:U.length≤2^30) (hT:iR U s) (hc:c.ins.length<2^40) (o t:Option Nat) (ho:o=none→s.regs=[]) (ht:t=none→s.taint=[])
include hU hT hc ho ht
theorem zS(b3 b4:Nat)(Q:AV→SH→Prop)(hq:∀v L,Fz L v (zK (cx c.ins c.ins.length s))→Q v L):
  W.loop (fF Q) [.pptr [c.enc] 0 0,.ptr b3 0 0,.ptr b4 0 0,.int .i64 (0:Nat)] ((b4,⟨4,[hO]⟩)::gr s b3 o t):=by
 refine cv c.ins.length (fun k (e:bC)=>([.pptr [c.enc] 0 0,.ptr b3 0 0,.ptr b4 0 0,.int .i64 k],(b4,⟨4,[hO]⟩)::gr e b3 o t)) (fun k e=>iR U e∧(e.regs.length=s.regs.length∧e.taint.length=s.taint.length)∧cx c.ins (c.ins.length-k) e=cx c.ins c.ins.length s) s ⟨hT,⟨rfl,rfl⟩,rfl⟩ (.refl _ _) ?_
 intro k e hk ⟨he,⟨hl1,hl2⟩,hrun⟩
 rw[←hrun]at hq
 have ho':o=none→e.regs=[]:=fun x=>List.length_eq_zero_iff.1 (by rw[hl1,ho x];rfl)
 have ht':t=none→e.taint=[]:=fun x=>List.length_eq_zero_iff.1 (by rw[hl2,ht x];rfl)
 dsimp only
 unfold fF
 have hd0:decide ((k:Int)≤(c.ins.length:Int))=true:=by simp;omega
 have zero:cx c.ins (c.ins.length-k) e=(bC.zero,false)→∀L,Q (.tup [.agg hO,.bool false]) L:=fun h L=>hq _ _ (by rw[h];exact kw (lr _))
 by_cases p1:e.pc<0
 ·have hd1:decide (e.pc<0)=true:=by simpa using p1
  have hz:=zero (vp (by simp[inB];omega))
  unfold gr cq
  repeat' (first | refine st ?_ | refine sb (fun nb_ hnb_=>?_) | refine s2 (fun h=>?_) (fun h=>?_) | fail)
  exact hz _
 ·have hd1:decide (e.pc<0)=false:=by simpa using p1
  by_cases p2:(c.ins.length:Int)≤e.pc
  ·have hd2:decide ((c.ins.length:Int)≤e.pc)=true:=by simpa using p2
   have hz:=zero (vp (by simp[inB];omega))
   unfold gr cq
   repeat' (first | refine st ?_ | refine sb (fun nb_ hnb_=>?_) | refine s2 (fun h=>?_) (fun h=>?_) | fail)
   exact hz _
  ·have hd2:decide ((c.ins.length:Int)≤e.pc)=false:=by simpa using p2
   have hin:inB e.pc c.ins.length=true:=by simp[inB];omega
   have hx:=Ez (f:=av.enc) hin
   generalize hi:c.ins.getD e.pc.toNat default=i at hx
   have hsi:=ze i.op
   by_cases p3:i.op<1∨5<i.op
   ·have hr:=A8 (k:=c.ins.length-k) hin (by rw[hi];exact p3)
    rw[hr]at hq
    have fin:∀x,Q (.tup [.agg (cq e o t),.bool true]) ((b4,x)::gr e b3 o t):=fun x=>hq _ _ (kw (CZ ho' ht' fun p hp=>by unfold gr;exact .tail _ (.tail _ hp)))
    unfold gr cq at fin ⊢
    rw[show zR i.op=false by simp[zR];omega]at hsi
    rcases o with _ | b1<;>rcases t with _ | b2
    all_goals
     dsimp only[cR,am,List.cons_append,List.nil_append]at fin ⊢
     repeat' (first | refine st ?_ | ((with_reducible refine ao 9 ?_);refine af (hsi) ?_) | ((with_reducible refine al 9 ?_);refine ab (hsi) ?_) | refine sb (fun nb_ hnb_=>?_) | refine s2 (fun h=>?_) (fun h=>?_) | fail)
     exact fin _
   ·rw[show zR i.op=true by simp[zR];omega]at hsi
    by_cases p5:k=c.ins.length
    ·have q3:decide ((k:Int)=(c.ins.length:Int))=true:=by simp[p5]
     have hz:=zero (by rw[p5,Nat.sub_self];exact Ba hin (by rw[hi];exact p3))
     unfold gr cq
     repeat' (first | refine st ?_ | ((with_reducible refine ao 9 ?_);refine af (hsi) ?_) | ((with_reducible refine al 9 ?_);refine ab (hsi) ?_) | refine sb (fun nb_ hnb_=>?_) | refine s2 (fun h=>?_) (fun h=>?_) | fail)
     exact hz _
    ·have q3:decide ((k:Int)=(c.ins.length:Int))=false:=by simp;omega
     have hex:=E9 e o t ho' ht' he.len he.small he.short i (by omega) (by omega)
     obtain⟨m,hm⟩:∃m,c.ins.length-k=m+1:=⟨c.ins.length-k-1,by omega⟩
     cases hst:aK i e with
     | none=>
      have hz:=zero (A9 hin (by rw[hi];exact p3) (by rw[hi];exact hst))
      rw[hst]at hex
      change aj _ _ _ _ (fun v L=>v=.tup [.agg hO,.bool false]∨∃s3:bC,v=.tup [.agg (cq s3 o t),.bool false])at hex
      unfold gr
      rcases o with _ | b1<;>rcases t with _ | b2
      all_goals
       repeat' (first | refine st ?_ | ((with_reducible refine ao 9 ?_);refine af (hsi) ?_) | ((with_reducible refine al 9 ?_);refine ab (hsi) ?_) | ((with_reducible refine ao 15 ?_);(refine lq (R:=[(b4,_),(b3,_)]) hex (List.perm_append_comm (l₁:=[(b4,_),(b3,_)])) ?_;rintro _ K' (rfl | ⟨s3,rfl⟩))) | refine sb (fun nb_ hnb_=>?_) | refine s2 (fun h=>?_) (fun h=>?_) | fail)
       all_goals exact hz _
     | some s2=>
      rw[hst]at hex
      change aj _ _ _ _ (fun v L=>v=.tup [.agg (cq s2 o t),.bool true]∧L=am o 1 (s2.regs.map az)++am t 1 (s2.taint.map bD))at hex
      have hrun2:cx c.ins (c.ins.length-(k+1)) s2=cx c.ins c.ins.length s:=by
       rw[←hrun,hm,Bb hin (by rw[hi];exact p3) (by rw[hi];exact hst),show c.ins.length-(k+1)=m by omega]
      have hls:=yZ hst
      unfold gr
      rcases o with _ | b1<;>rcases t with _ | b2
      all_goals
       repeat' (first | refine st ?_ | ((with_reducible refine ao 9 ?_);refine af (hsi) ?_) | ((with_reducible refine al 9 ?_);refine ab (hsi) ?_) | ((with_reducible refine ao 15 ?_);(refine lq (R:=[(b4,_),(b3,_)]) hex (List.perm_append_comm (l₁:=[(b4,_),(b3,_)])) ?_;rintro _ _ ⟨rfl,rfl⟩)) | refine sb (fun nb_ hnb_=>?_) | refine s2 (fun h=>?_) (fun h=>?_) | fail)
       exact⟨k+1,s2,by omega,by omega,⟨he.step hU hst,⟨by omega,by omega⟩,hrun2⟩,gh (by rw[bc (by omega:k<c.ins.length) (by omega)]<;>rfl) rfl⟩
end
end Go.Proofs.YtljkdffikfkcgaaGreat.Am
end
section
namespace Go.Proofs.YtljkdffikfkcgaaGreat.Am
set_option linter.unusedVariables false
set_option maxRecDepth 100000
def qZ(Q:R)(n4:Kn)(L5:SH)(x6 x8 x7:AV):Prop:=
 (true=true)∧(
 di [] 2 1 x6 x8 L5 fun x11 r12=>
 dl [] 3 x11 L5 fun x13 r14=>
 di [rm 3 r14,rm 2 r12] 6 1 x7 x8 L5 fun x15 r16=>
 dl [rm 3 r14,rm 2 r12] 7 x15 L5 fun x17 r18=>
 wb .neq 3 x13 x17 fun x19=>
 wk x19 (
 Q (.bool false) L5) (
 wb .add 3 x8 (.int .i64 1) fun x20=>
 n4 [x6,x7,x20] L5))
def ie(Q:R)(v3:Vs)(L5:SH)(n4:Kn):Prop:=
 ui 0 1 5 v3 fun x6 x7 x8=>
 W.len x6 fun x9=>
 wb .lss 3 x8 x9 fun x10=>
 wk x10 (
 (qZ Q n4 L5 x6 x8 x7)) (
 Q (.bool true) L5)
def iV(t0 t1:AV)(L:SH)(Q:R):Prop:=
 W.len t0 fun x0=>
 W.len t1 fun x1=>
 wb .neq 3 x0 x1 fun x2=>
 wk x2 (
 Q (.bool false) L) (
 W.loop (ie Q) [t0,t1,(.int .i64 0)] L)
theorem q6(t0 t1:AV)(L:SH)(Q:R)(h:iV t0 t1 L Q):aj Tryz.prog 16 [t0,t1] L Q:=
 bx ⟨fun _=>none,fun k=>if k=4 then [0,1,5]else [],fun _=>[],fun k=>if k=6 then [0,0,3,7,0,0,48,112,255]else []⟩ Tryz.func16 (by kernel_rfl) (by kernel_rfl) h
end Go.Proofs.YtljkdffikfkcgaaGreat.Am
end
section
namespace Go.Proofs.YtljkdffikfkcgaaGreat.Am
set_option maxRecDepth 100000
set_option linter.unusedVariables false
theorem Fa(l:List Int)(hl:l.length<2^62):aD Tryz.prog 16 [.lst (l.map az),.lst (l.map az)] (.bool true):=by
 refine q6 _ _ _ _ ?_
 unfold iV
 generalize hQ:(fun(u:AV) (K:SH)=>u=AV.bool true∧K=[])=Q
 have hq:Q (.bool true) []:=by subst hQ;exact⟨rfl,rfl⟩
 clear hQ
 have d0:decide ((l.length:Int)≠(l.length:Int))=false:=by simp
 repeat' (first | refine st ?_ | refine sb (fun nb_ hnb_=>?_) | refine s2 (fun h=>?_) (fun h=>?_) | fail)
 refine eX l.length (fun _=>True) (fun i=>[.lst (l.map az),.lst (l.map az),.int .i64 i]) hl trivial rfl (fun i h1 hd hi _ nx hn=>?_) (fun i h1 hd _ nx=>?_)
 all_goals unfold ie
 ·have hx:=aw (f:=az) h1
  have d1:decide (l[i]≠l[i])=false:=by simp
  repeat' (first | refine st ?_ | refine sb (fun nb_ hnb_=>?_) | refine s2 (fun h=>?_) (fun h=>?_) | fail)
  exact hn trivial
 ·repeat' (first | refine st ?_ | refine sb (fun nb_ hnb_=>?_) | refine s2 (fun h=>?_) (fun h=>?_) | fail)
  exact hq
end Go.Proofs.YtljkdffikfkcgaaGreat.Am
end
section
namespace Go.Proofs.YtljkdffikfkcgaaGreat.Am
set_option maxRecDepth 100000
set_option linter.unusedVariables false
set_option linter.unusedSectionVars false
section
variable (c:sx) (s:bC) (U:List Int) (hU:U.length≤2^30) (hr:s.regs.length<2^40) (ht:s.taint.length<2^40) (hsh:∀l∈s.taint,l.length≤2^30) (hsub:∀l∈s.taint,∀x∈l,x∈U) (hc:c.ins.length<2^40)
include hU hr ht hsh hsub hc
theorem Cc:aD Tryz.prog 7 [.agg c.enc,.agg s.enc] (zK (bL c s)):=by
 refine aj.fz (uN _ _ _ _ ?_)
 unfold kD
 generalize hQ:(fun(v:AV) (L:SH)=>∃v2 L2,aN [v] L [v2] L2∧v2=zK (bL c s)∧L2=[])=Q
 have hq:∀v L,Fz L v (zK (bL c s))→Q v L:=fun v L h=>by
  subst hQ;exact⟨_,[],aN.all h,rfl,rfl⟩
 clear hQ
 by_cases p1:(s.regs.length:Int)=c.regs
 ·have d1:decide ((s.regs.length:Int)≠c.regs)=false:=by simpa using p1
  by_cases p2:(s.taint.length:Int)=c.regs
  ·have d2:decide ((s.taint.length:Int)≠c.regs)=false:=by simpa using p2
   have hT:iR U s:=⟨by omega,hr,hsh,hsub⟩
   have e:bL c s=cx c.ins c.ins.length s:=by unfold bL;rw[if_pos ⟨p1,p2⟩]
   rw[e]at hq
   have hcl:=E8 s hr ht hsh
   repeat' (first | refine st ?_ | ((with_reducible refine ao 14 ?_);(refine lq (K:=[]) hcl (List.Perm.refl _) ?_;rintro _ _ ⟨o,t,rfl,rfl,ho,ht2⟩)) | refine sb (fun nb_ hnb_=>?_) | refine s2 (fun h=>?_) (fun h=>?_) | fail)
   rename_i b3 _
   rcases o with _ | b1<;>rcases t with _ | b2
   all_goals
    repeat' (first | refine st ?_ | refine sb (fun nb_ hnb_=>?_) | refine s2 (fun h=>?_) (fun h=>?_) | fail)
    exact zS c s U hU hT hc _ _ ho ht2 b3 nb_ Q hq
  ·have d2:decide ((s.taint.length:Int)≠c.regs)=true:=by simpa using p2
   have e:bL c s=(bC.zero,false):=by unfold bL;rw[if_neg (fun h=>p2 h.2)]
   rw[e]at hq
   repeat' (first | refine st ?_ | refine sb (fun nb_ hnb_=>?_) | refine s2 (fun h=>?_) (fun h=>?_) | fail)
   exact hq _ _ (kw (lr _))
 ·have d1:decide ((s.regs.length:Int)≠c.regs)=true:=by simpa using p1
  have e:bL c s=(bC.zero,false):=by unfold bL;rw[if_neg (fun h=>p1 h.1)]
  rw[e]at hq
  repeat' (first | refine st ?_ | refine sb (fun nb_ hnb_=>?_) | refine s2 (fun h=>?_) (fun h=>?_) | fail)
  exact hq _ _ (kw (lr _))
end
theorem Fb(s:bC)(h1:s.regs.length<2^40)(h2:s.taint.length<2^40)(h3:∀l∈s.taint,l.length≤2^30):aD Tryz.prog 8 [.agg s.enc,.agg s.enc] (.bool true):=by
 refine lJ _ _ _ _ ?_
 unfold gt
 generalize hQ:(fun(v:AV) (L:SH)=>v=AV.bool true∧L=[])=Q
 have hq:Q (.bool true) []:=by subst hQ;exact⟨rfl,rfl⟩
 clear hQ
 have d1:decide (s.pc≠s.pc)=false:=by simp
 have d2:decide (s.ev≠s.ev)=false:=by simp
 have d3:decide ((s.regs.length:Int)≠(s.regs.length:Int))=false:=by simp
 have d4:decide ((s.taint.length:Int)≠(s.taint.length:Int))=false:=by simp
 repeat' (first | refine st ?_ | refine sb (fun nb_ hnb_=>?_) | refine s2 (fun h=>?_) (fun h=>?_) | fail)
 refine sM s.regs.length (fun i=>([.pptr [s.enc] 0 0,.pptr [s.enc] 0 0,.int .i64 i],[])) (fun i=>True) trivial rfl rfl ?_
 intro i hi _
 dsimp only
 unfold fM
 rcases Nat.lt_or_ge i s.regs.length with g1 | g1
 ·have hd:=bW g1
  have hx:=aw (f:=az) g1
  have d5:decide (s.regs[i]≠s.regs[i])=false:=by simp
  repeat' (first | refine st ?_ | refine sb (fun nb_ hnb_=>?_) | refine s2 (fun h=>?_) (fun h=>?_) | fail)
  exact⟨i+1,by omega,by omega,trivial,gh (by rw[bc g1 (by omega)]<;>rfl) rfl⟩
 ·have hd:=cX g1
  repeat' (first | refine st ?_ | refine sb (fun nb_ hnb_=>?_) | refine s2 (fun h=>?_) (fun h=>?_) | fail)
  refine sM s.taint.length (fun i=>([.pptr [s.enc] 0 0,.pptr [s.enc] 0 0,.int .i64 i],[])) (fun i=>True) trivial rfl rfl ?_
  intro j hj _
  dsimp only
  unfold fL
  rcases Nat.lt_or_ge j s.taint.length with g2 | g2
  ·have hd2:=bW g2
   have hy:=aw (f:=bD) g2
   have hsame:=Fa s.taint[j] (by have:=h3 _ (List.getElem_mem g2);omega)
   repeat' (first | refine st ?_ | ((with_reducible refine ao 16 ?_);refine af (hsame) ?_) | ((with_reducible refine al 16 ?_);refine ab (hsame) ?_) | refine sb (fun nb_ hnb_=>?_) | refine s2 (fun h=>?_) (fun h=>?_) | fail)
   exact⟨j+1,by omega,by omega,trivial,gh (by rw[bc g2 (by omega)]<;>rfl) rfl⟩
  ·have hd2:=cX g2
   repeat' (first | refine st ?_ | refine sb (fun nb_ hnb_=>?_) | refine s2 (fun h=>?_) (fun h=>?_) | fail)
   exact hq
end Go.Proofs.YtljkdffikfkcgaaGreat.Am
end
section
namespace Go.Proofs.YtljkdffikfkcgaaGreat.Am
set_option linter.unusedVariables false
structure q7(s u:bC):Prop where
 pc:u.pc=s.pc
 ev:u.ev=s.ev
 taint:u.taint=s.taint
 len:u.regs.length=s.regs.length
 same:s.taint.length=s.regs.length
 val:∀k:Nat,s.taint.getD k []=[]→s.regs.getD k 0=u.regs.getD k 0
theorem wQ{α:Type}(l:List α)(a k:Nat)(v d:α)(h:a<l.length):(l.set a v).getD k d=if a=k then v else l.getD k d:=by
 rw[List.getD_eq_getElem?_getD,List.getElem?_set]
 by_cases e:a=k
 ·rw[if_pos e,if_pos (by omega),if_pos e];rfl
 ·rw[if_neg e,if_neg e,List.getD_eq_getElem?_getD]
theorem q7.put{s u:bC}(h:q7 s u){a v v':Int}{t:List Int}(ha:s.has a=true)(hv:t=[]→v=v'):q7 (s.put a v t) (u.put a v' t):=by
 have h1:a.toNat<s.regs.length:=by
  have:=(hM (i:=a) (n:=s.regs.length)).1 ha
  omega
 refine⟨by simp[bC.put,h.pc],by simp[bC.put,h.ev],by simp[bC.put,h.taint],by simp[bC.put,h.len],by simp[bC.put,h.same],fun k hk=>?_⟩
 have hs:=h.same
 have hl:=h.len
 simp only[bC.put]at hk ⊢
 rw[wQ _ _ _ _ _ (by omega)]at hk
 rw[wQ _ _ _ _ _ h1,wQ _ _ _ _ _ (by omega)]
 by_cases e:a.toNat=k
 ·rw[if_pos e]at hk
  rw[if_pos e,if_pos e]
  exact hv hk
 ·rw[if_neg e]at hk
  rw[if_neg e,if_neg e]
  exact h.val k hk
theorem q7.has{s u:bC}(h:q7 s u)(r:Int):u.has r=s.has r:=by unfold bC.has;rw[h.len]
theorem q7.tnt{s u:bC}(h:q7 s u)(r:Int):u.tnt r=s.tnt r:=by unfold bC.tnt;rw[h.taint]
theorem q7.reg{s u:bC}(h:q7 s u)(r:Int)(ht:s.tnt r=[]):s.reg r=u.reg r:=h.val r.toNat ht
theorem DD{ins:List av}:∀(k:Nat) {s:bC},(cx ins k s).2=true→∀m,cx ins m (cx ins k s).1=((cx ins k s).1,true):=by
 have stop:∀(s:bC) (m:Nat),inB s.pc ins.length=true→((ins.getD s.pc.toNat default).op<1∨5<(ins.getD s.pc.toNat default).op)→cx ins m s=(s,true):=fun s m h1 h2=>by
  cases m<;>(unfold cx;rw[if_pos h1,if_pos h2])
 intro k
 induction k with
 | zero=>
  intro s h m
  unfold cx at h
  split at h
  ·rename_i h1
   split at h
   ·rename_i h2
    have e:cx ins 0 s=(s,true):=stop s _ h1 h2
    rw[e]
    exact stop s m h1 h2
   ·cases h
  ·cases h
 | succ k ih=>
  intro s h m
  unfold cx at h
  split at h
  ·rename_i h1
   split at h
   ·rename_i h2
    have e:cx ins (k+1) s=(s,true):=stop s _ h1 h2
    rw[e]
    exact stop s m h1 h2
   ·rename_i h2
    split at h
    ·cases h
    ·rename_i s2 he
     have e:cx ins (k+1) s=cx ins k s2:=by
      rw[cx,if_pos h1,if_neg h2,he]
     rw[e]
     exact ih h m
  ·cases h
end Go.Proofs.YtljkdffikfkcgaaGreat.Am
end
