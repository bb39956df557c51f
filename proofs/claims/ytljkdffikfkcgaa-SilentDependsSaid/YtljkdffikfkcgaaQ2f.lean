/- A part of the proof; the statement is proved in the last part. -/
import Derived.Test.YtljkdffikfkcgaaQ2e
set_option linter.unusedSimpArgs false
set_option linter.unusedVariables false
section
namespace Go.Proofs.Ytljkdffikfkcgaa.Am
set_option maxRecDepth 100000
set_option maxHeartbeats 1000000
set_option linter.unusedVariables false
def BT(n:Int):List AV:=[.int .u8 n]
def eK{α:Type}(z:α)(n:Nat)(l:List α):List α:=l.take n++List.replicate (n-l.length) z
def zm{α:Type}(z:α)(n:Nat)(l:List α)(i:Nat):List α:=l.take i++List.replicate (n-i) z
theorem Bi{α:Type}{z:α}{n i:Nat}{l:List α}(h1:i≤n)(h2:i≤l.length):(zm z n l i).length=n:=by simp[zm];omega
theorem Bj{α:Type}{z:α}{n i:Nat}{l:List α}(h1:i≤n)(h2:i≤l.length)(h:i=n∨i=l.length):zm z n l i=eK z n l:=by
 unfold zm eK
 rcases h with rfl | rfl
 ·simp[show i-l.length=0 by omega]
 ·rw[List.take_of_length_le (Nat.le_refl _),List.take_of_length_le h1]
theorem ES{α β:Type}{z:α}{n i:Nat}{l:List α}(f:α→β)(h1:i<n)(h2:i<l.length):((zm z n l i).map f).set i (f l[i])=(zm z n l (i+1)).map f:=by
 unfold zm
 obtain⟨m,hm⟩:∃m,n-i=m+1:=⟨n-i-1,by omega⟩
 have hl:((l.take i).map f).length=i:=by simp;omega
 rw[hm,show n-(i+1)=m by omega,List.replicate_succ,List.take_succ_eq_append_getElem h2,List.map_append,List.map_append,List.set_append_right _ _ (by omega),hl,Nat.sub_self,List.map_append,List.append_assoc]
 rfl
theorem Dn{K:SH}{A B:List (List AV)}{x y:List AV}(h:pV K x y)(j:Nat)(r r':List AV)(h1:(A++x::B)[j]? =some r)(h2:(A++y::B)[j]? =some r'):pV K r r':=by
 rcases Nat.lt_or_ge j A.length with hj | hj
 ·rw[List.getElem?_append_left hj]at h1 h2
  rw[h1]at h2;cases h2
  exact pV.refl _ _
 ·rw[List.getElem?_append_right hj]at h1 h2
  generalize j-A.length=k at h1 h2
  match k with
  | 0=>cases h1;cases h2;exact h
  | k+1=>
   simp only[List.getElem?_cons_succ]at h1 h2
   rw[h1]at h2;cases h2
   exact pV.refl _ _
theorem kT{α:Type}{z:α}{n:Nat}{l:List α}:(eK z n l).length=n:=by simp[eK];omega
def Jf(c:lf)(n:Nat)(pc:Int)(regs taint:List Int):bK:=⟨pc.tmod c.ins.length,eK 0 n regs,eK [] n (taint.map fun x=>[x]),0⟩
def ET(x:Int):List AV:=[.lst [aJ x]]
def dq(n:Nat)(l:List Int)(i:Nat):List (List AV):=(l.take i).map ET++List.replicate (n-i) [.nils]
theorem sd{n i:Nat}{l:List Int}(h1:i≤n)(h2:i≤l.length):(dq n l i).length=n:=by simp[dq];omega
theorem BU{n i:Nat}{l:List Int}{v:AV}(h1:i<n)(h2:i<l.length):(dq n l i).set i [v]=(l.take i).map ET++[v]::List.replicate (n-(i+1)) [.nils]:=by
 unfold dq
 obtain⟨m,hm⟩:∃m,n-i=m+1:=⟨n-i-1,by omega⟩
 rw[hm,show n-(i+1)=m by omega,List.replicate_succ,List.set_append_right _ _ (by simp;omega)]
 simp[Nat.min_eq_left (Nat.le_of_lt h2)]
theorem An{n i:Nat}{l:List Int}(h1:i<n)(h2:i<l.length):dq n l (i+1)=(l.take i).map ET++ET l[i]::List.replicate (n-(i+1)) [.nils]:=by
 unfold dq
 rw[List.take_succ_eq_append_getElem h2,List.map_append,List.append_assoc]
 rfl
def EU(l:List Int):List AV:=if l=[]then [.nils]else cC l
theorem BV{n i:Nat}{l:List Int}:dq n l i=(zm [] n (l.map fun x=>[x]) i).map EU:=by
 unfold dq zm
 rw[List.map_append,List.map_replicate,←List.map_take,List.map_map]
 rfl
section
variable {Q:R} {n:Nat} {ins:List aw} {regs taint:List Int} {b2 bp bR bT:Nat} {pc:Int}
def zn(b2 bR bT:Nat)(rs:List Int)(ts:List (List AV)):SH:=(bT,⟨1,ts⟩)::(bR,⟨1,rs.map aJ⟩)::[(b2,⟨4,[[.int .i64 0,.nils,.nils,.int .i64 0]]⟩)]
theorem GQ(hn:n<2^30)(ht:taint.length<2^63)(ht2:∀x∈taint,0≤x∧x<256)(rs:List Int)(hrs:rs.length=n)
  (hq:∀L:SH,aV [.agg [.int .i64 pc,.sl bR 0 n,.sl bT 0 n,.int .i64 0]] L [.agg [.int .i64 pc,.sl bR 0 n,.lst ((eK [] n (taint.map fun x=>[x])).map cC),.int .i64 0]] [(bR,⟨1,rs.map aJ⟩)]→Q (.agg [.int .i64 pc,.sl bR 0 n,.sl bT 0 n,.int .i64 0]) L) :
  W.loop (eI Q) [.lst (taint.map BT),.pptr [[.int .i64 n,.lst (ins.map aw.enc)]] 0 0,.ptr b2 0 0,.pptr [[.int .i64 pc,.sl bR 0 n,.sl bT 0 n,.int .i64 0]] 0 0,.int .i64 0] (zn b2 bR bT rs (dq n taint 0)):=by
 refine cH (β:=Unit) (min n taint.length) (fun i _=>([.lst (taint.map BT),.pptr [[.int .i64 n,.lst (ins.map aw.enc)]] 0 0,.ptr b2 0 0,.pptr [[.int .i64 pc,.sl bR 0 n,.sl bT 0 n,.int .i64 0]] 0 0,.int .i64 i],zn b2 bR bT rs (dq n taint i))) (fun _ _=>True) () trivial (.refl _ _) ?_
 intro i _ hi _
 dsimp only
 unfold eI
 generalize hnx:(fun(vs':List AV) (L':SH)=>∃j o',i<j∧j≤min n taint.length∧_)=nx
 have hx:=fun h:i<taint.length=>aC (f:=BT) h
 have hfz:(i=n∨i=taint.length)→∀b:Nat×Blk,Fz [(bT,⟨1,dq n taint i⟩),b] (.sl bT 0 n) (.lst ((eK [] n (taint.map fun x=>[x])).map cC)):=fun he b=>by
  have hl:(taint.map fun x=>[x]).length=taint.length:=by simp
  rw[←Bj (z:=[]) (l:=taint.map fun x=>[x]) (show i≤n by omega) (by omega) (by omega)]
  refine Fz.slm (f:=EU) (size:=1) (.head _) BV (by decide) (by rw[Bi (by omega) (by omega)]) (fun y _=>by unfold EU;split<;>rfl) (fun y _ q a a2 h1 h2=>?_)
  unfold EU at h1
  split at h1
  ·rename_i hy
   subst hy
   match q with
   | 0=>cases h1;cases h2;exact .nils
   | q+1=>simp at h1
  ·rw[h1]at h2;cases h2;exact .refl _
 unfold zn
 by_cases g1:i<n
 ·by_cases g2:i<taint.length
  ·have hd1:=ct g1
   have hd2:=ct g2
   have hx:=hx g2
   have hi1:=bH g1 (by omega)
   have hb:=ht2 _ (List.getElem_mem g2)
   have hcv:IntKind.i64.wrap taint[i]=taint[i]:=IntWalk.i64_in _ (by omega)
   have hrow:(dq n taint i)[i]? =some [.nils]:=by
    unfold dq
    rw[List.getElem?_append_right (by simp;omega)]
    simp only[List.length_map,List.length_take,Nat.min_eq_left hi,Nat.min_eq_left (Nat.le_of_lt g2),Nat.sub_self]
    obtain⟨m,hm⟩:∃m,n-i=m+1:=⟨n-i-1,by omega⟩
    rw[hm];rfl
   have hlen:(dq n taint i).length=n:=sd (by omega) (by omega)
   repeat' (first | refine st ?_ | refine sb (fun nb_ hnb_=>?_) | refine s2 (fun h=>?_) (fun h=>?_) | fail)
   subst hnx
   refine⟨i+1,(),by omega,by omega,trivial,?_⟩
   refine aV.rowA (A:=[]) (b:=bT) (rows:=(dq n taint i).set i [.sl nb_ 0 1]) (rows':=dq n taint (i+1)) (.one (.there _ (.here _)) (.one (.there _ (.here _)) (.one (.there _ (.here _)) (.nil _)))) (by rw[List.length_set,sd (by omega) (by omega),sd (by omega) (by omega)]) ?_ rfl
   rw[BU g1 g2,An g1 g2]
   exact Dn (.cons (Fz.sls (l:=[taint[i]]) (f:=aJ) (size:=1) (.head _) (by rw[hcv];rfl) (by decide) rfl) .nil)
  ·have hd1:=ct g1
   have hd2:decide ((i:Int)<(taint.length:Int))=false:=by simp;omega
   repeat' (first | refine st ?_ | refine sb (fun nb_ hnb_=>?_) | refine s2 (fun h=>?_) (fun h=>?_) | fail)
   refine hq _ ?_
   exact aV.drop (K:=[(bT,⟨1,dq n taint i⟩),(b2,⟨4,[[.int .i64 pc,.sl bR 0 n,.sl bT 0 n,.int .i64 0]]⟩)]) (.cons _ (.swap _ _ _)) rfl (pV.cons (Fz.aggs (.cons (.refl _) (.cons (.refl _) (.cons (hfz (.inr (by omega)) _) (.cons (.refl _) .nil))))) .nil).at_.2
 ·have hd1:decide ((i:Int)<(n:Int))=false:=by simp;omega
  repeat' (first | refine st ?_ | refine sb (fun nb_ hnb_=>?_) | refine s2 (fun h=>?_) (fun h=>?_) | fail)
  refine hq _ ?_
  exact aV.drop (K:=[(bT,⟨1,dq n taint i⟩),(b2,⟨4,[[.int .i64 pc,.sl bR 0 n,.sl bT 0 n,.int .i64 0]]⟩)]) (.cons _ (.swap _ _ _)) rfl (pV.cons (Fz.aggs (.cons (.refl _) (.cons (.refl _) (.cons (hfz (.inl (by omega)) _) (.cons (.refl _) .nil))))) .nil).at_.2
theorem GR(hn:n<2^30)(hr:regs.length<2^63)(ht:taint.length<2^63)(ht2:∀x∈taint,0≤x∧x<256)
  (hq:∀L:SH,aV [.agg [.int .i64 pc,.sl bR 0 n,.sl bT 0 n,.int .i64 0]] L [.agg [.int .i64 pc,.sl bR 0 n,.lst ((eK [] n (taint.map fun x=>[x])).map cC),.int .i64 0]] [(bR,⟨1,(eK 0 n regs).map aJ⟩)]→Q (.agg [.int .i64 pc,.sl bR 0 n,.sl bT 0 n,.int .i64 0]) L) :
  W.loop (gf Q) [.lst (regs.map aJ),.lst (taint.map BT),.pptr [[.int .i64 n,.lst (ins.map aw.enc)]] 0 0,.ptr b2 0 0,.pptr [[.int .i64 pc,.sl bR 0 n,.sl bT 0 n,.int .i64 0]] 0 0,.int .i64 0] (zn b2 bR bT (zm 0 n regs 0) (dq n taint 0)):=by
 refine cH (β:=Unit) (min n regs.length) (fun i _=>([.lst (regs.map aJ),.lst (taint.map BT),.pptr [[.int .i64 n,.lst (ins.map aw.enc)]] 0 0,.ptr b2 0 0,.pptr [[.int .i64 pc,.sl bR 0 n,.sl bT 0 n,.int .i64 0]] 0 0,.int .i64 i],zn b2 bR bT (zm 0 n regs i) (dq n taint 0))) (fun _ _=>True) () trivial (.refl _ _) ?_
 intro i _ hi _
 dsimp only
 unfold gf
 generalize hnx:(fun(vs':List AV) (L':SH)=>∃j o',i<j∧j≤min n regs.length∧_)=nx
 have hx:=fun h:i<regs.length=>aC (f:=aJ) h
 have hend:(i=n∨i=regs.length)→W.loop (eI Q) [.lst (taint.map BT),.pptr [[.int .i64 n,.lst (ins.map aw.enc)]] 0 0,.ptr b2 0 0,.pptr [[.int .i64 pc,.sl bR 0 n,.sl bT 0 n,.int .i64 0]] 0 0,.int .i64 0] (zn b2 bR bT (zm 0 n regs i) (dq n taint 0)):=fun he=>by
  rw[Bj (by omega) (by omega) he]
  exact GQ hn ht ht2 _ kT hq
 unfold zn at hend ⊢
 by_cases g1:i<n
 ·by_cases g2:i<regs.length
  ·have hd1:=ct g1
   have hd2:=ct g2
   have hx:=hx g2
   have hi1:=bH g1 (by omega)
   have hlen:((zm 0 n regs i).map aJ).length=n:=by rw[List.length_map,Bi (by omega) (by omega)]
   have hrow:((zm 0 n regs i).map aJ)[i]? =some [.int .i64 0]:=by
    unfold zm
    rw[List.map_append,List.getElem?_append_right (by simp;omega)]
    simp only[List.length_map,List.length_take,Nat.min_eq_left (Nat.le_of_lt g2),Nat.sub_self]
    obtain⟨m,hm⟩:∃m,n-i=m+1:=⟨n-i-1,by omega⟩
    rw[hm];rfl
   repeat' (first | refine st ?_ | refine sb (fun nb_ hnb_=>?_) | refine s2 (fun h=>?_) (fun h=>?_) | fail)
   subst hnx
   refine⟨i+1,(),by omega,by omega,trivial,?_⟩
   unfold zn
   rw[←ES aJ g1 g2]
   exact .refl _ _
  ·have hd1:=ct g1
   have hd2:decide ((i:Int)<(regs.length:Int))=false:=by simp;omega
   have hend:=hend (.inr (by omega))
   repeat' (first | exact hend | refine st ?_ | refine sb (fun nb_ hnb_=>?_) | refine s2 (fun h=>?_) (fun h=>?_) | fail)
 ·have hd1:decide ((i:Int)<(n:Int))=false:=by simp;omega
  have hend:=hend (.inl (by omega))
  repeat' (first | exact hend | refine st ?_ | refine sb (fun nb_ hnb_=>?_) | refine s2 (fun h=>?_) (fun h=>?_) | fail)
end
theorem zo(n:Nat)(ins:List aw)(pc:Int)(regs taint:List Int)(hn:n<2^20)(hi:0<ins.length)(hi2:ins.length<2^40)(hp:0≤pc∧pc<256)(hr:regs.length<2^63)(ht:taint.length<2^63)(ht2:∀x∈taint,0≤x∧x<256):
  am Try.prog 5 [.agg [.int .i64 n,.lst (ins.map aw.enc)],.int .u8 pc,.lst (regs.map aJ),.lst (taint.map BT)] [] fun u K=>∃(v:AV) (bR:Nat),u=v∧v=.agg [.int .i64 (pc.tmod ins.length),.sl bR 0 n,.lst ((eK [] n (taint.map fun x=>[x])).map cC),.int .i64 0]∧K=[(bR,⟨1,(eK 0 n regs).map aJ⟩)]:=by
 refine am.fz (uY _ _ _ _ _ _ ?_)
 unfold mB
 generalize hQ:(fun(v:AV) (L:SH)=>∃v2 L2,aV [v] L [v2] L2∧∃(v:AV) (bR:Nat),_)=Q
 have hq:∀(bR bT:Nat) (L:SH),aV [.agg [.int .i64 (pc.tmod ins.length),.sl bR 0 n,.sl bT 0 n,.int .i64 0]] L [.agg [.int .i64 (pc.tmod ins.length),.sl bR 0 n,.lst ((eK [] n (taint.map fun x=>[x])).map cC),.int .i64 0]] [(bR,⟨1,(eK 0 n regs).map aJ⟩)]→Q (.agg [.int .i64 (pc.tmod ins.length),.sl bR 0 n,.sl bT 0 n,.int .i64 0]) L:=fun bR bT L h=>by
  subst hQ;exact⟨_,_,h,_,bR,rfl,rfl,rfl⟩
 clear hQ
 have hcv:IntKind.i64.wrap pc=pc:=IntWalk.i64_in pc (by omega)
 have hz:decide ((ins.length:Int)=0)=false:=decide_eq_false (by omega)
 have e0:List.replicate n [AV.int .i64 0]=(zm 0 n regs 0).map aJ:=by simp[zm,aJ]
 have e1:List.replicate n [AV.nils]=dq n taint 0:=by simp[dq]
 repeat' (first | refine st ?_ | refine sb (fun nb_ hnb_=>?_) | refine s2 (fun h=>?_) (fun h=>?_) | fail)
 rw[hcv,e0,e1]
 refine GR (pc:=pc.tmod ins.length) (by omega) hr ht ht2 fun L h=>hq _ _ L h
end Go.Proofs.Ytljkdffikfkcgaa.Am
end
section
namespace Go.Proofs.Ytljkdffikfkcgaa.Am
set_option linter.unusedVariables false
set_option maxRecDepth 100000
def jm(n46:Kn)(L69:SH)(x51 x48 x52 x49 x50:AV):Prop:=
 (true=true)∧(
 bx 1 x51 [] 1 L69 fun x79 r80=>
 di [rm 1 r80] 5 1 x48 x52 L69 fun x81 r82=>
 dl [rm 1 r80] 6 x81 L69 fun x83 r84=>
 di [] 7 1 x79 x52 L69 fun x85 r86=>
 ds [] 8 1 x85 x83 L69 fun L87 r88=>
 wb .add 3 x52 (.int .i64 1) fun x89=>
 n46 [x48,x49,x50,x51,x89] L87)
def jn(n46:Kn)(L69:SH)(x51 x52 x48 x49 x50:AV):Prop:=
 bo 2 x51 L69 fun x73=>
 Ba 1 x73 x52 L69 fun x75=>
 W.len x75 fun x76=>
 wb .gtr 3 x76 (.int .i64 0) fun x77=>
 wk x77 (
 (jm n46 L69 x51 x48 x52 x49 x50)) (
 wb .add 3 x52 (.int .i64 1) fun x90=>
 n46 [x48,x49,x50,x51,x90] L69)
def jo(Q:R)(n231:Kn)(L232:SH)(x233 x235 x234 x254:AV)(L256:SH)(q255:Ns):Prop:=
 wn [] q255 [] L232.names fun r257=>
 W.un .not x254 fun x258=>
 W.dgrd x258 false (fun k260=>W.faddr 2 x233 fun x263=>
 k260 x263 L256 rz) L256 fun x259 L262 r261=>
 W.dgrd x258 false (fun k265=>dl [] 14 x259 L262 fun x268 r269=>
 k265 x268 L262 r269) L262 fun x264 L267 r266=>
 W.dgrd x258 false (fun k271=>k271 x235 L267 rz) L267 fun x270 L273 r272=>
 W.dgrd x258 false (fun k275=>di [] 16 1 x264 x270 L273 fun x278 r279=>
 k275 x278 L273 r279) L273 fun x274 L277 r276=>
 W.dgrd x258 false (fun k281=>dl [] 17 x274 L277 fun x284 r285=>
 k281 x284 L277 r285) L277 fun x280 L283 r282=>
 W.dgrd x258 false (fun k287=>W.len x280 fun x290=>
 k287 x290 L283 rz) L283 fun x286 L289 r288=>
 W.dgrd x258 false (fun k292=>wb .eql 3 x286 (.int .i64 0) fun x295=>
 k292 x295 L289 rz) L289 fun x291 L294 r293=>
 W.dgrd x258 false (fun k297=>k297 x291 L294 rz) L294 fun x296 L299 r298=>
 W.dgrd x296 true (fun k301=>W.faddr 1 x233 fun x304=>
 k301 x304 L299 rz) L299 fun x300 L303 r302=>
 W.dgrd x296 true (fun k306=>dl [] 22 x300 L303 fun x309 r310=>
 k306 x309 L303 r310) L303 fun x305 L308 r307=>
 W.dgrd x296 true (fun k312=>k312 x235 L308 rz) L308 fun x311 L314 r313=>
 W.dgrd x296 true (fun k316=>di [] 24 1 x305 x311 L314 fun x319 r320=>
 k316 x319 L314 r320) L314 fun x315 L318 r317=>
 W.dgrd x296 true (fun k322=>dl [] 25 x315 L318 fun x325 r326=>
 k322 x325 L318 r326) L318 fun x321 L324 r323=>
 W.dgrd x296 true (fun k328=>W.faddr 1 x234 fun x331=>
 k328 x331 L324 rz) L324 fun x327 L330 r329=>
 W.dgrd x296 true (fun k333=>dl [rm 25 r323,rm 24 r317,rm 22 r307] 27 x327 L330 fun x336 r337=>
 k333 x336 L330 r337) L330 fun x332 L335 r334=>
 W.dgrd x296 true (fun k339=>k339 x235 L335 rz) L335 fun x338 L341 r340=>
 W.dgrd x296 true (fun k343=>di [rm 25 r323,rm 24 r317,rm 22 r307] 29 1 x332 x338 L341 fun x346 r347=>
 k343 x346 L341 r347) L341 fun x342 L345 r344=>
 W.dgrd x296 true (fun k349=>dl [rm 25 r323,rm 24 r317,rm 22 r307] 30 x342 L345 fun x352 r353=>
 k349 x352 L345 r353) L345 fun x348 L351 r350=>
 W.dgrd x296 true (fun k355=>wb .neq 2 x321 x348 fun x358=>
 k355 x358 L351 rz) L351 fun x354 L357 r356=>
 W.dgrd x258 false (fun k360=>W.pick x296 x354 (.bool false) fun x363=>
 k360 x363 L357 rz) L357 fun x359 L362 r361=>
 W.pick x258 (.bool true) x359 fun x364=>
 wk x364 (
 Q (.bool false) L362) (
 wb .add 3 x235 (.int .i64 1) fun x365=>
 n231 [x233,x234,x365] L362)
def jp(Q:R)(n231:Kn)(L232:SH)(x233 x235 x234:AV):Prop:=
 (true=true)∧(
 bx 2 x233 [] 1 L232 fun x241 r242=>
 di [] 3 1 x241 x235 L232 fun x243 r244=>
 dl [] 4 x243 L232 fun x245 r246=>
 bx 2 x234 [rm 4 r246,rm 3 r244,rm 1 r242] 6 L232 fun x248 r249=>
 di [rm 4 r246,rm 3 r244,rm 1 r242] 8 1 x248 x235 L232 fun x250 r251=>
 dl [rm 4 r246,rm 3 r244,rm 1 r242] 9 x250 L232 fun x252 r253=>
 wd [] 10 (.fn 7 []) [x245,x252] L232 (jo Q n231 L232 x233 x235 x234))
def cX(Q:R)(v230:Vs)(L232:SH)(n231:Kn):Prop:=
 wu 18 20 22 v230 fun x233 x234 x235=>
 bo 1 x233 L232 fun x237=>
 W.len x237 fun x238=>
 wb .lss 3 x235 x238 fun x239=>
 wk x239 (
 (jp Q n231 L232 x233 x235 x234)) (
 Q (.bool true) L232)
def jq(Q:R)(x96 x100 x104:AV)(L105:SH):Prop:=
 W.ext 0 x104 fun x106=>
 W.ext 1 x104 fun x107=>
 xH [(.int .i64 0),.nils,.nils,(.int .i64 0)] 4 x106 L105 fun x111 L112=>
 W.un .not x96 fun x113=>
 cj x113 false x107 L112 fun x114 L116=>
 wg x113 false (W.un .not x114) L116 fun x117 L119=>
 W.pick x113 (.bool true) x117 fun x121=>
 wg x121 false (W.faddr 0 x100) L119 fun x122 L124=>
 wg x121 false (wl x122 L124) L124 fun x126 L128=>
 wg x121 false (W.faddr 0 x111) L128 fun x130 L132=>
 wg x121 false (wl x130 L132) L132 fun x134 L136=>
 wg x121 false (wb .neq 3 x126 x134) L136 fun x138 L140=>
 W.pick x121 (.bool true) x138 fun x142=>
 wg x142 false (W.faddr 1 x100) L140 fun x143 L145=>
 wg x142 false (wl x143 L145) L145 fun x147 L149=>
 wg x142 false (W.len x147) L149 fun x151 L153=>
 wg x142 false (W.faddr 1 x111) L153 fun x155 L157=>
 wg x142 false (wl x155 L157) L157 fun x159 L161=>
 wg x142 false (W.len x159) L161 fun x163 L165=>
 wg x142 false (wb .neq 3 x151 x163) L165 fun x167 L169=>
 W.pick x142 (.bool true) x167 fun x171=>
 wg x171 false (W.faddr 2 x100) L169 fun x172 L174=>
 wg x171 false (wl x172 L174) L174 fun x176 L178=>
 wg x171 false (W.len x176) L178 fun x180 L182=>
 wg x171 false (W.faddr 1 x100) L182 fun x184 L186=>
 wg x171 false (wl x184 L186) L186 fun x188 L190=>
 wg x171 false (W.len x188) L190 fun x192 L194=>
 wg x171 false (wb .neq 3 x180 x192) L194 fun x196 L198=>
 W.pick x171 (.bool true) x196 fun x200=>
 wg x200 false (W.faddr 2 x111) L198 fun x201 L203=>
 wg x200 false (wl x201 L203) L203 fun x205 L207=>
 wg x200 false (W.len x205) L207 fun x209 L211=>
 wg x200 false (W.faddr 2 x100) L211 fun x213 L215=>
 wg x200 false (wl x213 L215) L215 fun x217 L219=>
 wg x200 false (W.len x217) L219 fun x221 L223=>
 wg x200 false (wb .neq 3 x209 x221) L223 fun x225 L227=>
 W.pick x200 (.bool true) x225 fun x229=>
 wk x229 (
 Q (.bool false) L227) (
 W.loop (cX Q) [x100,x111,(.int .i64 0)] L227)
def eM(Q:R)(x49 x51 x93:AV)(L94:SH):Prop:=
 W.ext 0 x93 fun x95=>
 W.ext 1 x93 fun x96=>
 xH [(.int .i64 0),.nils,.nils,(.int .i64 0)] 4 x95 L94 fun x100 L101=>
 dy 2 x49 L101 fun x102=>
 dy 4 x51 L101 fun x103=>
 wc (.fn 6 []) [x102,x103] L101 (jq Q x96 x100)
def cY(Q:R)(v45:Vs)(L47:SH)(n46:Kn):Prop:=
 Ah 4 14 15 16 17 v45 fun x48 x49 x50 x51 x52=>
 bo 1 x51 L47 fun x54=>
 W.len x54 fun x55=>
 wb .lss 3 x52 x55 fun x56=>
 cj x56 true x52 L47 fun x57 L59=>
 cj x56 true x48 L59 fun x60 L62=>
 wg x56 true (W.len x60) L62 fun x63 L65=>
 wg x56 true (wb .lss 3 x57 x63) L65 fun x67 L69=>
 W.pick x56 x67 (.bool false) fun x71=>
 wk x71 (
 (jn n46 L69 x51 x52 x48 x49 x50)) (
 dy 2 x49 L69 fun x91=>
 dy 4 x50 L69 fun x92=>
 wc (.fn 6 []) [x91,x92] L69 (eM Q x49 x51))
def jr(Q:R)(t4 x27 x35 x38:AV)(L39:SH):Prop:=
 xH [(.int .i64 0),.nils,.nils,(.int .i64 0)] 4 x38 L39 fun x43 L44=>
 W.loop (cY Q) [t4,x27,x35,x43,(.int .i64 0)] L44
def js(Q:R)(t2 t3 t5 t4 x27 x30:AV)(L31:SH):Prop:=
 xH [(.int .i64 0),.nils,.nils,(.int .i64 0)] 4 x30 L31 fun x35 L36=>
 dy 2 x27 L36 fun x37=>
 wc (.fn 5 []) [x37,t2,t3,t5] L36 (jr Q t4 x27 x35)
def jt(Q:R)(t1 t2 t3 t5 t4 x2:AV)(L3:SH):Prop:=
 xH [.nils,.nils,.nils,.nils,.nils,.nils,.nils] 7 x2 L3 fun x7 L8=>
 (true=true)∧(
 bx 6 x7 [] 1 L8 fun x10 r11=>
 W.conv .i64 t1 fun x12=>
 bx 6 x7 [rm 1 r11] 5 L8 fun x14 r15=>
 W.len x14 fun x16=>
 wb .rem 3 x12 x16 fun x17=>
 di [] 8 2 x10 x17 L8 fun x18 r19=>
 dr [] 9 2 x18 L8 fun x20 r21=>
 W.calm [rm 9 r21,rm 8 r19,rm 5 r15,rm 1 r11] ⟨10,[],[],[],false,[]⟩ (
 W.alloc [(.int .i64 0),.nils] L8 fun x22 L23=>
 wn [] [] (af x22) [] fun r24=>
 ds [] 11 2 x22 x20 L23 fun L25 r26=>
 W.frz1 x22 L25 fun x27 L28=>
 dy 2 x27 L28 fun x29=>
 wc (.fn 5 []) [x29,t2,t3,t5] L28 (js Q t2 t3 t5 t4 x27)))
def eW(t0 t1 t2 t3 t4 t5:AV)(L:SH)(Q:R):Prop:=
 W.len t0 fun x0=>
 wb .gtr 3 x0 (.int .i64 200) fun x1=>
 wk x1 (
 Q (.bool true) L) (
 wc (.fn 4 []) [t0] L (jt Q t1 t2 t3 t5 t4))
theorem ju(t0 t1 t2 t3 t4 t5:AV)(L:SH)(Q:R)(h:eW t0 t1 t2 t3 t4 t5 L Q):am Try.prog 3 [t0,t1,t2,t3,t4,t5] L Q:=
 bC ⟨fun _=>none,fun k=>if k=8 then [4,14,15,16,17]else if k=17 then [18,20,22]else [],fun k=>if k=3 then [13]else if k=4 then [14]else if k=5 then [15]else if k=6 then [16]else if k=12 then [18]else if k=13 then [20]else [],fun k=>if k=4 then [0,1,0,4,0,16,48,124,255,511,0,2047]else if k=11 then [0,1,0,0,0,24,56,127,255]else if k=19 then [0,1,0,7,15,0,32,0,224,480,1023,2047,4095,8191,16383,8191,65535,131071,262143,524287,1048575,2097151,4194303,2097151,16777215,33554431,2097151,69206015,2097151,471859199,1008730111,2147483647,4294967295,8589934591]else []⟩ Try.func3 (by kernel_rfl) (by kernel_rfl) h
end Go.Proofs.Ytljkdffikfkcgaa.Am
end
section
namespace Go.Proofs.Ytljkdffikfkcgaa.Am
set_option linter.unusedVariables false
set_option maxRecDepth 100000
def qq(Q:R)(n4:Kn)(L5:SH)(x6 x8 x7:AV):Prop:=
 (true=true)∧(
 di [] 2 1 x6 x8 L5 fun x11 r12=>
 dl [] 3 x11 L5 fun x13 r14=>
 di [rm 3 r14,rm 2 r12] 6 1 x7 x8 L5 fun x15 r16=>
 dl [rm 3 r14,rm 2 r12] 7 x15 L5 fun x17 r18=>
 wb .neq 3 x13 x17 fun x19=>
 wk x19 (
 Q (.bool false) L5) (
 wb .add 3 x8 (.int .i64 1) fun x20=>
 n4 [x6,x7,x20] L5))
def g9(Q:R)(v3:Vs)(L5:SH)(n4:Kn):Prop:=
 wu 0 1 5 v3 fun x6 x7 x8=>
 W.len x6 fun x9=>
 wb .lss 3 x8 x9 fun x10=>
 wk x10 (
 (qq Q n4 L5 x6 x8 x7)) (
 Q (.bool true) L5)
def iL(t0 t1:AV)(L:SH)(Q:R):Prop:=
 W.len t0 fun x0=>
 W.len t1 fun x1=>
 wb .neq 3 x0 x1 fun x2=>
 wk x2 (
 Q (.bool false) L) (
 W.loop (g9 Q) [t0,t1,(.int .i64 0)] L)
theorem qr(t0 t1:AV)(L:SH)(Q:R)(h:iL t0 t1 L Q):am Try.prog 7 [t0,t1] L Q:=
 bC ⟨fun _=>none,fun k=>if k=4 then [0,1,5]else [],fun _=>[],fun k=>if k=6 then [0,0,3,7,0,0,48,112,255]else []⟩ Try.func7 (by kernel_rfl) (by kernel_rfl) h
end Go.Proofs.Ytljkdffikfkcgaa.Am
end
section
namespace Go.Proofs.Ytljkdffikfkcgaa.Am
set_option maxRecDepth 100000
set_option linter.unusedVariables false
theorem Do(l:List Int)(hl:l.length<2^62):aO Try.prog 7 [.lst (l.map aJ),.lst (l.map aJ)] (.bool true):=by
 refine qr _ _ _ _ ?_
 unfold iL
 generalize hQ:(fun(u:AV) (K:SH)=>u=AV.bool true∧K=[])=Q
 have hq:Q (.bool true) []:=by subst hQ;exact⟨rfl,rfl⟩
 clear hQ
 have d0:decide ((l.length:Int)≠(l.length:Int))=false:=by simp
 repeat' (first | refine st ?_ | refine sb (fun nb_ hnb_=>?_) | refine s2 (fun h=>?_) (fun h=>?_) | fail)
 refine eJ l.length (fun _=>True) (fun i=>[.lst (l.map aJ),.lst (l.map aJ),.int .i64 i]) hl trivial rfl (fun i h1 hd hi _ nx hn=>?_) (fun i h1 hd _ nx=>?_)
 all_goals unfold g9
 ·have hx:=aC (f:=aJ) h1
  have d1:decide (l[i]≠l[i])=false:=by simp
  repeat' (first | refine st ?_ | refine sb (fun nb_ hnb_=>?_) | refine s2 (fun h=>?_) (fun h=>?_) | fail)
  exact hn trivial
 ·repeat' (first | refine st ?_ | refine sb (fun nb_ hnb_=>?_) | refine s2 (fun h=>?_) (fun h=>?_) | fail)
  exact hq
end Go.Proofs.Ytljkdffikfkcgaa.Am
end
section
namespace Go.Proofs.Ytljkdffikfkcgaa.Am
set_option linter.unusedVariables false
structure eN(s u:bK):Prop where
 pc:u.pc=s.pc
 ev:u.ev=s.ev
 taint:u.taint=s.taint
 len:u.regs.length=s.regs.length
 same:s.taint.length=s.regs.length
 val:∀k:Nat,s.taint.getD k []=[]→s.regs.getD k 0=u.regs.getD k 0
theorem vd{α:Type}(l:List α)(a k:Nat)(v d:α)(h:a<l.length):(l.set a v).getD k d=if a=k then v else l.getD k d:=by
 rw[List.getD_eq_getElem?_getD,List.getElem?_set]
 by_cases e:a=k
 ·rw[if_pos e,if_pos (by omega),if_pos e];rfl
 ·rw[if_neg e,if_neg e,List.getD_eq_getElem?_getD]
theorem eN.put{s u:bK}(h:eN s u){a v v':Int}{t:List Int}(ha:s.has a=true)(hv:t=[]→v=v'):eN (s.put a v t) (u.put a v' t):=by
 have h1:a.toNat<s.regs.length:=by
  have:=(gX (i:=a) (n:=s.regs.length)).1 ha
  omega
 refine⟨by simp[bK.put,h.pc],by simp[bK.put,h.ev],by simp[bK.put,h.taint],by simp[bK.put,h.len],by simp[bK.put,h.same],fun k hk=>?_⟩
 have hs:=h.same
 have hl:=h.len
 simp only[bK.put]at hk ⊢
 rw[vd _ _ _ _ _ (by omega)]at hk
 rw[vd _ _ _ _ _ h1,vd _ _ _ _ _ (by omega)]
 by_cases e:a.toNat=k
 ·rw[if_pos e]at hk
  rw[if_pos e,if_pos e]
  exact hv hk
 ·rw[if_neg e]at hk
  rw[if_neg e,if_neg e]
  exact h.val k hk
theorem EV(n a b:Int):(BN n a).2=(BN n b).2:=by
 unfold BN
 split
 ·rfl
 ·split<;>rfl
theorem Dp(n a b c d:Int):(rS n a b).2=(rS n c d).2:=by
 unfold rS
 simp only[apply_ite Prod.snd]
theorem eN.has{s u:bK}(h:eN s u)(r:Int):u.has r=s.has r:=by unfold bK.has;rw[h.len]
theorem eN.tnt{s u:bK}(h:eN s u)(r:Int):u.tnt r=s.tnt r:=by unfold bK.tnt;rw[h.taint]
theorem eN.reg{s u:bK}(h:eN s u)(r:Int)(ht:s.tnt r=[]):s.reg r=u.reg r:=h.val r.toNat ht
theorem Dq{l:List Int}(h:zQ l=[]):l=[]:=List.eq_nil_iff_forall_not_mem.2 fun x hx=>by
 have:=(xL l x).2 hx
 rw[h]at this
 cases this
def Jg(P:bK→bK→Prop):Option bK→Option bK→Prop
 | none,none=>True
 | some a,some b=>P a b
 | _,_=>False
theorem Ao{s u:bK}(h:eN s u)(i:aw):Jg eN (bu i s) (bu i u):=by
 unfold bu
 simp only[h.has,h.tnt]
 rw[EV i.n (u.reg i.b) (s.reg i.b),Dp i.n (u.reg i.b) (u.reg i.c) (s.reg i.b) (s.reg i.c)]
 split
 ·split
  ·rename_i hh;exact h.put hh fun _=>rfl
  ·trivial
 ·split
  ·split
   ·rename_i hh
    simp only[Bool.and_eq_true]at hh
    exact h.put hh.1 fun e=>h.reg _ e
   ·trivial
  ·split
   ·split
    ·rename_i hh
     simp only[Bool.and_eq_true]at hh
     exact h.put hh.1.1 fun e=>by rw[h.reg _ e]
    ·trivial
   ·split
    ·split
     ·rename_i hh
      simp only[Bool.and_eq_true]at hh
      refine h.put hh.1.1.1 fun e=>?_
      have e2:=List.append_eq_nil_iff.1 (Dq e)
      rw[h.reg _ e2.1,h.reg _ e2.2]
     ·trivial
    ·exact⟨rfl,h.ev,h.taint,h.len,h.same,h.val⟩
theorem BW{ins:List aw}:∀(k:Nat) {s u:bK},eN s u→(dz ins k s).2=(dz ins k u).2∧eN (dz ins k s).1 (dz ins k u).1:=by
 have hz:eN bK.zero bK.zero:=⟨rfl,rfl,rfl,rfl,rfl,fun _ _=>rfl⟩
 intro k
 induction k with
 | zero=>
  intro s u h
  unfold dz
  rw[h.pc]
  split
  ·split
   ·exact⟨rfl,h⟩
   ·exact⟨rfl,hz⟩
  ·exact⟨rfl,hz⟩
 | succ k ih=>
  intro s u h
  unfold dz
  rw[h.pc]
  split
  ·split
   ·exact⟨rfl,h⟩
   ·have hb:=Ao h (ins.getD s.pc.toNat default)
    generalize bu (ins.getD s.pc.toNat default) s=x at hb ⊢
    generalize bu (ins.getD s.pc.toNat default) u=y at hb ⊢
    match x,y,hb with
    | none,none,_=>exact⟨rfl,hz⟩
    | some a,some b,hb=>exact ih hb
  ·exact⟨rfl,hz⟩
theorem xR{c:lf}{s u:bK}(h:eN s u):(cg c s).2=(cg c u).2∧eN (cg c s).1 (cg c u).1:=by
 unfold cg
 rw[h.len,h.taint]
 split
 ·exact BW _ h
 ·exact⟨rfl,rfl,rfl,rfl,rfl,rfl,fun _ _=>rfl⟩
end Go.Proofs.Ytljkdffikfkcgaa.Am
end
section
namespace Go.Proofs.Ytljkdffikfkcgaa.Am
set_option linter.unusedVariables false
set_option maxRecDepth 100000
def kp(t0:AV)(L:SH)(Q:R):Prop:=
 wb .geq 5 t0 (.int .u8 97) fun x0=>
 cj x0 true t0 L fun x1 L3=>
 wg x0 true (wb .leq 5 x1 (.int .u8 122)) L3 fun x4 L6=>
 W.pick x0 x4 (.bool false) fun x8=>
 cj x8 false t0 L6 fun x9 L11=>
 wg x8 false (wb .geq 5 x9 (.int .u8 65)) L11 fun x12 L14=>
 cj x8 false x12 L14 fun x16 L18=>
 cj x16 true t0 L18 fun x19 L21=>
 wg x16 true (wb .leq 5 x19 (.int .u8 90)) L21 fun x22 L24=>
 wg x8 false (W.pick x16 x22 (.bool false)) L24 fun x26 L28=>
 W.pick x8 (.bool true) x26 fun x30=>
 Q x30 L28
theorem tw(t0:AV)(L:SH)(Q:R)(h:kp t0 L Q):am Try.prog 59 [t0] L Q:=
 bC ⟨fun _=>none,fun _=>[],fun _=>[],fun _=>[]⟩ Try.func59 (by kernel_rfl) (by kernel_rfl) h
def mD(t0:AV)(L:SH)(Q:R):Prop:=
 wb .geq 5 t0 (.int .u8 48) fun x0=>
 cj x0 true t0 L fun x1 L3=>
 wg x0 true (wb .leq 5 x1 (.int .u8 57)) L3 fun x4 L6=>
 W.pick x0 x4 (.bool false) fun x8=>
 Q x8 L6
theorem ve(t0:AV)(L:SH)(Q:R)(h:mD t0 L Q):am Try.prog 81 [t0] L Q:=
 bC ⟨fun _=>none,fun _=>[],fun _=>[],fun _=>[]⟩ Try.func81 (by kernel_rfl) (by kernel_rfl) h
def vf(Q:R)(t0 x0:AV)(L1:SH):Prop:=
 cj x0 false t0 L1 fun x2 L4=>
 W.grd x0 false (fun k6=>wc (.fn 81 []) [x2] L4 fun x8 L9=>
 k6 x8 L9) L4 fun x5 L7=>
 W.pick x0 (.bool true) x5 fun x10=>
 cj x10 false t0 L7 fun x11 L13=>
 wg x10 false (wb .eql 5 x11 (.int .u8 95)) L13 fun x14 L16=>
 W.pick x10 (.bool true) x14 fun x18=>
 Q x18 L16
def mE(t0:AV)(L:SH)(Q:R):Prop:=
 wc (.fn 59 []) [t0] L (vf Q t0)
theorem vg(t0:AV)(L:SH)(Q:R)(h:mE t0 L Q):am Try.prog 61 [t0] L Q:=
 bC ⟨fun _=>none,fun _=>[],fun _=>[],fun _=>[]⟩ Try.func61 (by kernel_rfl) (by kernel_rfl) h
def iM(L:SH)(Q:R):Prop:=
 W.bslice 1 [(.str [])] 22 [(0,(.str [118,97,114])),(1,(.str [118,111,108,97,116,105,108,101])),(2,(.str [109,117,116,101,120])),(3,(.str [114,119,108,111,99,107])),(4,(.str [99,111,110,100])),(5,(.str [102,117,116,117,114,101])),(6,(.str [116,104,114,101,97,100])),(7,(.str [105,102])),(8,(.str [101,108,115,101])),(9,(.str [119,104,105,108,101])),(10,(.str [108,111,99,107])),(11,(.str [114,101,97,100])),(12,(.str [119,114,105,116,101])),(13,(.str [116,114,97,110,115,97,99,116,105,111,110])),(14,(.str [97,116,111,109,105,99])),(15,(.str [119,97,105,116])),(16,(.str [110,111,116,105,102,121])),(17,(.str [110,111,116,105,102,121,97,108,108])),(18,(.str [115,112,97,119,110])),(19,(.str [106,111,105,110])),(20,(.str [115,101,116])),(21,(.str [103,101,116]))] L fun x0 L1=>
 Q x0 L1
theorem qt(L:SH)(Q:R)(h:iM L Q):am Try.prog 80 [] L Q:=
 bC ⟨fun _=>none,fun _=>[],fun _=>[],fun _=>[]⟩ Try.func80 (by kernel_rfl) (by kernel_rfl) h
def gk(Q:R)(v2:Vs)(L4:SH)(n3:Kn):Prop:=
 wu 0 3 4 v2 fun x5 x6 x7=>
 W.len x6 fun x8=>
 wb .lss 3 x7 x8 fun x9=>
 wk x9 (
 Ba 1 x6 x7 L4 fun x11=>
 wb .eql 9 x11 x5 fun x12=>
 wk x12 (
 Q (.bool true) L4) (
 wb .add 3 x7 (.int .i64 1) fun x13=>
 n3 [x5,x6,x13] L4)) (
 Q (.bool false) L4)
def mZ(Q:R)(t0 x0:AV)(L1:SH):Prop:=
 W.loop (gk Q) [t0,x0,(.int .i64 0)] L1
def hD(t0:AV)(L:SH)(Q:R):Prop:=
 wc (.fn 80 []) [] L (mZ Q t0)
theorem m0(t0:AV)(L:SH)(Q:R)(h:hD t0 L Q):am Try.prog 60 [t0] L Q:=
 bC ⟨fun _=>none,fun k=>if k=3 then [0,3,4]else [],fun _=>[],fun _=>[]⟩ Try.func60 (by kernel_rfl) (by kernel_rfl) h
def tz(Q:R)(n41:Kn)(x44 x43 x48:AV)(L49:SH):Prop:=
 W.un .not x48 fun x50=>
 wk x50 (
 Q (.bool false) L49) (
 wb .add 3 x44 (.int .i64 1) fun x51=>
 n41 [x43,x51] L49)
def jE(Q:R)(v40:Vs)(L42:SH)(n41:Kn):Prop:=
 EK 0 3 v40 fun x43 x44=>
 W.lenS x43 fun x45=>
 wb .lss 3 x44 x45 fun x46=>
 wk x46 (
 W.ixS x43 x44 fun x47=>
 wc (.fn 61 []) [x47] L42 (tz Q n41 x44 x43)) (
 Q (.bool true) L42)
def kq(t0:AV)(L:SH)(Q:R):Prop:=
 W.lenS t0 fun x0=>
 wb .lss 3 x0 (.int .i64 1) fun x1=>
 cj x1 false t0 L fun x2 L4=>
 wg x1 false (W.lenS x2) L4 fun x5 L7=>
 wg x1 false (wb .gtr 3 x5 (.int .i64 12)) L7 fun x9 L11=>
 W.pick x1 (.bool true) x9 fun x13=>
 cj x13 false t0 L11 fun x14 L16=>
 wg x13 false (W.ixS x14 (.int .i64 0)) L16 fun x17 L19=>
 W.grd x13 false (fun k22=>wc (.fn 59 []) [x17] L19 fun x24 L25=>
 k22 x24 L25) L19 fun x21 L23=>
 wg x13 false (W.un .not x21) L23 fun x26 L28=>
 W.pick x13 (.bool true) x26 fun x30=>
 cj x30 false t0 L28 fun x31 L33=>
 W.grd x30 false (fun k35=>wc (.fn 60 []) [x31] L33 fun x37 L38=>
 k35 x37 L38) L33 fun x34 L36=>
 W.pick x30 (.bool true) x34 fun x39=>
 wk x39 (
 Q (.bool false) L36) (
 W.loop (jE Q) [t0,(.int .i64 0)] L36)
theorem tB(t0:AV)(L:SH)(Q:R)(h:kq t0 L Q):am Try.prog 41 [t0] L Q:=
 bC ⟨fun _=>none,fun k=>if k=4 then [0,3]else [],fun _=>[],fun _=>[]⟩ Try.func41 (by kernel_rfl) (by kernel_rfl) h
def qu(Q:R)(L15:SH)(t0:AV):Prop:=
 wb .geq 3 t0 (.int .i64 6) fun x18=>
 cj x18 true t0 L15 fun x19 L21=>
 wg x18 true (wb .leq 3 x19 (.int .i64 18)) L21 fun x22 L24=>
 W.pick x18 x22 (.bool false) fun x26=>
 wk x26 (
 Q (.int .i64 2) L24) (
 Q (.int .i64 (-1)) L24)
def qv(Q:R)(L6:SH)(t0:AV):Prop:=
 wb .geq 3 t0 (.int .i64 3) fun x9=>
 cj x9 true t0 L6 fun x10 L12=>
 wg x9 true (wb .leq 3 x10 (.int .i64 5)) L12 fun x13 L15=>
 W.pick x9 x13 (.bool false) fun x17=>
 wk x17 (
 Q (.int .i64 1) L15) (
 (qu Q L15 t0))
def iN(t0:AV)(L:SH)(Q:R):Prop:=
 wb .eql 3 t0 (.int .i64 1) fun x0=>
 cj x0 false t0 L fun x1 L3=>
 wg x0 false (wb .eql 3 x1 (.int .i64 2)) L3 fun x4 L6=>
 W.pick x0 (.bool true) x4 fun x8=>
 wk x8 (
 Q (.int .i64 0) L6) (
 (qv Q L6 t0))
theorem qw(t0:AV)(L:SH)(Q:R)(h:iN t0 L Q):am Try.prog 93 [t0] L Q:=
 bC ⟨fun _=>none,fun _=>[],fun _=>[],fun _=>[]⟩ Try.func93 (by kernel_rfl) (by kernel_rfl) h
def lh(Q:R)(n156:Kn)(x159 x158 x168:AV)(L169:SH):Prop:=
 W.un .not x168 fun x170=>
 wk x170 (
 Q (.bool false) L169) (
 wb .add 3 x159 (.int .i64 1) fun x171=>
 n156 [x158,x171] L169)
def fH(Q:R)(v155:Vs)(L157:SH)(n156:Kn):Prop:=
 EK 1 4 v155 fun x158 x159=>
 bo 3 x158 L157 fun x161=>
 W.len x161 fun x162=>
 wb .lss 3 x159 x162 fun x163=>
 wk x163 (
 bo 3 x158 L157 fun x165=>
 ug 4 x165 x159 L157 fun x167=>
 wc (.fn 82 []) [x167] L157 (lh Q n156 x159 x158)) (
 Q (.bool true) L157)
def ll(Q:R)(L17:SH)(x2 x19:AV)(r22:Fp)(x23:AV)(L25:SH)(q24:Ns):Prop:=
 wn [] q24 [] L17.names fun r26=>
 bx 3 x2 [rc 2 r26,rm 1 r22] 4 L25 fun x28 r29=>
 W.len x28 fun x30=>
 wb .neq 3 x23 x30 fun x31=>
 W.dgrd x31 false (fun k33=>k33 x19 L25 rz) L25 fun x32 L35 r34=>
 W.dgrd x31 false (fun k37=>W.faddr 2 x2 fun x40=>
 k37 x40 L35 rz) L35 fun x36 L39 r38=>
 W.dgrd x31 false (fun k42=>dl [] 10 x36 L39 fun x45 r46=>
 k42 x45 L39 r46) L39 fun x41 L44 r43=>
 W.dgrd x31 false (fun k48=>wb .neq 9 x41 (.str []) fun x51=>
 k48 x51 L44 rz) L44 fun x47 L50 r49=>
 W.dgrd x31 false (fun k53=>wb .neq 4 x32 x47 fun x56=>
 k53 x56 L50 rz) L50 fun x52 L55 r54=>
 W.pick x31 (.bool true) x52 fun x57=>
 W.dgrd x57 false (fun k59=>k59 x19 L55 rz) L55 fun x58 L61 r60=>
 W.dgrd x57 false (fun k63=>k63 x58 L61 rz) L61 fun x62 L65 r64=>
 W.dgrd x62 true (fun k67=>W.faddr 2 x2 fun x70=>
 k67 x70 L65 rz) L65 fun x66 L69 r68=>
 W.dgrd x62 true (fun k72=>dl [] 18 x66 L69 fun x75 r76=>
 k72 x75 L69 r76) L69 fun x71 L74 r73=>
 W.dgrd x62 true (fun k78=>wd [] 19 (.fn 41 []) [x71] L74 fun x81 L83 q82=>
 wn [] q82 [] L74.names fun r84=>
 k78 x81 L83 r84) L74 fun x77 L80 r79=>
 W.dgrd x62 true (fun k86=>W.un .not x77 fun x89=>
 k86 x89 L80 rz) L80 fun x85 L88 r87=>
 W.dgrd x57 false (fun k91=>W.pick x62 x85 (.bool false) fun x94=>
 k91 x94 L88 rz) L88 fun x90 L93 r92=>
 W.pick x57 (.bool true) x90 fun x95=>
 W.dgrd x95 false (fun k97=>W.faddr 1 x2 fun x100=>
 k97 x100 L93 rz) L93 fun x96 L99 r98=>
 W.dgrd x95 false (fun k102=>dl [] 25 x96 L99 fun x105 r106=>
 k102 x105 L99 r106) L99 fun x101 L104 r103=>
 W.dgrd x95 false (fun k108=>wb .lss 2 x101 (.int .i64 0) fun x111=>
 k108 x111 L104 rz) L104 fun x107 L110 r109=>
 W.pick x95 (.bool true) x107 fun x112=>
 W.dgrd x112 false (fun k114=>W.faddr 0 x2 fun x117=>
 k114 x117 L110 rz) L110 fun x113 L116 r115=>
 W.dgrd x112 false (fun k119=>dl [] 30 x113 L116 fun x122 r123=>
 k119 x122 L116 r123) L116 fun x118 L121 r120=>
 W.dgrd x112 false (fun k125=>wb .neq 3 x118 (.int .i64 1) fun x128=>
 k125 x128 L121 rz) L121 fun x124 L127 r126=>
 W.dgrd x112 false (fun k130=>k130 x124 L127 rz) L127 fun x129 L132 r131=>
 W.dgrd x129 true (fun k134=>W.faddr 1 x2 fun x137=>
 k134 x137 L132 rz) L132 fun x133 L136 r135=>
 W.dgrd x129 true (fun k139=>dl [] 34 x133 L136 fun x142 r143=>
 k139 x142 L136 r143) L136 fun x138 L141 r140=>
 W.dgrd x129 true (fun k145=>wb .neq 2 x138 (.int .i64 0) fun x148=>
 k145 x148 L141 rz) L141 fun x144 L147 r146=>
 W.dgrd x112 false (fun k150=>W.pick x129 x144 (.bool false) fun x153=>
 k150 x153 L147 rz) L147 fun x149 L152 r151=>
 W.pick x112 (.bool true) x149 fun x154=>
 wk x154 (
 Q (.bool false) L152) (
 W.loop (fH Q) [x2,(.int .i64 0)] L152)
def gl(t0:AV)(L:SH)(Q:R):Prop:=
 xb t0 L fun x2 L3=>
 bo 0 x2 L3 fun x5=>
 wb .eql 3 x5 (.int .i64 2) fun x6=>
 wg x6 false (W.faddr 0 x2) L3 fun x7 L9=>
 wg x6 false (wl x7 L9) L9 fun x11 L13=>
 wg x6 false (wb .eql 3 x11 (.int .i64 3)) L13 fun x15 L17=>
 W.pick x6 (.bool true) x15 fun x19=>
 (true=true)∧(
 bx 0 x2 [] 1 L17 fun x21 r22=>
 wd [] 2 (.fn 93 []) [x21] L17 (ll Q L17 x2 x19 r22))
theorem lm(t0:AV)(L:SH)(Q:R)(h:gl t0 L Q):am Try.prog 82 [t0] L Q:=
 bC ⟨fun _=>none,fun k=>if k=5 then [1,4]else [],fun k=>if k=0 then [1]else [],fun k=>if k=2 then [0,1,3,0,8,24,63,127,255,255,767,1791,4095,8191,16383,32767,65535,131071,262143,524287,1048575,2097151,4194303,8388607,16777215,33554431,67108863,134217727,268435455,536870911,1073741823,2147483647,4294967295,8589934591,17179869183,34359738367,68719476735,137438953471]else []⟩ Try.func82 (by kernel_rfl) (by kernel_rfl) h
def mF(t0:AV)(L:SH)(Q:R):Prop:=
 xb t0 L fun x2 L3=>
 bo 0 x2 L3 fun x5=>
 wb .eql 3 x5 (.int .i64 0) fun x6=>
 wg x6 true (W.faddr 1 x2) L3 fun x7 L9=>
 wg x6 true (wl x7 L9) L9 fun x11 L13=>
 wg x6 true (wb .eql 2 x11 (.int .i64 0)) L13 fun x15 L17=>
 W.pick x6 x15 (.bool false) fun x19=>
 wg x19 true (W.faddr 2 x2) L17 fun x20 L22=>
 wg x19 true (wl x20 L22) L22 fun x24 L26=>
 wg x19 true (wb .eql 9 x24 (.str [])) L26 fun x28 L30=>
 W.pick x19 x28 (.bool false) fun x32=>
 wg x32 true (W.faddr 3 x2) L30 fun x33 L35=>
 wg x32 true (wl x33 L35) L35 fun x37 L39=>
 wg x32 true (W.len x37) L39 fun x41 L43=>
 wg x32 true (wb .eql 3 x41 (.int .i64 0)) L43 fun x45 L47=>
 W.pick x32 x45 (.bool false) fun x49=>
 Q x49 L47
theorem vh(t0:AV)(L:SH)(Q:R)(h:mF t0 L Q):am Try.prog 83 [t0] L Q:=
 bC ⟨fun _=>none,fun _=>[],fun k=>if k=0 then [1]else [],fun _=>[]⟩ Try.func83 (by kernel_rfl) (by kernel_rfl) h
def lp(Q:R)(x2 x413:AV)(L414:SH):Prop:=
 wg x413 true (W.faddr 10 x2) L414 fun x415 L417=>
 wg x413 true (wl x415 L417) L417 fun x419 L421=>
 W.grd x413 true (fun k424=>wc (.fn 42 []) [x419] L421 fun x426 L427=>
 k424 x426 L427) L421 fun x423 L425=>
 W.pick x413 x423 (.bool false) fun x428=>
 Q x428 L425
def dK(Q:R)(L338:SH)(x2:AV):Prop:=
 bo 0 x2 L338 fun x342=>
 wb .geq 3 x342 (.int .i64 2) fun x343=>
 wg x343 true (W.faddr 0 x2) L338 fun x344 L346=>
 wg x343 true (wl x344 L346) L346 fun x348 L350=>
 wg x343 true (wb .leq 3 x348 (.int .i64 8)) L350 fun x352 L354=>
 W.pick x343 x352 (.bool false) fun x356=>
 W.un .not x356 fun x357=>
 wg x357 true (W.faddr 9 x2) L354 fun x358 L360=>
 wg x357 true (wl x358 L360) L360 fun x362 L364=>
 wg x357 true (W.len x362) L364 fun x366 L368=>
 wg x357 true (wb .gtr 3 x366 (.int .i64 0)) L368 fun x370 L372=>
 W.pick x357 x370 (.bool false) fun x374=>
 wg x374 false (W.faddr 0 x2) L372 fun x375 L377=>
 wg x374 false (wl x375 L377) L377 fun x379 L381=>
 wg x374 false (wb .neq 3 x379 (.int .i64 2)) L381 fun x383 L385=>
 cj x374 false x383 L385 fun x387 L389=>
 wg x387 true (W.faddr 10 x2) L389 fun x390 L392=>
 wg x387 true (wl x390 L392) L392 fun x394 L396=>
 wg x387 true (W.len x394) L396 fun x398 L400=>
 wg x387 true (wb .gtr 3 x398 (.int .i64 0)) L400 fun x402 L404=>
 wg x374 false (W.pick x387 x402 (.bool false)) L404 fun x406 L408=>
 W.pick x374 (.bool true) x406 fun x410=>
 wk x410 (
 Q (.bool false) L408) (
 bo 9 x2 L408 fun x412=>
 wc (.fn 42 []) [x412] L408 (lp Q x2))
def dL(Q:R)(L246:SH)(x2:AV):Prop:=
 bo 0 x2 L246 fun x250=>
 wb .eql 3 x250 (.int .i64 1) fun x251=>
 wg x251 false (W.faddr 0 x2) L246 fun x252 L254=>
 wg x251 false (wl x252 L254) L254 fun x256 L258=>
 wg x251 false (wb .eql 3 x256 (.int .i64 2)) L258 fun x260 L262=>
 W.pick x251 (.bool true) x260 fun x264=>
 wg x264 false (W.faddr 0 x2) L262 fun x265 L267=>
 wg x264 false (wl x265 L267) L267 fun x269 L271=>
 wg x264 false (wb .eql 3 x269 (.int .i64 3)) L271 fun x273 L275=>
 W.pick x264 (.bool true) x273 fun x277=>
 wg x277 false (W.faddr 0 x2) L275 fun x278 L280=>
 wg x277 false (wl x278 L280) L280 fun x282 L284=>
 wg x277 false (wb .eql 3 x282 (.int .i64 14)) L284 fun x286 L288=>
 W.pick x277 (.bool true) x286 fun x290=>
 wg x290 true (W.faddr 5 x2) L288 fun x291 L293=>
 wg x290 true (dy 4 x291 L293) L293 fun x295 L297=>
 W.grd x290 true (fun k300=>wc (.fn 82 []) [x295] L297 fun x302 L303=>
 k300 x302 L303) L297 fun x299 L301=>
 wg x290 true (W.un .not x299) L301 fun x304 L306=>
 W.pick x290 x304 (.bool false) fun x308=>
 cj x308 false x290 L306 fun x309 L311=>
 wg x308 false (W.un .not x309) L311 fun x312 L314=>
 cj x308 false x312 L314 fun x316 L318=>
 wg x316 true (W.faddr 5 x2) L318 fun x319 L321=>
 wg x316 true (dy 4 x319 L321) L321 fun x323 L325=>
 W.grd x316 true (fun k328=>wc (.fn 83 []) [x323] L325 fun x330 L331=>
 k328 x330 L331) L325 fun x327 L329=>
 wg x316 true (W.un .not x327) L329 fun x332 L334=>
 wg x308 false (W.pick x316 x332 (.bool false)) L334 fun x336 L338=>
 W.pick x308 (.bool true) x336 fun x340=>
 wk x340 (
 Q (.bool false) L338) (
 (dK Q L338 x2))
def dM(Q:R)(L157:SH)(x2:AV):Prop:=
 bo 4 x2 L157 fun x161=>
 W.len x161 fun x162=>
 wb .gtr 3 x162 (.int .i64 1) fun x163=>
 wg x163 false (W.faddr 0 x2) L157 fun x164 L166=>
 wg x163 false (wl x164 L166) L166 fun x168 L170=>
 wg x163 false (wb .neq 3 x168 (.int .i64 1)) L170 fun x172 L174=>
 cj x163 false x172 L174 fun x176 L178=>
 wg x176 true (W.faddr 4 x2) L178 fun x179 L181=>
 wg x176 true (wl x179 L181) L181 fun x183 L185=>
 wg x176 true (W.len x183) L185 fun x187 L189=>
 wg x176 true (wb .gtr 3 x187 (.int .i64 0)) L189 fun x191 L193=>
 wg x163 false (W.pick x176 x191 (.bool false)) L193 fun x195 L197=>
 W.pick x163 (.bool true) x195 fun x199=>
 wg x199 false (W.faddr 4 x2) L197 fun x200 L202=>
 wg x199 false (wl x200 L202) L202 fun x204 L206=>
 wg x199 false (W.len x204) L206 fun x208 L210=>
 wg x199 false (wb .eql 3 x208 (.int .i64 1)) L210 fun x212 L214=>
 cj x199 false x212 L214 fun x216 L218=>
 wg x216 true (W.faddr 4 x2) L218 fun x219 L221=>
 wg x216 true (wl x219 L221) L221 fun x223 L225=>
 wg x216 true (W.idx 4 x223 (.int .i64 0) L225) L225 fun x227 L229=>
 wg x216 true (dy 4 x227 L229) L229 fun x231 L233=>
 W.grd x216 true (fun k236=>wc (.fn 82 []) [x231] L233 fun x238 L239=>
 k236 x238 L239) L233 fun x235 L237=>
 wg x216 true (W.un .not x235) L237 fun x240 L242=>
 wg x199 false (W.pick x216 x240 (.bool false)) L242 fun x244 L246=>
 W.pick x199 (.bool true) x244 fun x248=>
 wk x248 (
 Q (.bool false) L246) (
 (dL Q L246 x2))
def dN(Q:R)(L104:SH)(x2:AV):Prop:=
 bo 0 x2 L104 fun x108=>
 wb .eql 3 x108 (.int .i64 15) fun x109=>
 wg x109 true (W.faddr 3 x2) L104 fun x110 L112=>
 wg x109 true (wl x110 L112) L112 fun x114 L116=>
 W.grd x109 true (fun k119=>wc (.fn 41 []) [x114] L116 fun x121 L122=>
 k119 x121 L122) L116 fun x118 L120=>
 wg x109 true (W.un .not x118) L120 fun x123 L125=>
 W.pick x109 x123 (.bool false) fun x127=>
 wg x127 false (W.faddr 0 x2) L125 fun x128 L130=>
 wg x127 false (wl x128 L130) L130 fun x132 L134=>
 wg x127 false (wb .neq 3 x132 (.int .i64 15)) L134 fun x136 L138=>
 cj x127 false x136 L138 fun x140 L142=>
 wg x140 true (W.faddr 3 x2) L142 fun x143 L145=>
 wg x140 true (wl x143 L145) L145 fun x147 L149=>
 wg x140 true (wb .neq 9 x147 (.str [])) L149 fun x151 L153=>
 wg x127 false (W.pick x140 x151 (.bool false)) L153 fun x155 L157=>
 W.pick x127 (.bool true) x155 fun x159=>
 wk x159 (
 Q (.bool false) L157) (
 (dM Q L157 x2))
def dO(Q:R)(L17:SH)(x2:AV):Prop:=
 bo 0 x2 L17 fun x21=>
 wb .eql 3 x21 (.int .i64 2) fun x22=>
 wg x22 false (W.faddr 0 x2) L17 fun x23 L25=>
 wg x22 false (wl x23 L25) L25 fun x27 L29=>
 wg x22 false (wb .eql 3 x27 (.int .i64 3)) L29 fun x31 L33=>
 W.pick x22 (.bool true) x31 fun x35=>
 wg x35 false (W.faddr 0 x2) L33 fun x36 L38=>
 wg x35 false (wl x36 L38) L38 fun x40 L42=>
 wg x35 false (wb .eql 3 x40 (.int .i64 7)) L42 fun x44 L46=>
 W.pick x35 (.bool true) x44 fun x48=>
 wg x48 false (W.faddr 0 x2) L46 fun x49 L51=>
 wg x48 false (wl x49 L51) L51 fun x53 L55=>
 wg x48 false (wb .eql 3 x53 (.int .i64 8)) L55 fun x57 L59=>
 W.pick x48 (.bool true) x57 fun x61=>
 wg x61 true (W.faddr 2 x2) L59 fun x62 L64=>
 wg x61 true (wl x62 L64) L64 fun x66 L68=>
 wg x61 true (wb .neq 9 x66 (.str [])) L68 fun x70 L72=>
 W.pick x61 x70 (.bool false) fun x74=>
 cj x74 false x61 L72 fun x75 L77=>
 wg x74 false (W.un .not x75) L77 fun x78 L80=>
 cj x74 false x78 L80 fun x82 L84=>
 wg x82 true (W.faddr 2 x2) L84 fun x85 L87=>
 wg x82 true (wl x85 L87) L87 fun x89 L91=>
 W.grd x82 true (fun k94=>wc (.fn 41 []) [x89] L91 fun x96 L97=>
 k94 x96 L97) L91 fun x93 L95=>
 wg x82 true (W.un .not x93) L95 fun x98 L100=>
 wg x74 false (W.pick x82 x98 (.bool false)) L100 fun x102 L104=>
 W.pick x74 (.bool true) x102 fun x106=>
 wk x106 (
 Q (.bool false) L104) (
 (dN Q L104 x2))
def gm(t0:AV)(L:SH)(Q:R):Prop:=
 xb t0 L fun x2 L3=>
 bo 0 x2 L3 fun x5=>
 wb .lss 3 x5 (.int .i64 1) fun x6=>
 wg x6 false (W.faddr 0 x2) L3 fun x7 L9=>
 wg x6 false (wl x7 L9) L9 fun x11 L13=>
 wg x6 false (wb .gtr 3 x11 (.int .i64 15)) L13 fun x15 L17=>
 W.pick x6 (.bool true) x15 fun x19=>
 wk x19 (
 Q (.bool false) L17) (
 (dO Q L17 x2))
theorem lq(t0:AV)(L:SH)(Q:R)(h:gm t0 L Q):am Try.prog 62 [t0] L Q:=
 bC ⟨fun _=>none,fun _=>[],fun k=>if k=0 then [1]else [],fun _=>[]⟩ Try.func62 (by kernel_rfl) (by kernel_rfl) h
def kt(Q:R)(n1:Kn)(x4 x3 x9:AV)(L10:SH):Prop:=
 W.un .not x9 fun x11=>
 wk x11 (
 Q (.bool false) L10) (
 wb .add 3 x4 (.int .i64 1) fun x12=>
 n1 [x3,x12] L10)
def fp(Q:R)(v0:Vs)(L2:SH)(n1:Kn):Prop:=
 EK 0 3 v0 fun x3 x4=>
 W.len x3 fun x5=>
 wb .lss 3 x4 x5 fun x6=>
 wk x6 (
 ug 11 x3 x4 L2 fun x8=>
 wc (.fn 62 []) [x8] L2 (kt Q n1 x4 x3)) (
 Q (.bool true) L2)
def fI(t0:AV)(L:SH)(Q:R):Prop:=
 W.loop (fp Q) [t0,(.int .i64 0)] L
theorem ku(t0:AV)(L:SH)(Q:R)(h:fI t0 L Q):am Try.prog 42 [t0] L Q:=
 bC ⟨fun _=>none,fun k=>if k=2 then [0,3]else [],fun _=>[],fun _=>[]⟩ Try.func42 (by kernel_rfl) (by kernel_rfl) h
def dP(Q:R)(L133:SH)(x2:AV):Prop:=
 bo 4 x2 L133 fun x137=>
 wb .gtr 2 x137 (.int .i64 (-9223372036854775808)) fun x138=>
 wg x138 true (W.faddr 4 x2) L133 fun x139 L141=>
 wg x138 true (wl x139 L141) L141 fun x143 L145=>
 wg x138 true (wb .eql 2 x143 (.int .i64 0)) L145 fun x147 L149=>
 cj x138 true x147 L149 fun x151 L153=>
 wg x151 false (W.faddr 0 x2) L153 fun x154 L156=>
 wg x151 false (wl x154 L156) L156 fun x158 L160=>
 wg x151 false (wb .eql 3 x158 (.int .i64 1)) L160 fun x162 L164=>
 wg x138 true (W.pick x151 (.bool true) x162) L164 fun x166 L168=>
 cj x138 true x166 L168 fun x170 L172=>
 wg x170 false (W.faddr 0 x2) L172 fun x173 L175=>
 wg x170 false (wl x173 L175) L175 fun x177 L179=>
 wg x170 false (wb .eql 3 x177 (.int .i64 2)) L179 fun x181 L183=>
 wg x138 true (W.pick x170 (.bool true) x181) L183 fun x185 L187=>
 W.pick x138 x185 (.bool false) fun x189=>
 Q x189 L187
def dQ(Q:R)(L80:SH)(x2:AV):Prop:=
 bo 0 x2 L80 fun x84=>
 wb .eql 3 x84 (.int .i64 5) fun x85=>
 wg x85 true (W.faddr 5 x2) L80 fun x86 L88=>
 wg x85 true (wl x86 L88) L88 fun x90 L92=>
 W.grd x85 true (fun k95=>wc (.fn 41 []) [x90] L92 fun x97 L98=>
 k95 x97 L98) L92 fun x94 L96=>
 wg x85 true (W.un .not x94) L96 fun x99 L101=>
 W.pick x85 x99 (.bool false) fun x103=>
 wg x103 false (W.faddr 0 x2) L101 fun x104 L106=>
 wg x103 false (wl x104 L106) L106 fun x108 L110=>
 wg x103 false (wb .neq 3 x108 (.int .i64 5)) L110 fun x112 L114=>
 cj x103 false x112 L114 fun x116 L118=>
 wg x116 true (W.faddr 5 x2) L118 fun x119 L121=>
 wg x116 true (wl x119 L121) L121 fun x123 L125=>
 wg x116 true (wb .neq 9 x123 (.str [])) L125 fun x127 L129=>
 wg x103 false (W.pick x116 x127 (.bool false)) L129 fun x131 L133=>
 W.pick x103 (.bool true) x131 fun x135=>
 wk x135 (
 Q (.bool false) L133) (
 (dP Q L133 x2))
def gp(t0:AV)(L:SH)(Q:R):Prop:=
 xb t0 L fun x2 L3=>
 bo 0 x2 L3 fun x5=>
 wb .lss 3 x5 (.int .i64 1) fun x6=>
 wg x6 false (W.faddr 0 x2) L3 fun x7 L9=>
 wg x6 false (wl x7 L9) L9 fun x11 L13=>
 wg x6 false (wb .gtr 3 x11 (.int .i64 6)) L13 fun x15 L17=>
 W.pick x6 (.bool true) x15 fun x19=>
 wg x19 false (W.faddr 2 x2) L17 fun x20 L22=>
 wg x19 false (wl x20 L22) L22 fun x24 L26=>
 W.grd x19 false (fun k29=>wc (.fn 41 []) [x24] L26 fun x31 L32=>
 k29 x31 L32) L26 fun x28 L30=>
 wg x19 false (W.un .not x28) L30 fun x33 L35=>
 W.pick x19 (.bool true) x33 fun x37=>
 wg x37 false (W.faddr 3 x2) L35 fun x38 L40=>
 wg x37 false (wl x38 L40) L40 fun x42 L44=>
 wg x37 false (wb .lss 3 x42 (.int .i64 0)) L44 fun x46 L48=>
 W.pick x37 (.bool true) x46 fun x50=>
 wg x50 false (W.faddr 0 x2) L48 fun x51 L53=>
 wg x50 false (wl x51 L53) L53 fun x55 L57=>
 wg x50 false (wb .neq 3 x55 (.int .i64 1)) L57 fun x59 L61=>
 cj x50 false x59 L61 fun x63 L65=>
 wg x63 true (W.faddr 3 x2) L65 fun x66 L68=>
 wg x63 true (wl x66 L68) L68 fun x70 L72=>
 wg x63 true (wb .neq 3 x70 (.int .i64 0)) L72 fun x74 L76=>
 wg x50 false (W.pick x63 x74 (.bool false)) L76 fun x78 L80=>
 W.pick x50 (.bool true) x78 fun x82=>
 wk x82 (
 Q (.bool false) L80) (
 (dQ Q L80 x2))
theorem lr(t0:AV)(L:SH)(Q:R)(h:gp t0 L Q):am Try.prog 40 [t0] L Q:=
 bC ⟨fun _=>none,fun _=>[],fun k=>if k=0 then [1]else [],fun _=>[]⟩ Try.func40 (by kernel_rfl) (by kernel_rfl) h
def tC(Q:R)(n5:Kn)(x8 x7 x17:AV)(L18:SH):Prop:=
 W.un .not x17 fun x19=>
 wk x19 (
 Q (.bool false) L18) (
 wb .add 3 x8 (.int .i64 1) fun x20=>
 n5 [x7,x20] L18)
def tD(Q:R)(n40:Kn)(x45 x42 x43 x44 x54:AV)(L55:SH):Prop:=
 W.un .not x54 fun x56=>
 wk x56 (
 Q (.bool false) L55) (
 wb .add 3 x45 (.int .i64 1) fun x57=>
 n40 [x42,x43,x44,x57] L55)
def tE(Q:R)(n22:Kn)(x44 x43 x42 x60:AV)(L61:SH):Prop:=
 W.un .not x60 fun x62=>
 wg x62 false (W.faddr 3 x44) L61 fun x63 L65=>
 wg x62 false (wl x63 L65) L65 fun x67 L69=>
 W.grd x62 false (fun k72=>wc (.fn 42 []) [x67] L69 fun x74 L75=>
 k72 x74 L75) L69 fun x71 L73=>
 wg x62 false (W.un .not x71) L73 fun x76 L78=>
 W.pick x62 (.bool true) x76 fun x80=>
 wk x80 (
 Q (.bool false) L78) (
 wb .add 3 x43 (.int .i64 1) fun x81=>
 n22 [x42,x81] L78)
def jF(Q:R)(n22:Kn)(v39:Vs)(L41:SH)(n40:Kn):Prop:=
 EL 1 4 5 6 v39 fun x42 x43 x44 x45=>
 bo 2 x44 L41 fun x47=>
 W.len x47 fun x48=>
 wb .lss 3 x45 x48 fun x49=>
 wk x49 (
 bo 2 x44 L41 fun x51=>
 Ba 1 x51 x45 L41 fun x53=>
 wc (.fn 41 []) [x53] L41 (tD Q n40 x45 x42 x43 x44)) (
 bo 0 x44 L41 fun x59=>
 wc (.fn 41 []) [x59] L41 (tE Q n22 x44 x43 x42))
def tF(Q:R)(n22:Kn)(L23:SH)(x24 x25:AV):Prop:=
 bo 1 x24 L23 fun x31=>
 ug 4 x31 x25 L23 fun x33=>
 xH [(.str []),(.int .i64 0),.nils,.nils] 4 x33 L23 fun x37 L38=>
 W.loop (jF Q n22) [x24,x25,x37,(.int .i64 0)] L38
def jG(Q:R)(v21:Vs)(L23:SH)(n22:Kn):Prop:=
 EK 1 4 v21 fun x24 x25=>
 bo 1 x24 L23 fun x27=>
 W.len x27 fun x28=>
 wb .lss 3 x25 x28 fun x29=>
 wk x29 (
 (tF Q n22 L23 x24 x25)) (
 bo 1 x24 L23 fun x83=>
 W.len x83 fun x84=>
 wb .gtr 3 x84 (.int .i64 0) fun x85=>
 Q x85 L23)
def jH(Q:R)(v4:Vs)(L6:SH)(n5:Kn):Prop:=
 EK 1 3 v4 fun x7 x8=>
 bo 0 x7 L6 fun x10=>
 W.len x10 fun x11=>
 wb .lss 3 x8 x11 fun x12=>
 wk x12 (
 bo 0 x7 L6 fun x14=>
 ug 6 x14 x8 L6 fun x16=>
 wc (.fn 40 []) [x16] L6 (tC Q n5 x8 x7)) (
 W.loop (jG Q) [x7,(.int .i64 0)] L6)
def kv(t0:AV)(L:SH)(Q:R):Prop:=
 xb t0 L fun x2 L3=>
 W.loop (jH Q) [x2,(.int .i64 0)] L3
theorem tG(t0:AV)(L:SH)(Q:R)(h:kv t0 L Q):am Try.prog 28 [t0] L Q:=
 bC ⟨fun _=>none,fun k=>if k=2 then [1,3]else if k=11 then [1,4,5,6]else if k=7 then [1,4]else [],fun k=>if k=0 then [1]else if k=9 then [5]else [],fun _=>[]⟩ Try.func28 (by kernel_rfl) (by kernel_rfl) h
def eu(Q:R)(v0:Vs)(L2:SH)(n1:Kn):Prop:=
 wu 0 1 5 v0 fun x3 x4 x5=>
 W.len x3 fun x6=>
 wb .lss 3 x5 x6 fun x7=>
 wk x7 (
 Ba 1 x3 x5 L2 fun x9=>
 wb .eql 9 x9 x4 fun x10=>
 wk x10 (
 Q x5 L2) (
 wb .add 3 x5 (.int .i64 1) fun x11=>
 n1 [x3,x4,x11] L2)) (
 Q (.int .i64 (-1)) L2)
def jv(t0 t1:AV)(L:SH)(Q:R):Prop:=
 W.loop (eu Q) [t0,t1,(.int .i64 0)] L
theorem kw(t0 t1:AV)(L:SH)(Q:R)(h:jv t0 t1 L Q):am Try.prog 45 [t0,t1] L Q:=
 bC ⟨fun _=>none,fun k=>if k=2 then [0,1,5]else [],fun _=>[],fun _=>[]⟩ Try.func45 (by kernel_rfl) (by kernel_rfl) h
def jI(Q:R)(v0:Vs)(L2:SH)(n1:Kn):Prop:=
 wu 0 1 5 v0 fun x3 x4 x5=>
 W.len x3 fun x6=>
 wb .lss 3 x5 x6 fun x7=>
 wk x7 (
 gQ 6 2 x3 x5 L2 fun x10=>
 wb .eql 9 x10 x4 fun x11=>
 wk x11 (
 Q x5 L2) (
 wb .add 3 x5 (.int .i64 1) fun x12=>
 n1 [x3,x4,x12] L2)) (
 Q (.int .i64 (-1)) L2)
def ky(t0 t1:AV)(L:SH)(Q:R):Prop:=
 W.loop (jI Q) [t0,t1,(.int .i64 0)] L
theorem tH(t0 t1:AV)(L:SH)(Q:R)(h:ky t0 t1 L Q):am Try.prog 43 [t0,t1] L Q:=
 bC ⟨fun _=>none,fun k=>if k=2 then [0,1,5]else [],fun _=>[],fun _=>[]⟩ Try.func43 (by kernel_rfl) (by kernel_rfl) h
def hJ(Q:R)(v0:Vs)(L2:SH)(n1:Kn):Prop:=
 wu 0 1 5 v0 fun x3 x4 x5=>
 W.len x3 fun x6=>
 wb .lss 3 x5 x6 fun x7=>
 wk x7 (
 gQ 4 0 x3 x5 L2 fun x10=>
 wb .eql 9 x10 x4 fun x11=>
 wk x11 (
 Q x5 L2) (
 wb .add 3 x5 (.int .i64 1) fun x12=>
 n1 [x3,x4,x12] L2)) (
 Q (.int .i64 (-1)) L2)
def iO(t0 t1:AV)(L:SH)(Q:R):Prop:=
 W.loop (hJ Q) [t0,t1,(.int .i64 0)] L
theorem qx(t0 t1:AV)(L:SH)(Q:R)(h:iO t0 t1 L Q):am Try.prog 44 [t0,t1] L Q:=
 bC ⟨fun _=>none,fun k=>if k=2 then [0,1,5]else [],fun _=>[],fun _=>[]⟩ Try.func44 (by kernel_rfl) (by kernel_rfl) h
def tI(Q:R)(x68:AV)(L69:SH):Prop:=
 wb .geq 3 x68 (.int .i64 0) fun x70=>
 wk x70 (
 Q (.int .i64 7) L69) (
 Q (.int .i64 0) L69)
def tJ(Q:R)(v84:Vs)(L86:SH):Prop:=
 wu 3 7 56 v84 fun x87 x88 x89=>
 wk x89 (
 bo 0 x87 L86 fun x91=>
 gQ 6 0 x91 x88 L86 fun x94=>
 Q x94 L86) (
 Q (.int .i64 9) L86)
def tK(j85:Kn)(L64:SH)(x75 x2 x63:AV):Prop:=
 wb .eql 3 x75 (.int .i64 4) fun x96=>
 wk x96 (
 j85 [x2,x63,x96] L64) (
 wb .eql 3 x75 (.int .i64 5) fun x97=>
 wk x97 (
 j85 [x2,x63,x97] L64) (
 wb .eql 3 x75 (.int .i64 6) fun x98=>
 j85 [x2,x63,x98] L64))
def tL(Q:R)(L64:SH)(x75 x2 x63:AV):Prop:=
 wb .eql 3 x75 (.int .i64 2) fun x83=>
 wk x83 (
 Q (.int .i64 1) L64) (
 W.join (tJ Q) fun j85=>
 wb .eql 3 x75 (.int .i64 3) fun x95=>
 wk x95 (
 j85 [x2,x63,x95] L64) (
 (tK j85 L64 x75 x2 x63)))
def tM(Q:R)(L64:SH)(x2 x63:AV):Prop:=
 bo 0 x2 L64 fun x72=>
 gQ 6 0 x72 x63 L64 fun x75=>
 wb .eql 3 x75 (.int .i64 1) fun x76=>
 wk x76 (
 bo 0 x2 L64 fun x78=>
 gQ 6 3 x78 x63 L64 fun x81=>
 wb .neq 3 x81 (.int .i64 0) fun x82=>
 wk x82 (
 Q (.int .i64 2) L64) (
 Q (.int .i64 1) L64)) (
 (tL Q L64 x75 x2 x63))
def tN(Q:R)(t2 x2 x63:AV)(L64:SH):Prop:=
 wb .lss 3 x63 (.int .i64 0) fun x65=>
 wk x65 (
 bo 1 x2 L64 fun x67=>
 wc (.fn 44 []) [x67,t2] L64 (tI Q)) (
 (tM Q L64 x2 x63))
def kz(t0 t1 t2:AV)(L:SH)(Q:R):Prop:=
 xb t0 L fun x2 L3=>
 wb .geq 3 t1 (.int .i64 0) fun x4=>
 cj x4 true t1 L3 fun x5 L7=>
 wg x4 true (W.faddr 1 x2) L7 fun x8 L10=>
 wg x4 true (wl x8 L10) L10 fun x12 L14=>
 wg x4 true (W.len x12) L14 fun x16 L18=>
 wg x4 true (wb .lss 3 x5 x16) L18 fun x20 L22=>
 W.pick x4 x20 (.bool false) fun x24=>
 wg x24 true (W.faddr 1 x2) L22 fun x25 L27=>
 wg x24 true (wl x25 L27) L27 fun x29 L31=>
 cj x24 true t1 L31 fun x33 L35=>
 wg x24 true (W.idx 4 x29 x33 L35) L35 fun x36 L38=>
 wg x24 true (W.faddr 2 x36) L38 fun x40 L42=>
 wg x24 true (wl x40 L42) L42 fun x44 L46=>
 cj x24 true t2 L46 fun x48 L50=>
 W.grd x24 true (fun k52=>wc (.fn 45 []) [x44,x48] L50 fun x54 L55=>
 k52 x54 L55) L50 fun x51 L53=>
 wg x24 true (wb .geq 3 x51 (.int .i64 0)) L53 fun x56 L58=>
 W.pick x24 x56 (.bool false) fun x60=>
 wk x60 (
 Q (.int .i64 8) L58) (
 bo 0 x2 L58 fun x62=>
 wc (.fn 43 []) [x62,t2] L58 (tN Q t2 x2))
theorem tO(t0 t1 t2:AV)(L:SH)(Q:R)(h:kz t0 t1 t2 L Q):am Try.prog 84 [t0,t1,t2] L Q:=
 bC ⟨fun k=>if k=18 then some [3,7,56]else none,fun _=>[],fun k=>if k=0 then [3]else [],fun _=>[]⟩ Try.func84 (by kernel_rfl) (by kernel_rfl) h
def wH(Q:R)(L6:SH)(t3 t4 x5:AV):Prop:=
 wb .neq 3 x5 t3 fun x8=>
 cj x8 true x5 L6 fun x9 L11=>
 cj x8 true t4 L11 fun x12 L14=>
 wg x8 true (wb .neq 3 x9 x12) L14 fun x15 L17=>
 W.pick x8 x15 (.bool false) fun x19=>
 wk x19 (
 Q (.int .i64 6) L17) (
 Q (.int .i64 0) L17)
def wI(Q:R)(t3 t4 x5:AV)(L6:SH):Prop:=
 wb .eql 3 x5 (.int .i64 0) fun x7=>
 wk x7 (
 Q (.int .i64 5) L6) (
 (wH Q L6 t3 t4 x5))
def qy(t0 t1 t2 t3 t4:AV)(L:SH)(Q:R):Prop:=
 xb t0 L fun x2 L3=>
 dy 2 x2 L3 fun x4=>
 wc (.fn 84 []) [x4,t1,t2] L3 (wI Q t3 t4)
theorem wJ(t0 t1 t2 t3 t4:AV)(L:SH)(Q:R)(h:qy t0 t1 t2 t3 t4 L Q):am Try.prog 65 [t0,t1,t2,t3,t4] L Q:=
 bC ⟨fun _=>none,fun _=>[],fun k=>if k=0 then [5]else [],fun _=>[]⟩ Try.func65 (by kernel_rfl) (by kernel_rfl) h
def vi(n5:Kn)(x8 x9 x10 x7 x19:AV)(L20:SH):Prop:=
 W.ext 0 x19 fun x21=>
 W.ext 1 x19 fun x22=>
 wb .add 3 x8 x21 fun x23=>
 W.mnx true x9 x22 fun x24=>
 wb .add 3 x10 (.int .i64 1) fun x25=>
 n5 [x7,x23,x24,x25] L20
def kB(Q:R)(v4:Vs)(L6:SH)(n5:Kn):Prop:=
 EL 1 4 5 6 v4 fun x7 x8 x9 x10=>
 bo 3 x7 L6 fun x12=>
 W.len x12 fun x13=>
 wb .lss 3 x10 x13 fun x14=>
 wk x14 (
 bo 3 x7 L6 fun x16=>
 ug 4 x16 x10 L6 fun x18=>
 wc (.fn 85 []) [x18] L6 (vi n5 x8 x9 x10 x7)) (
 wb .add 3 x9 (.int .i64 1) fun x26=>
 Q (.tup [x8,x26]) L6)
def mG(t0:AV)(L:SH)(Q:R):Prop:=
 xb t0 L fun x2 L3=>
 W.loop (kB Q) [x2,(.int .i64 1),(.int .i64 0),(.int .i64 0)] L3
theorem vj(t0:AV)(L:SH)(Q:R)(h:mG t0 L Q):am Try.prog 85 [t0] L Q:=
 bC ⟨fun _=>none,fun k=>if k=3 then [1,4,5,6]else [],fun k=>if k=0 then [1]else [],fun _=>[]⟩ Try.func85 (by kernel_rfl) (by kernel_rfl) h
def vk(n16:Kn)(L32:SH)(x22 x18 x19 x20 x44:AV)(L46:SH)(q45:Ns):Prop:=
 wn [] q45 [] L32.names fun r47=>
 wb .add 3 x22 (.int .i64 1) fun x48=>
 n16 [x18,x19,x20,x44,x48] L46
def vl(n16:Kn)(L32:SH)(x19 x20 x22 x18:AV):Prop:=
 (true=true)∧(
 dr [] 0 2 x19 L32 fun x35 r36=>
 bx 3 x20 [rm 0 r36] 3 L32 fun x38 r39=>
 di [rm 0 r36] 5 4 x38 x22 L32 fun x40 r41=>
 dr [rm 0 r36] 6 4 x40 L32 fun x42 r43=>
 wd [] 7 (.fn 86 []) [x35,x18,x42] L32 (vk n16 L32 x22 x18 x19 x20))
def gq(Q:R)(v15:Vs)(L17:SH)(n16:Kn):Prop:=
 Ah 1 3 5 7 8 v15 fun x18 x19 x20 x21 x22=>
 bo 3 x20 L17 fun x24=>
 W.len x24 fun x25=>
 wb .lss 3 x22 x25 fun x26=>
 cj x26 true x21 L17 fun x27 L29=>
 wg x26 true (wb .eql 47 x27 (.int .i64 0)) L29 fun x30 L32=>
 W.pick x26 x30 (.bool false) fun x34=>
 wk x34 (
 (vl n16 L32 x19 x20 x22 x18)) (
 Q x21 L32)
def gr(Q:R)(v8:Vs)(L10:SH):Prop:=
 EL 1 3 5 7 v8 fun x11 x12 x13 x14=>
 W.loop (gq Q) [x11,x12,x13,x14,(.int .i64 0)] L10
def vm(j9:Kn)(L7:SH)(t1 x50 x4 x6:AV):Prop:=
 wb .eql 3 x50 (.int .i64 3) fun x57=>
 wk x57 (
 dy 2 x4 L7 fun x58=>
 bo 2 x6 L7 fun x60=>
 wc (.fn 65 []) [x58,t1,x60,(.int .i64 2),(.int .i64 2)] L7 fun x61 L62=>
 j9 [t1,x4,x6,x61] L62) (
 j9 [t1,x4,x6,(.int .i64 0)] L7)
def mH(t0 t1 t2:AV)(L:SH)(Q:R):Prop:=
 W.box t0 L fun x0 L1=>
 W.box t2 L1 fun x2 L3=>
 W.frz1 x0 L3 fun x4 L5=>
 W.frz1 x2 L5 fun x6 L7=>
 W.join (gr Q) fun j9=>
 bo 0 x6 L7 fun x50=>
 wb .eql 3 x50 (.int .i64 2) fun x51=>
 wk x51 (
 dy 2 x4 L7 fun x52=>
 bo 2 x6 L7 fun x54=>
 wc (.fn 65 []) [x52,t1,x54,(.int .i64 8),(.int .i64 1)] L7 fun x55 L56=>
 j9 [t1,x4,x6,x55] L56) (
 (vm j9 L7 t1 x50 x4 x6))
theorem vn(t0 t1 t2:AV)(L:SH)(Q:R)(h:mH t0 t1 t2 L Q):am Try.prog 86 [t0,t1,t2] L Q:=
 bC ⟨fun k=>if k=6 then some [1,3,5,7]else none,fun k=>if k=8 then [1,3,5,7,8]else [],fun k=>if k=0 then [3,5]else [],fun k=>if k=10 then [0,0,0,4,0,28,60,127,255]else []⟩ Try.func86 (by kernel_rfl) (by kernel_rfl) h
def wK(Q:R)(t1 x4 x6 x13:AV)(L14:SH):Prop:=
 W.ext 0 x13 fun x15=>
 W.ext 1 x13 fun x16=>
 wb .gtr 3 x15 (.int .i64 24) fun x17=>
 cj x17 false x16 L14 fun x18 L20=>
 wg x17 false (wb .gtr 3 x18 (.int .i64 6)) L20 fun x21 L23=>
 W.pick x17 (.bool true) x21 fun x25=>
 wk x25 (
 Q (.int .i64 2) L23) (
 dy 2 x4 L23 fun x26=>
 dy 4 x6 L23 fun x27=>
 wc (.fn 86 []) [x26,t1,x27] L23 fun x28 L29=>
 Q x28 L29)
def wL(Q:R)(t1 x6 x4 x9:AV)(L10:SH):Prop:=
 W.un .not x9 fun x11=>
 wk x11 (
 Q (.int .i64 3) L10) (
 dy 4 x6 L10 fun x12=>
 wc (.fn 85 []) [x12] L10 (wK Q t1 x4 x6))
def qz(t0 t1 t2:AV)(L:SH)(Q:R):Prop:=
 W.box t0 L fun x0 L1=>
 W.box t2 L1 fun x2 L3=>
 W.frz1 x0 L3 fun x4 L5=>
 W.frz1 x2 L5 fun x6 L7=>
 dy 4 x6 L7 fun x8=>
 wc (.fn 82 []) [x8] L7 (wL Q t1 x6 x4)
theorem wM(t0 t1 t2:AV)(L:SH)(Q:R)(h:qz t0 t1 t2 L Q):am Try.prog 66 [t0,t1,t2] L Q:=
 bC ⟨fun _=>none,fun _=>[],fun k=>if k=0 then [3,5]else [],fun _=>[]⟩ Try.func66 (by kernel_rfl) (by kernel_rfl) h
def jJ(t0:AV)(L:SH)(Q:R):Prop:=
 wk t0 (
 Q (.int .i64 7) L) (
 Q (.int .i64 0) L)
theorem sf(t0:AV)(L:SH)(Q:R)(h:jJ t0 L Q):am Try.prog 67 [t0] L Q:=
 bC ⟨fun _=>none,fun _=>[],fun _=>[],fun _=>[]⟩ Try.func67 (by kernel_rfl) (by kernel_rfl) h
def vo(t0 t1:AV)(L:SH)(Q:R):Prop:=
 wb .neq 47 t0 (.int .i64 0) fun x0=>
 wk x0 (
 Q t0 L) (
 Q t1 L)
theorem zp(t0 t1:AV)(L:SH)(Q:R)(h:vo t0 t1 L Q):am Try.prog 64 [t0,t1] L Q:=
 bC ⟨fun _=>none,fun _=>[],fun _=>[],fun _=>[]⟩ Try.func64 (by kernel_rfl) (by kernel_rfl) h
def vp(n2:Kn)(L16:SH)(x18 x6 x4 x24:AV)(L26:SH)(q25:Ns):Prop:=
 wn [] q25 [] L16.names fun r27=>
 wb .add 3 x18 x24 fun x28=>
 wb .add 3 x6 (.int .i64 1) fun x29=>
 n2 [x4,x28,x29] L26
def vq(n2:Kn)(L3:SH)(x5 x4 x6:AV)(r13 r10:Fp)(x14:AV)(L16:SH)(q15:Ns):Prop:=
 wn [] q15 [] L3.names fun r17=>
 wb .add 3 x5 x14 fun x18=>
 di [rc 6 r17,rm 5 r13,rm 3 r10] 10 11 x4 x6 L16 fun x19 r20=>
 bx 10 x19 [rc 6 r17,rm 5 r13,rm 3 r10] 12 L16 fun x22 r23=>
 wd [] 13 (.fn 31 []) [x22] L16 (vp n2 L16 x18 x6 x4)
def kC(Q:R)(v1:Vs)(L3:SH)(n2:Kn):Prop:=
 wu 0 3 4 v1 fun x4 x5 x6=>
 W.len x4 fun x7=>
 wb .lss 3 x6 x7 fun x8=>
 wk x8 (
 (true=true)∧(
 di [] 3 11 x4 x6 L3 fun x9 r10=>
 bx 9 x9 [] 5 L3 fun x12 r13=>
 wd [] 6 (.fn 31 []) [x12] L3 (vq n2 L3 x5 x4 x6 r13 r10))) (
 Q x5 L3)
def mI(t0:AV)(L:SH)(Q:R):Prop:=
 W.len t0 fun x0=>
 W.loop (kC Q) [t0,x0,(.int .i64 0)] L
theorem vr(t0:AV)(L:SH)(Q:R)(h:mI t0 L Q):am Try.prog 31 [t0] L Q:=
 bC ⟨fun _=>none,fun k=>if k=3 then [0,3,4]else [],fun _=>[],fun k=>if k=5 then [0,0,0,6,14,30,62,127,0,0,768,1792,3840,8062,16383,32767]else []⟩ Try.func31 (by kernel_rfl) (by kernel_rfl) h
end Go.Proofs.Ytljkdffikfkcgaa.Am
end
section
namespace Go.Proofs.Ytljkdffikfkcgaa.Am
set_option maxRecDepth 100000
set_option linter.unusedVariables false
def ui(c:Int):Bool:=(decide (97≤c)&&decide (c≤122))||(decide (65≤c)&&decide (c≤90))
def Ap(c:Int):Bool:=decide (48≤c)&&decide (c≤57)
def sg(c:Int):Bool:=ui c||Ap c||decide (c=95)
theorem kU(c:Int):aO Try.prog 59 [.int .u8 c] (.bool (ui c)):=by
 refine tw _ _ _ ?_
 unfold kp
 repeat' (first | refine st ?_ | refine sb (fun nb_ hnb_=>?_) | refine s2 (fun h=>?_) (fun h=>?_) | fail)
 all_goals (refine⟨?_,rfl⟩;simp_all[ui]<;>omega)
theorem zq(c:Int):aO Try.prog 81 [.int .u8 c] (.bool (Ap c)):=by
 refine ve _ _ _ ?_
 unfold mD
 repeat' (first | refine st ?_ | refine sb (fun nb_ hnb_=>?_) | refine s2 (fun h=>?_) (fun h=>?_) | fail)
 all_goals (refine⟨?_,rfl⟩;simp_all[Ap]<;>omega)
theorem zr(c:Int):aO Try.prog 61 [.int .u8 c] (.bool (sg c)):=by
 refine vg _ _ _ ?_
 unfold mE
 repeat' (first | refine st ?_ | ((with_reducible refine aq 59 ?_);refine aj (kU _) ?_) | ((with_reducible refine al 59 ?_);refine ab (kU _) ?_) | ((with_reducible refine aq 81 ?_);refine aj (zq _) ?_) | ((with_reducible refine al 81 ?_);refine ab (zq _) ?_) | refine sb (fun nb_ hnb_=>?_) | refine s2 (fun h=>?_) (fun h=>?_) | fail)
 all_goals (refine⟨?_,rfl⟩;simp_all[sg]<;>omega)
def zt:List aL:=[[118,97,114],[118,111,108,97,116,105,108,101],[109,117,116,101,120],[114,119,108,111,99,107],[99,111,110,100],[102,117,116,117,114,101],[116,104,114,101,97,100],[105,102],[101,108,115,101],[119,104,105,108,101],[108,111,99,107],[114,101,97,100],[119,114,105,116,101],[116,114,97,110,115,97,99,116,105,111,110],[97,116,111,109,105,99],[119,97,105,116],[110,111,116,105,102,121],[110,111,116,105,102,121,97,108,108],[115,112,97,119,110],[106,111,105,110],[115,101,116],[103,101,116]]
theorem Bk:aO Try.prog 80 [] (.lst (zt.map az)):=by
 refine am.fz (qt _ _ ?_)
 unfold iM
 repeat' (first | refine st ?_ | refine sb (fun nb_ hnb_=>?_) | refine s2 (fun h=>?_) (fun h=>?_) | fail)
 exact⟨_,[],aV.all (Fz.sls (l:=zt) (f:=az) rp rfl (by decide) rfl),rfl,rfl⟩
def EW(s:aL):Bool:=zt.any fun x=>decide (x=s)
theorem Dr(s:aL):aO Try.prog 60 [.str s] (.bool (EW s)):=by
 refine m0 _ _ _ ?_
 unfold hD
 repeat' (first | refine st ?_ | ((with_reducible refine aq 80 ?_);refine aj (Bk) ?_) | ((with_reducible refine al 80 ?_);refine ab (Bk) ?_) | refine sb (fun nb_ hnb_=>?_) | refine s2 (fun h=>?_) (fun h=>?_) | fail)
 refine cJ zt (fun x=>decide (x=s)) (fun i=>[.str s,.lst (zt.map az),.int .i64 i]) (by decide) rfl (fun i h1 hd hi hno nx hn=>?_) (fun i h1 hd hno nx=>?_)
 all_goals unfold gk
 ·have hx:=aC (f:=az) h1
  repeat' (first | refine st ?_ | refine sb (fun nb_ hnb_=>?_) | refine s2 (fun h=>?_) (fun h=>?_) | fail)
  ·exact⟨by rw[EW,EQ h1 h],rfl⟩
  ·exact hn h
 ·repeat' (first | refine st ?_ | refine sb (fun nb_ hnb_=>?_) | refine s2 (fun h=>?_) (fun h=>?_) | fail)
  exact⟨by rw[EW,GK hno],rfl⟩
def dH(s:aL):Bool:=decide (1≤(s.length:Int))&&decide ((s.length:Int)≤12)&&ui (s.getD 0 0).toNat&&!EW s&&s.all fun c=>sg c.toNat
theorem e9(s:aL)(hs:s.length<2^62):aO Try.prog 41 [.str s] (.bool (dH s)):=by
 refine tB _ _ _ ?_
 unfold kq
 generalize hQ:(fun(u:AV) (K:SH)=>u=AV.bool (dH s)∧K=[])=Q
 have hq:Q (.bool (dH s)) []:=by subst hQ;exact⟨rfl,rfl⟩
 clear hQ
 by_cases h0:0<s.length
 ·have d1:decide ((s.length:Int)<1)=false:=by simpa using(by omega:(1:Int)≤s.length)
  repeat' (first | refine st ?_ | refine FU (i:=0) ?_ h0 | ((with_reducible refine aq 59 ?_);refine aj (kU _) ?_) | ((with_reducible refine al 59 ?_);refine ab (kU _) ?_) | ((with_reducible refine aq 60 ?_);refine aj (Dr _) ?_) | ((with_reducible refine al 60 ?_);refine ab (Dr _) ?_) | refine sb (fun nb_ hnb_=>?_) | refine s2 (fun h=>?_) (fun h=>?_) | fail)
  all_goals first
   | (refine Eq.mp (congrArg (fun b=>Q (AV.bool b) []) ?_) hq;simp_all[dH]<;>omega;done)
   | skip
  refine cJ s (fun c=>!sg c.toNat) (fun i=>[.str s,.int .i64 i]) hs rfl (fun i h1 hd hi hno nx hn=>?_) (fun i h1 hd hno nx=>?_)
  all_goals unfold jE
  ·repeat' (first | refine st ?_ | refine FU ?_ | ((with_reducible refine aq 61 ?_);refine aj (zr _) ?_) | ((with_reducible refine al 61 ?_);refine ab (zr _) ?_) | refine sb (fun nb_ hnb_=>?_) | refine s2 (fun h=>?_) (fun h=>?_) | fail)
   ·refine Eq.mp (congrArg (fun b=>Q (AV.bool b) []) ?_) hq
    have:(s.all fun c=>sg c.toNat)=false:=rT h1 (by simpa[List.getD,h1]using h)
    simp[dH,this]
   ·exact hn (by simpa[List.getD,h1]using h)
  ·repeat' (first | refine st ?_ | refine sb (fun nb_ hnb_=>?_) | refine s2 (fun h=>?_) (fun h=>?_) | fail)
   refine Eq.mp (congrArg (fun b=>Q (AV.bool b) []) ?_) hq
   have:(s.all fun c=>sg c.toNat)=true:=List.all_eq_true.2 fun x hx=>by simpa using hno x hx
   simp_all[dH]<;>omega
 ·have d1:decide ((s.length:Int)<1)=true:=by simpa using(by omega:(s.length:Int)<1)
  repeat' (first | refine st ?_ | refine sb (fun nb_ hnb_=>?_) | refine s2 (fun h=>?_) (fun h=>?_) | fail)
  refine Eq.mp (congrArg (fun b=>Q (AV.bool b) []) ?_) hq
  simp_all[dH]
end Go.Proofs.Ytljkdffikfkcgaa.Am
end
section
namespace Go.Proofs.Ytljkdffikfkcgaa.Am
set_option maxRecDepth 100000
set_option linter.unusedVariables false
def EX(op:Int):Int:=if op=1∨op=2 then 0 else if 3≤op∧op≤5 then 1 else if 6≤op∧op≤18 then 2 else -1
theorem ta(op:Int):aO Try.prog 93 [.int .i64 op] (.int .i64 (EX op)):=by
 refine qw _ _ _ ?_
 unfold iN
 repeat' (first | refine st ?_ | refine sb (fun nb_ hnb_=>?_) | refine s2 (fun h=>?_) (fun h=>?_) | fail)
 all_goals (refine⟨?_,rfl⟩;simp_all[EX]<;>(repeat' split)<;>first | rfl | omega)
def Ds(op n:Int)(name:aL)(k:Nat):Bool:=decide (EX op=(k:Int))&&(decide (op=2∨op=3)==decide (name≠[]))&&(!decide (op=2∨op=3)||dH name)&&decide (0≤n)&&(decide (op=1)||decide (n=0))
mutual
def wx:ac→Bool
 | .mk op n name l=>Ds op n name l.length&&shEs l
def shEs:List ac→Bool
 | []=>true
 | x::l=>wx x&&shEs l
end
theorem Bl:∀l:List ac,shEs l=l.all wx
 | []=>rfl
 | x::l=>by rw[shEs,Bl l];rfl
theorem Aq(x:ac):wx x=(Ds x.op x.n x.name x.l.length&&x.l.all wx):=by cases x;rw[wx,Bl];rfl
theorem iu:∀(k:Nat) (x:ac),x.wt≤k→k<2^40→aO Try.prog 82 [.agg x.row] (.bool (wx x)):=by
 intro k
 induction k with
 | zero=>intro x h;have:=x.wt_eq;omega
 | succ k ih=>
  intro x hk hb
  have hw:=x.wt_eq
  have hnm:=e9 x.name (by omega)
  refine lm _ _ _ ?_
  unfold gl
  generalize hQ:(fun(u:AV) (K:SH)=>u=AV.bool (wx x)∧K=[])=Q
  have hq:Q (.bool (wx x)) []:=by subst hQ;exact⟨rfl,rfl⟩
  clear hQ
  repeat' (first | refine st ?_ | ((with_reducible refine aq 93 ?_);refine aj (ta _) ?_) | ((with_reducible refine al 93 ?_);refine ab (ta _) ?_) | ((with_reducible refine aq 41 ?_);refine aj (hnm) ?_) | ((with_reducible refine al 41 ?_);refine ab (hnm) ?_) | refine sb (fun nb_ hnb_=>?_) | refine s2 (fun h=>?_) (fun h=>?_) | fail)
  all_goals first
   | (refine Eq.mp (congrArg (fun b=>Q (AV.bool b) []) ?_) hq;rw[Aq];simp_all[Ds]<;>omega;done)
   | skip
  all_goals
   refine cJ x.l (fun y=>!wx y) (fun i=>[.pptr [x.row] 0 0,.int .i64 i]) (by have:=x.len;omega) rfl (fun i h1 hd hi hno nx hn=>?_) (fun i h1 hd hno nx=>?_)
   all_goals unfold fH
   ·have hx:=zh h1
    have hc:=ih x.l[i] (by have:=x.kid h1;omega) (by omega)
    repeat' (first | refine st ?_ | ((with_reducible refine aq 82 ?_);refine aj (hc) ?_) | ((with_reducible refine al 82 ?_);refine ab (hc) ?_) | refine sb (fun nb_ hnb_=>?_) | refine s2 (fun h=>?_) (fun h=>?_) | fail)
    ·refine Eq.mp (congrArg (fun b=>Q (AV.bool b) []) ?_) hq
     have:x.l.all wx=false:=rT h1 (by simpa using h)
     simp[Aq,this]
    ·exact hn h
   ·repeat' (first | refine st ?_ | refine sb (fun nb_ hnb_=>?_) | refine s2 (fun h=>?_) (fun h=>?_) | fail)
    refine Eq.mp (congrArg (fun b=>Q (AV.bool b) []) ?_) hq
    have:x.l.all wx=true:=List.all_eq_true.2 fun y hy=>by simpa using hno y hy
    rw[Aq]
    simp_all[Ds]<;>omega
end Go.Proofs.Ytljkdffikfkcgaa.Am
end
section
namespace Go.Proofs.Ytljkdffikfkcgaa.Am
set_option maxRecDepth 100000
set_option linter.unusedVariables false
def xS(e:ac):Bool:=decide (e.op=0)&&decide (e.n=0)&&decide (e.name=[])&&decide (e.l.length=0)
theorem Dt(x:ac):aO Try.prog 83 [.agg x.row] (.bool (xS x)):=by
 refine vh _ _ _ ?_
 unfold mF
 repeat' (first | refine st ?_ | refine sb (fun nb_ hnb_=>?_) | refine s2 (fun h=>?_) (fun h=>?_) | fail)
 all_goals (refine⟨?_,rfl⟩;simp_all[xS]<;>omega)
def I0(op:Int):Bool:=decide (op<1)||decide (15<op)
def Jh(op:Int):Bool:=decide (op=2)||decide (op=3)||decide (op=7)||decide (op=8)
def I1(op:Int)(name:aL):Bool:=(Jh op&&decide (name≠[]))||(!Jh op&&!dH name)
def Iy(op:Int)(arg:aL):Bool:=(decide (op=15)&&!dH arg)||(decide (op≠15)&&decide (arg≠[]))
def FV(op:Int)(index:List ac):Bool:=decide (1<(index.length:Int))||(decide (op≠1)&&decide (0<(index.length:Int)))||(decide ((index.length:Int)=1)&&!index.all wx)
def Ji(op:Int):Bool:=decide (op=1)||decide (op=2)||decide (op=3)||decide (op=14)
def GS(op:Int)(e:ac):Bool:=(Ji op&&!wx e)||(!Ji op&&!xS e)
def EY(op:Int)(nb ne:Nat):Bool:=(!(decide (2≤op)&&decide (op≤8))&&decide (0<(nb:Int)))||(decide (op≠2)&&decide (0<(ne:Int)))
def EZ(op:Int)(name arg:aL)(index:List ac)(e:ac)(nb ne:Nat):Bool:=!I0 op&&(!I1 op name&&(!Iy op arg&&(!FV op index&&(!GS op e&&!EY op nb ne))))
mutual
def gO:aa→Bool
 | .mk op _ name arg index e body els=>EZ op name arg index e body.length els.length&&shSs body&&shSs els
def shSs:List aa→Bool
 | []=>true
 | x::l=>gO x&&shSs l
end
theorem uj:∀l:List aa,shSs l=l.all gO
 | []=>rfl
 | x::l=>by rw[shSs,uj l];rfl
theorem GT(x:aa):gO x=(EZ x.op x.name x.arg x.index x.expr x.body.length x.els.length&&x.body.all gO&&x.els.all gO):=by cases x;rw[gO,uj,uj];rfl
theorem gu(l:List aa)(hl:l.length<2^40)(h:∀i (hi:i<l.length),aO Try.prog 62 [.agg l[i].row] (.bool (gO l[i]))):aO Try.prog 42 [.lst (l.map aa.enc)] (.bool (l.all gO)):=by
 refine ku _ _ _ ?_
 unfold fI
 refine cJ l (fun y=>!gO y) (fun i=>[.lst (l.map aa.enc),.int .i64 i]) (by omega) rfl (fun i h1 hd hi hno nx hn=>?_) (fun i h1 hd hno nx=>?_)
 all_goals unfold fp
 ·have hx:=xd h1
  have hc:=h i h1
  repeat' (first | refine st ?_ | ((with_reducible refine aq 62 ?_);refine aj (hc) ?_) | ((with_reducible refine al 62 ?_);refine ab (hc) ?_) | refine sb (fun nb_ hnb_=>?_) | refine s2 (fun h=>?_) (fun h=>?_) | fail)
  ·exact⟨by rw[rT h1 (by simpa using h)],rfl⟩
  ·exact hn h
 ·repeat' (first | refine st ?_ | refine sb (fun nb_ hnb_=>?_) | refine s2 (fun h=>?_) (fun h=>?_) | fail)
  exact⟨by rw[List.all_eq_true.2 fun y hy=>by simpa using hno y hy],rfl⟩
section
variable (op line:Int) (name arg:aL) (index:List ac) (e:ac) (body els:List aa) (Q:R)
abbrev Iz:AV:=(.pptr [[.int .i64 op,.int .i64 line,.str name,.str arg,.lst (index.map ac.enc),.int .i64 e.op,.int .i64 e.n,.str e.name,.lst (e.l.map ac.enc),.lst (body.map aa.enc),.lst (els.map aa.enc)]] 0 0)
theorem IA(hb:aO Try.prog 42 [.lst (body.map aa.enc)] (.bool (body.all gO)))(he:aO Try.prog 42 [.lst (els.map aa.enc)] (.bool (els.all gO)))
  (hq:Q (.bool (!EY op body.length els.length&&(body.all gO&&els.all gO))) []):dK Q [] (Iz op line name arg index e body els):=by
 unfold dK
 generalize hB:body.all gO=B at *
 generalize hE:els.all gO=E at *
 repeat' (first | refine st ?_ | ((with_reducible refine aq 42 ?_);refine aj (hb) ?_) | ((with_reducible refine al 42 ?_);refine ab (hb) ?_) | ((with_reducible refine aq 42 ?_);refine aj (he) ?_) | ((with_reducible refine al 42 ?_);refine ab (he) ?_) | refine sb (fun nb_ hnb_=>?_) | refine s2 (fun h=>?_) (fun h=>?_) | fail)
 all_goals
  refine Eq.mp (congrArg (fun b=>Q (AV.bool b) []) ?_) hq
  simp_all only[EY,Bool.not_true,Bool.not_false,Bool.true_and,Bool.false_and,Bool.and_true,Bool.and_false,Bool.or_true,Bool.or_false,Bool.true_or,Bool.false_or]
theorem IB(hb:aO Try.prog 42 [.lst (body.map aa.enc)] (.bool (body.all gO)))(he:aO Try.prog 42 [.lst (els.map aa.enc)] (.bool (els.all gO)))
  (hx:e.wt<2^40) (hq:Q (.bool (!GS op e&&(!EY op body.length els.length&&(body.all gO&&els.all gO)))) []):dL Q [] (Iz op line name arg index e body els):=by
 have h1:=iu _ e (Nat.le_refl _) hx
 have h2:=Dt e
 unfold ac.row at h1 h2
 have hz:=IA op line name arg index e body els Q hb he
 unfold dL
 unfold GS at hq
 generalize wx e=A at *
 generalize xS e=B at *
 repeat' (first | with_reducible refine hz ?_ | refine st ?_ | ((with_reducible refine aq 82 ?_);refine aj (h1) ?_) | ((with_reducible refine al 82 ?_);refine ab (h1) ?_) | ((with_reducible refine aq 83 ?_);refine aj (h2) ?_) | ((with_reducible refine al 83 ?_);refine ab (h2) ?_) | refine sb (fun nb_ hnb_=>?_) | refine s2 (fun h=>?_) (fun h=>?_) | fail)
 all_goals
  refine Eq.mp (congrArg (fun b=>Q (AV.bool b) []) ?_) hq
  simp_all[Ji]
theorem IC(hb:aO Try.prog 42 [.lst (body.map aa.enc)] (.bool (body.all gO)))(he:aO Try.prog 42 [.lst (els.map aa.enc)] (.bool (els.all gO)))
  (hx:e.wt<2^40) (hi:ac.wts index<2^40) (hq:Q (.bool (!FV op index&&(!GS op e&&(!EY op body.length els.length&&(body.all gO&&els.all gO))))) []):dM Q [] (Iz op line name arg index e body els):=by
 have hz:=IB op line name arg index e body els Q hb he hx
 unfold dM
 by_cases hn:index.length=1
 ·obtain⟨i,rfl⟩:=List.length_eq_one_iff.1 hn
  have h1:=iu _ i (Nat.le_refl _) (by simp only[ac.wts]at hi;omega)
  unfold ac.row at h1
  have hx0:=zh (l:=[i]) (i:=0) (by simp)
  have e1:[i].all wx=wx i:=by simp
  unfold FV at hq
  rw[e1]at hq
  generalize wx i=A at *
  repeat' (first | with_reducible refine hz ?_ | refine st ?_ | ((with_reducible refine aq 82 ?_);refine aj (h1) ?_) | ((with_reducible refine al 82 ?_);refine ab (h1) ?_) | refine sb (fun nb_ hnb_=>?_) | refine s2 (fun h=>?_) (fun h=>?_) | fail)
  all_goals
   refine Eq.mp (congrArg (fun b=>Q (AV.bool b) []) ?_) hq
   simp_all
 ·have d1:decide ((index.length:Int)=1)=false:=by simpa using(by omega:¬(index.length:Int)=1)
  repeat' (first | with_reducible refine hz ?_ | refine st ?_ | refine sb (fun nb_ hnb_=>?_) | refine s2 (fun h=>?_) (fun h=>?_) | fail)
  all_goals
   refine Eq.mp (congrArg (fun b=>Q (AV.bool b) []) ?_) hq
   simp_all only[FV,Bool.not_true,Bool.not_false,Bool.true_and,Bool.false_and,Bool.and_true,Bool.and_false,Bool.or_true,Bool.or_false,Bool.true_or,Bool.false_or]
theorem ID(hb:aO Try.prog 42 [.lst (body.map aa.enc)] (.bool (body.all gO)))(he:aO Try.prog 42 [.lst (els.map aa.enc)] (.bool (els.all gO)))
  (hx:e.wt<2^40) (hi:ac.wts index<2^40) (ha:arg.length<2^40) (hq:Q (.bool (!Iy op arg&&(!FV op index&&(!GS op e&&(!EY op body.length els.length&&(body.all gO&&els.all gO)))))) []):dN Q [] (Iz op line name arg index e body els):=by
 have hz:=IC op line name arg index e body els Q hb he hx hi
 have h1:=e9 arg (by omega)
 unfold dN
 unfold Iy at hq
 generalize dH arg=A at *
 repeat' (first | with_reducible refine hz ?_ | refine st ?_ | ((with_reducible refine aq 41 ?_);refine aj (h1) ?_) | ((with_reducible refine al 41 ?_);refine ab (h1) ?_) | refine sb (fun nb_ hnb_=>?_) | refine s2 (fun h=>?_) (fun h=>?_) | fail)
 all_goals
  refine Eq.mp (congrArg (fun b=>Q (AV.bool b) []) ?_) hq
  simp_all
theorem IE(hb:aO Try.prog 42 [.lst (body.map aa.enc)] (.bool (body.all gO)))(he:aO Try.prog 42 [.lst (els.map aa.enc)] (.bool (els.all gO)))
  (hx:e.wt<2^40) (hi:ac.wts index<2^40) (ha:arg.length<2^40) (hm:name.length<2^40) (hq:Q (.bool (!I1 op name&&(!Iy op arg&&(!FV op index&&(!GS op e&&(!EY op body.length els.length&&(body.all gO&&els.all gO))))))) []):dO Q [] (Iz op line name arg index e body els):=by
 have hz:=ID op line name arg index e body els Q hb he hx hi ha
 have h1:=e9 name (by omega)
 unfold dO
 unfold I1 at hq
 generalize dH name=A at *
 repeat' (first | with_reducible refine hz ?_ | refine st ?_ | ((with_reducible refine aq 41 ?_);refine aj (h1) ?_) | ((with_reducible refine al 41 ?_);refine ab (h1) ?_) | refine sb (fun nb_ hnb_=>?_) | refine s2 (fun h=>?_) (fun h=>?_) | fail)
 all_goals
  refine Eq.mp (congrArg (fun b=>Q (AV.bool b) []) ?_) hq
  simp_all[Jh]
end
theorem tP(x:aa)(hw:x.wt<2^40)
  (hb:aO Try.prog 42 [.lst (x.body.map aa.enc)] (.bool (x.body.all gO))) (he:aO Try.prog 42 [.lst (x.els.map aa.enc)] (.bool (x.els.all gO))) :
  aO Try.prog 62 [.agg x.row] (.bool (gO x)):=by
 have hwe:=x.wt_eq
 refine lq _ _ _ ?_
 unfold gm
 have e1:gO x=(!I0 x.op&&(!I1 x.op x.name&&(!Iy x.op x.arg&&(!FV x.op x.index&&(!GS x.op x.expr&&(!EY x.op x.body.length x.els.length&&(x.body.all gO&&x.els.all gO))))))):=by
  rw[GT,EZ];simp only[Bool.and_assoc]
 generalize hQ:(fun(u:AV) (K:SH)=>u=AV.bool (gO x)∧K=[])=Q
 have hq:Q (.bool (gO x)) []:=by subst hQ;exact⟨rfl,rfl⟩
 clear hQ
 rw[e1]at hq
 clear e1
 have hz:=IE x.op x.line x.name x.arg x.index x.expr x.body x.els Q hb he (by omega) (by omega) (by omega) (by omega)
 unfold aa.row
 repeat' (first | with_reducible refine hz ?_ | refine st ?_ | refine sb (fun nb_ hnb_=>?_) | refine s2 (fun h=>?_) (fun h=>?_) | fail)
 all_goals
  refine Eq.mp (congrArg (fun b=>Q (AV.bool b) []) ?_) hq
  simp_all only[I0,Bool.not_true,Bool.not_false,Bool.true_and,Bool.false_and,Bool.and_true,Bool.and_false,Bool.or_true,Bool.or_false,Bool.true_or,Bool.false_or]
theorem wN:∀(k:Nat) (x:aa),x.wt≤k→k<2^40→aO Try.prog 62 [.agg x.row] (.bool (gO x)):=by
 intro k
 induction k with
 | zero=>intro x h;have:=x.wt_eq;omega
 | succ k ih=>
  intro x hk hb
  have hw:=x.wt_eq
  have h1:=aa.wts_len x.body
  have h2:=aa.wts_len x.els
  refine tP x (by omega) (gu _ (by omega) fun i hi=>ih _ (by have:=aa.wts_get _ i hi;omega) (by omega)) (gu _ (by omega) fun i hi=>ih _ (by have:=aa.wts_get _ i hi;omega) (by omega))
theorem vt(l:List aa)(hl:aa.wts l<2^40):aO Try.prog 42 [.lst (l.map aa.enc)] (.bool (l.all gO)):=
 gu l (by have:=aa.wts_len l;omega) fun i hi=>wN _ _ (Nat.le_refl _) (by have:=aa.wts_get l i hi;omega)
end Go.Proofs.Ytljkdffikfkcgaa.Am
end
section
namespace Go.Proofs.Ytljkdffikfkcgaa.Am
set_option maxRecDepth 100000
set_option linter.unusedVariables false
theorem fU{a b:Nat}(h:a+b<2^62):IntKind.i64.wrap ((a:Int)+(b:Int))=((a+b:Nat):Int):=by rw[IntWalk.i64_in _ (by omega)];omega
def Jj(d:av):Bool:=decide (d.kind<1)||decide (6<d.kind)||!dH d.name||decide (d.size<0)||(decide (d.kind≠1)&&decide (d.size≠0))
def Jk(d:av):Bool:=(decide (d.kind=5)&&!dH d.on)||(decide (d.kind≠5)&&decide (d.on≠[]))
def I2(d:av):Bool:=decide (-9223372036854775808<d.init)&&(decide (d.init=0)||decide (d.kind=1)||decide (d.kind=2))
def FW(d:av):Bool:=!Jj d&&(!Jk d&&I2 d)
theorem wO(d:av)(hw:d.wt<2^40):aO Try.prog 40 [.agg d.enc] (.bool (FW d)):=by
 have h1:=e9 d.name (by unfold av.wt at hw;omega)
 have h2:=e9 d.on (by unfold av.wt at hw;omega)
 have z0:∀Q:R,Q (.bool (I2 d)) []→dP Q [] (.pptr [d.enc] 0 0):=fun Q hq=>by
  unfold dP
  repeat' (first | refine st ?_ | refine sb (fun nb_ hnb_=>?_) | refine s2 (fun h=>?_) (fun h=>?_) | fail)
  all_goals
   refine Eq.mp (congrArg (fun b=>Q (AV.bool b) []) ?_) hq
   simp_all only[I2,Bool.not_true,Bool.not_false,Bool.true_and,Bool.false_and,Bool.and_true,Bool.and_false,Bool.or_true,Bool.or_false,Bool.true_or,Bool.false_or]
 have z1:∀Q:R,Q (.bool (!Jk d&&I2 d)) []→dQ Q [] (.pptr [d.enc] 0 0):=fun Q hq=>by
  have hz:=z0 Q
  unfold dQ
  unfold Jk at hq
  clear z0
  generalize dH d.on=A at *
  repeat' (first | with_reducible refine hz ?_ | refine st ?_ | ((with_reducible refine aq 41 ?_);refine aj (h2) ?_) | ((with_reducible refine al 41 ?_);refine ab (h2) ?_) | refine sb (fun nb_ hnb_=>?_) | refine s2 (fun h=>?_) (fun h=>?_) | fail)
  all_goals
   refine Eq.mp (congrArg (fun b=>Q (AV.bool b) []) ?_) hq
   simp_all
 refine lr _ _ _ ?_
 unfold gp
 generalize hQ:(fun(u:AV) (K:SH)=>u=AV.bool (FW d)∧K=[])=Q
 have hq:Q (.bool (FW d)) []:=by subst hQ;exact⟨rfl,rfl⟩
 clear hQ
 have hz:=z1 Q
 unfold FW Jj at hq
 clear z0 z1
 generalize dH d.name=A at *
 repeat' (first | with_reducible refine hz ?_ | refine st ?_ | ((with_reducible refine aq 41 ?_);refine aj (h1) ?_) | ((with_reducible refine al 41 ?_);refine ab (h1) ?_) | refine sb (fun nb_ hnb_=>?_) | refine s2 (fun h=>?_) (fun h=>?_) | fail)
 all_goals
  refine Eq.mp (congrArg (fun b=>Q (AV.bool b) []) ?_) hq
  simp_all
def E0(t:ai):Bool:=t.locals.all dH&&(dH t.name&&t.body.all gO)
def Du(p:aK):Bool:=p.decls.all FW&&(p.threads.all E0&&decide (0<(p.threads.length:Int)))
theorem av.wt_pos(d:av):1≤d.wt:=by unfold av.wt;omega
theorem ai.wt_pos(d:ai):1≤d.wt:=by unfold ai.wt;omega
theorem ai.local_len(t:ai){i:Nat}(h:i<t.locals.length):t.locals[i].length<t.wt:=by have:=uh (f:=List.length) t.locals i h;unfold ai.wt;omega
theorem aK.decl_wt(p:aK){i:Nat}(h:i<p.decls.length):p.decls[i].wt≤p.wt:=by have:=uh (f:=av.wt) p.decls i h;unfold aK.wt;omega
theorem aK.thread_wt(p:aK){i:Nat}(h:i<p.threads.length):p.threads[i].wt≤p.wt:=by have:=uh (f:=ai.wt) p.threads i h;unfold aK.wt;omega
theorem aK.decls_len(p:aK):p.decls.length≤p.wt:=by have:=xM av.wt_pos p.decls;unfold aK.wt;omega
theorem aK.threads_len(p:aK):p.threads.length≤p.wt:=by have:=xM ai.wt_pos p.threads;unfold aK.wt;omega
theorem BX(p:aK)(hw:p.wt<2^40):aO Try.prog 28 [.agg p.enc] (.bool (Du p)):=by
 have hl1:=p.decls_len
 have hl2:=p.threads_len
 refine tG _ _ _ ?_
 unfold kv
 generalize hQ:(fun(u:AV) (K:SH)=>u=AV.bool (Du p)∧K=[])=Q
 have hq:Q (.bool (Du p)) []:=by subst hQ;exact⟨rfl,rfl⟩
 clear hQ
 repeat' (first | refine st ?_ | refine sb (fun nb_ hnb_=>?_) | refine s2 (fun h=>?_) (fun h=>?_) | fail)
 refine cJ p.decls (fun y=>!FW y) (fun i=>[.pptr [p.enc] 0 0,.int .i64 i]) (by omega) rfl (fun i h1 hd hi hno nx hn=>?_) (fun i h1 hd hno nx=>?_)
 all_goals unfold jH
 ·have hx:=aC (f:=av.enc) h1
  have hc:=wO p.decls[i] (by have:=p.decl_wt h1;omega)
  repeat' (first | refine st ?_ | ((with_reducible refine aq 40 ?_);refine aj (hc) ?_) | ((with_reducible refine al 40 ?_);refine ab (hc) ?_) | refine sb (fun nb_ hnb_=>?_) | refine s2 (fun h=>?_) (fun h=>?_) | fail)
  ·refine Eq.mp (congrArg (fun b=>Q (AV.bool b) []) ?_) hq
   rw[Du,rT h1 (by simpa using h),Bool.false_and]
  ·exact hn h
 ·repeat' (first | refine st ?_ | refine sb (fun nb_ hnb_=>?_) | refine s2 (fun h=>?_) (fun h=>?_) | fail)
  have e1:p.decls.all FW=true:=List.all_eq_true.2 fun y hy=>by simpa using hno y hy
  unfold Du at hq
  rw[e1,Bool.true_and]at hq
  clear hno
  refine cJ p.threads (fun y=>!E0 y) (fun i=>[.pptr [p.enc] 0 0,.int .i64 i]) (by omega) rfl (fun i h1 hd hi hno nx hn=>?_) (fun i h1 hd hno nx=>?_)
  all_goals unfold jG
  ·have hx:=aC (f:=ai.enc) h1
   have hwt:=p.thread_wt h1
   have hloc:=fun j (hj:j<(p.threads[i]).locals.length)=>(p.threads[i]).local_len hj
   have hll:(p.threads[i]).locals.length<2^40:=by have:(p.threads[i]).locals.length≤(p.threads[i]).wt:=(by unfold ai.wt;omega);omega
   have hnm:=e9 (p.threads[i]).name (by have:(p.threads[i]).name.length<(p.threads[i]).wt:=(by unfold ai.wt;omega);omega)
   have hbd:=vt (p.threads[i]).body (by have:aa.wts (p.threads[i]).body<(p.threads[i]).wt:=(by unfold ai.wt;omega);omega)
   have hfa:E0 p.threads[i]=false→p.threads.all E0=false:=rT h1
   generalize p.threads[i]=t at *
   repeat' (first | refine st ?_ | refine sb (fun nb_ hnb_=>?_) | refine s2 (fun h=>?_) (fun h=>?_) | fail)
   refine cJ t.locals (fun y=>!dH y) (fun j=>[.pptr [p.enc] 0 0,.int .i64 i,.pptr [t.enc] 0 0,.int .i64 j]) (by omega) rfl (fun j h1 hd hi2 hno2 nx2 hn2=>?_) (fun j h1 hd hno2 nx2=>?_)
   all_goals unfold jF
   ·have hx2:=aC (f:=az) h1
    have hc:=e9 t.locals[j] (by have:=hloc j h1;omega)
    repeat' (first | refine st ?_ | ((with_reducible refine aq 41 ?_);refine aj (hc) ?_) | ((with_reducible refine al 41 ?_);refine ab (hc) ?_) | refine sb (fun nb_ hnb_=>?_) | refine s2 (fun h=>?_) (fun h=>?_) | fail)
    ·refine Eq.mp (congrArg (fun b=>Q (AV.bool b) []) ?_) hq
     rw[hfa (by rw[E0,rT h1 (by simpa using h),Bool.false_and]),Bool.false_and]
    ·exact hn2 h
   ·have e2:t.locals.all dH=true:=List.all_eq_true.2 fun y hy=>by simpa using hno2 y hy
    have e3:E0 t=(dH t.name&&t.body.all gO):=by rw[E0,e2,Bool.true_and]
    rw[e3]at hfa hn
    clear e3
    generalize dH t.name=A at *
    generalize t.body.all gO=B at *
    repeat' (first | refine st ?_ | ((with_reducible refine aq 41 ?_);refine aj (hnm) ?_) | ((with_reducible refine al 41 ?_);refine ab (hnm) ?_) | ((with_reducible refine aq 42 ?_);refine aj (hbd) ?_) | ((with_reducible refine al 42 ?_);refine ab (hbd) ?_) | refine sb (fun nb_ hnb_=>?_) | refine s2 (fun h=>?_) (fun h=>?_) | fail)
    all_goals first
     | exact hn (by simp_all)
     | (refine Eq.mp (congrArg (fun b=>Q (AV.bool b) []) ?_) hq;rw[hfa (by simp_all),Bool.false_and])
  ·repeat' (first | refine st ?_ | refine sb (fun nb_ hnb_=>?_) | refine s2 (fun h=>?_) (fun h=>?_) | fail)
   have e2:p.threads.all E0=true:=List.all_eq_true.2 fun y hy=>by simpa using hno y hy
   rw[e2,Bool.true_and]at hq
   exact hq
def fJ(l:List aL)(s:aL):Int:=gg (fun x=>decide (x=s)) l 0
def bU(l:List av)(s:aL):Int:=gg (fun x=>decide (x.name=s)) l 0
def cx(l:List ai)(s:aL):Int:=gg (fun x=>decide (x.name=s)) l 0
theorem fK(l:List aL)(s:aL)(hl:l.length<2^62):aO Try.prog 45 [.lst (l.map az),.str s] (.int .i64 (fJ l s)):=by
 refine kw _ _ _ _ ?_
 unfold jv
 refine cJ l (fun x=>decide (x=s)) (fun i=>[.lst (l.map az),.str s,.int .i64 i]) hl rfl (fun i h1 hd hi hno nx hn=>?_) (fun i h1 hd hno nx=>?_)
 all_goals unfold eu
 ·have hx:=aC (f:=az) h1
  repeat' (first | refine st ?_ | refine sb (fun nb_ hnb_=>?_) | refine s2 (fun h=>?_) (fun h=>?_) | fail)
  ·exact⟨by rw[fJ,gh h1 hno h],rfl⟩
  ·exact hn h
 ·repeat' (first | refine st ?_ | refine sb (fun nb_ hnb_=>?_) | refine s2 (fun h=>?_) (fun h=>?_) | fail)
  exact⟨by rw[fJ,eq hno],rfl⟩
theorem fX(l:List av)(s:aL)(hl:l.length<2^62):aO Try.prog 43 [.lst (l.map av.enc),.str s] (.int .i64 (bU l s)):=by
 refine tH _ _ _ _ ?_
 unfold ky
 refine cJ l (fun x=>decide (x.name=s)) (fun i=>[.lst (l.map av.enc),.str s,.int .i64 i]) hl rfl (fun i h1 hd hi hno nx hn=>?_) (fun i h1 hd hno nx=>?_)
 all_goals unfold jI
 ·have hx:=aC (f:=av.enc) h1
  repeat' (first | refine st ?_ | refine sb (fun nb_ hnb_=>?_) | refine s2 (fun h=>?_) (fun h=>?_) | fail)
  ·exact⟨by rw[bU,gh h1 hno h],rfl⟩
  ·exact hn h
 ·repeat' (first | refine st ?_ | refine sb (fun nb_ hnb_=>?_) | refine s2 (fun h=>?_) (fun h=>?_) | fail)
  exact⟨by rw[bU,eq hno],rfl⟩
theorem hM(l:List ai)(s:aL)(hl:l.length<2^62):aO Try.prog 44 [.lst (l.map ai.enc),.str s] (.int .i64 (cx l s)):=by
 refine qx _ _ _ _ ?_
 unfold iO
 refine cJ l (fun x=>decide (x.name=s)) (fun i=>[.lst (l.map ai.enc),.str s,.int .i64 i]) hl rfl (fun i h1 hd hi hno nx hn=>?_) (fun i h1 hd hno nx=>?_)
 all_goals unfold hJ
 ·have hx:=aC (f:=ai.enc) h1
  repeat' (first | refine st ?_ | refine sb (fun nb_ hnb_=>?_) | refine s2 (fun h=>?_) (fun h=>?_) | fail)
  ·exact⟨by rw[cx,gh h1 hno h],rfl⟩
  ·exact hn h
 ·repeat' (first | refine st ?_ | refine sb (fun nb_ hnb_=>?_) | refine s2 (fun h=>?_) (fun h=>?_) | fail)
  exact⟨by rw[cx,eq hno],rfl⟩
def IF(b:Bool):Int:=if b then 7 else 0
theorem aB(b:Bool):aO Try.prog 67 [.bool b] (.int .i64 (IF b)):=by
 refine sf _ _ _ ?_
 unfold jJ
 cases b
 all_goals
  repeat' (first | refine st ?_ | refine sb (fun nb_ hnb_=>?_) | refine s2 (fun h=>?_) (fun h=>?_) | fail)
  exact⟨rfl,rfl⟩
def I3(a b:Int):Int:=if a≠0 then a else b
theorem bO(a b:Int):aO Try.prog 64 [.int .i64 a,.int .i64 b] (.int .i64 (I3 a b)):=by
 refine zp _ _ _ _ ?_
 unfold vo
 repeat' (first | refine st ?_ | refine sb (fun nb_ hnb_=>?_) | refine s2 (fun h=>?_) (fun h=>?_) | fail)
 all_goals (refine⟨?_,rfl⟩;simp_all[I3])
mutual
def aa.cnt:aa→Nat
 | .mk _ _ _ _ _ _ body els=>aa.cnts body+aa.cnts els
def aa.cnts:List aa→Nat
 | []=>0
 | x::l=>1+x.cnt+aa.cnts l
end
theorem aa.cnt_eq(x:aa):x.cnt=aa.cnts x.body+aa.cnts x.els:=by cases x;rfl
theorem aa.cnts_eq:∀l:List aa,aa.cnts l=l.length+(l.map aa.cnt).sum
 | []=>rfl
 | x::l=>by rw[aa.cnts,aa.cnts_eq l];simp;omega
mutual
theorem aa.cnt_wt:∀x:aa,x.cnt<x.wt
 | .mk a b c d e f body els=>by have:=aa.cnts_wt body;have:=aa.cnts_wt els;simp only[aa.cnt,aa.wt];omega
theorem aa.cnts_wt:∀l:List aa,aa.cnts l≤aa.wts l
 | []=>Nat.le_refl _
 | x::l=>by have:=aa.cnt_wt x;have:=aa.cnts_wt l;simp only[aa.cnts,aa.wts];omega
end
theorem kD{α:Type}{f:α→Nat}:∀(l:List α) (i:Nat) (h:i<l.length),((l.take i).map f).sum+f l[i]≤(l.map f).sum
 | x::l,0,_=>by simp
 | x::l,i+1,h=>by have:=kD (f:=f) l i (by simpa using h);simp only[List.getElem_cons_succ,List.take_succ_cons,List.map_cons,List.sum_cons];omega
theorem iv{α:Type}{f:α→Nat}{l:List α}{i:Nat}(h:i<l.length):((l.take (i+1)).map f).sum=((l.take i).map f).sum+f l[i]:=by
 rw[List.take_succ_eq_append_getElem h,List.map_append,List.sum_append];simp
theorem Dv:∀(k:Nat) (l:List aa),aa.wts l≤k→k<2^40→aO Try.prog 31 [.lst (l.map aa.enc)] (.int .i64 (aa.cnts l:Nat)):=by
 intro k
 induction k using Nat.strongRecOn with
 | _ k ih=>
  intro l hl hk
  have hlen:=aa.wts_len l
  have hcw:=aa.cnts_wt l
  refine vr _ _ _ ?_
  unfold mI
  repeat' (first | refine st ?_ | refine sb (fun nb_ hnb_=>?_) | refine s2 (fun h=>?_) (fun h=>?_) | fail)
  refine eJ l.length (fun _=>True) (fun i=>[.lst (l.map aa.enc),.int .i64 ((l.length+((l.take i).map aa.cnt).sum:Nat):Int),.int .i64 i]) (by omega) trivial (by simp) (fun i h1 hd hi _ nx hn=>?_) (fun i h1 hd _ nx=>?_)
  all_goals unfold kC
  ·have hx:=xd h1
   have hwi:=aa.wts_get l i h1
   have hwe:=(l[i]).wt_eq
   have c1:=ih _ (by omega) l[i].body (Nat.le_refl _) (by omega)
   have c2:=ih _ (by omega) l[i].els (Nat.le_refl _) (by omega)
   have hs:=kD (f:=aa.cnt) l i h1
   have hcc:=(l[i]).cnt_eq
   rw[aa.cnts_eq]at hcw
   have e1:=fU (a:=l.length+((l.take i).map aa.cnt).sum) (b:=aa.cnts l[i].body) (by omega)
   have e2:=fU (a:=l.length+((l.take i).map aa.cnt).sum+aa.cnts l[i].body) (b:=aa.cnts l[i].els) (by omega)
   repeat' (first | refine st ?_ | ((with_reducible refine aq 31 ?_);refine aj (c1) ?_) | ((with_reducible refine al 31 ?_);refine ab (c1) ?_) | ((with_reducible refine aq 31 ?_);refine aj (c2) ?_) | ((with_reducible refine al 31 ?_);refine ab (c2) ?_) | refine sb (fun nb_ hnb_=>?_) | refine s2 (fun h=>?_) (fun h=>?_) | fail)
   have hn:=hn trivial
   rw[iv h1,hcc]at hn
   simpa[Nat.add_assoc]using hn
  ·repeat' (first | refine st ?_ | refine sb (fun nb_ hnb_=>?_) | refine s2 (fun h=>?_) (fun h=>?_) | fail)
   refine⟨?_,rfl⟩
   rw[h1,List.take_length,←aa.cnts_eq]
end Go.Proofs.Ytljkdffikfkcgaa.Am
end
section
namespace Go.Proofs.Ytljkdffikfkcgaa.Am
set_option maxRecDepth 100000
set_option linter.unusedVariables false
theorem ef{α:Type}{p:α→Bool}:∀(l:List α) (j:Nat),(gg p l j=-1∧l.find? p=none)∨∃(k:Nat) (h:k<l.length),gg p l j=(j+k:Nat)∧l.find? p=some l[k]
 | [],_=>.inl ⟨rfl,rfl⟩
 | x::l,j=>by
  by_cases h:p x=true
  ·exact .inr ⟨0,by simp,by simp[gg,h],by simp[h]⟩
  ·rcases ef (p:=p) l (j+1)with⟨h1,h2⟩ | ⟨k,h1,h2,h3⟩
   ·exact .inl ⟨by simp[gg,h,h1],by simp[h,h2]⟩
   ·refine .inr ⟨k+1,by simpa using h1,?_,by simpa[h]using h3⟩
    simp only[gg,h,Bool.false_eq_true,if_false,h2];congr 1;omega
def kE(l:List av)(s:aL):Option av:=l.find? fun x=>decide (x.name=s)
def hO(d:av):Int:=bif decide (d.kind=1)then(bif decide (d.size≠0)then 2 else 1)else bif decide (d.kind=2)then 1 else bif decide (d.kind=3)then d.kind else bif decide (d.kind=4)then d.kind else bif decide (d.kind=5)then d.kind else bif decide (d.kind=6)then d.kind else 9
def zu(p:aK)(s:aL):Option av→Int
 | none=>bif decide (0≤cx p.threads s)then 7 else 0
 | some d=>hO d
def aD(p:aK)(loc:List aL)(s:aL):Int:=bif decide (0≤fJ loc s)then 8 else zu p s (kE p.decls s)
theorem BY(p:aK)(t:Nat)(s:aL)(hw:p.wt<2^40)(ht:t<p.threads.length):aO Try.prog 84 [.agg p.enc,.int .i64 t,.str s] (.int .i64 (aD p p.threads[t].locals s)):=by
 have hl1:=p.decls_len
 have hl2:=p.threads_len
 have hwt:=p.thread_wt ht
 have hll:p.threads[t].locals.length<p.threads[t].wt:=by unfold ai.wt;omega
 have c1:=fK p.threads[t].locals s (by omega)
 have c2:=fX p.decls s (by omega)
 have c3:=hM p.threads s (by omega)
 have d0:decide (0≤(t:Int))=true:=by simp
 have d1:=ct ht
 have hx:=aC (f:=ai.enc) ht
 refine tO _ _ _ _ _ ?_
 unfold kz
 generalize hQ:(fun(u:AV) (K:SH)=>u=AV.int .i64 (aD p p.threads[t].locals s)∧K=[])=Q
 have hq:Q (.int .i64 (aD p p.threads[t].locals s)) []:=by subst hQ;exact⟨rfl,rfl⟩
 clear hQ
 unfold aD at hq
 rcases ef (p:=fun x:av=>decide (x.name=s)) p.decls 0 with⟨h1,h2⟩ | ⟨k,h1,h2,h3⟩
 ·have e1:bU p.decls s=-1:=h1
  have e2:kE p.decls s=none:=h2
  rw[e1]at c2
  rw[e2,zu]at hq
  clear e1 e2 h1 h2
  repeat' (first | refine st ?_ | ((with_reducible refine aq 45 ?_);refine aj (c1) ?_) | ((with_reducible refine al 45 ?_);refine ab (c1) ?_) | ((with_reducible refine aq 43 ?_);refine aj (c2) ?_) | ((with_reducible refine al 43 ?_);refine ab (c2) ?_) | ((with_reducible refine aq 44 ?_);refine aj (c3) ?_) | ((with_reducible refine al 44 ?_);refine ab (c3) ?_) | refine sb (fun nb_ hnb_=>?_) | refine s2 (fun h=>?_) (fun h=>?_) | fail)
  all_goals
   refine Eq.mp (congrArg (fun b=>Q (AV.int .i64 b) []) ?_) hq
   simp only[*,cond_true,cond_false]
 ·have e1:bU p.decls s=(k:Nat):=by rw[bU,h2];simp
  have e2:kE p.decls s=some p.decls[k]:=h3
  rw[e1]at c2
  rw[e2]at hq
  have d2:decide ((k:Int)<0)=false:=by simp
  have hy:=aC (f:=av.enc) h1
  rw[zu]at hq
  clear e1 e2 h2 h3
  generalize p.decls[k]=d at *
  unfold hO at hq
  repeat' (first | refine st ?_ | ((with_reducible refine aq 45 ?_);refine aj (c1) ?_) | ((with_reducible refine al 45 ?_);refine ab (c1) ?_) | ((with_reducible refine aq 43 ?_);refine aj (c2) ?_) | ((with_reducible refine al 43 ?_);refine ab (c2) ?_) | ((with_reducible refine aq 44 ?_);refine aj (c3) ?_) | ((with_reducible refine al 44 ?_);refine ab (c3) ?_) | refine sb (fun nb_ hnb_=>?_) | refine s2 (fun h=>?_) (fun h=>?_) | fail)
  all_goals
   refine Eq.mp (congrArg (fun b=>Q (AV.int .i64 b) []) ?_) hq
   simp only[*,cond_true,cond_false]
def dt(k a b:Int):Int:=if k=0 then 5 else if k≠a∧k≠b then 6 else 0
theorem xT(p:aK)(t:Nat)(s:aL)(a b:Int)(hw:p.wt<2^40)(ht:t<p.threads.length):aO Try.prog 65 [.agg p.enc,.int .i64 t,.str s,.int .i64 a,.int .i64 b] (.int .i64 (dt (aD p p.threads[t].locals s) a b)):=by
 have c1:=BY p t s hw ht
 refine wJ _ _ _ _ _ _ _ ?_
 unfold qy
 generalize aD p p.threads[t].locals s=k at *
 repeat' (first | refine st ?_ | ((with_reducible refine aq 84 ?_);refine aj (c1) ?_) | ((with_reducible refine al 84 ?_);refine ab (c1) ?_) | refine sb (fun nb_ hnb_=>?_) | refine s2 (fun h=>?_) (fun h=>?_) | fail)
 all_goals (refine⟨?_,rfl⟩;simp_all[dt])
mutual
def ac.nd:ac→Nat
 | .mk _ _ _ l=>1+ac.nds l
def ac.nds:List ac→Nat
 | []=>0
 | x::l=>x.nd+ac.nds l
end
mutual
def ac.dp:ac→Nat
 | .mk _ _ _ l=>1+ac.dps l
def ac.dps:List ac→Nat
 | []=>0
 | x::l=>max x.dp (ac.dps l)
end
theorem ac.nd_eq(x:ac):x.nd=1+(x.l.map ac.nd).sum:=by
 have:∀l,ac.nds l=(l.map ac.nd).sum:=fun l=>by induction l with
  | nil=>rfl
  | cons x l ih=>rw[ac.nds,ih];rfl
 cases x;rw[ac.nd,this];rfl
theorem ac.dp_eq(x:ac):x.dp=1+ac.dps x.l:=by cases x;rfl
mutual
theorem ac.nd_wt:∀x:ac,x.nd≤x.wt
 | .mk a b c l=>by have:=ac.nds_wt l;simp only[ac.nd,ac.wt];omega
theorem ac.nds_wt:∀l:List ac,ac.nds l≤ac.wts l
 | []=>Nat.le_refl _
 | x::l=>by have:=ac.nd_wt x;have:=ac.nds_wt l;simp only[ac.nds,ac.wts];omega
end
mutual
theorem ac.dp_wt:∀x:ac,x.dp≤x.wt
 | .mk a b c l=>by have:=ac.dps_wt l;simp only[ac.dp,ac.wt];omega
theorem ac.dps_wt:∀l:List ac,ac.dps l≤ac.wts l
 | []=>Nat.le_refl _
 | x::l=>by have:=ac.dp_wt x;have:=ac.dps_wt l;simp only[ac.dps,ac.wts];omega
end
theorem ac.dps_succ{l:List ac}{i:Nat}(h:i<l.length):ac.dps (l.take (i+1))=max (ac.dps (l.take i)) l[i].dp:=by
 rw[List.take_succ_eq_append_getElem h]
 generalize l.take i=m
 induction m with
 | nil=>simp[ac.dps]
 | cons x m ih=>simp only[List.cons_append,ac.dps,ih];omega
theorem ac.dps_take(l:List ac)(i:Nat):ac.dps (l.take i)≤ac.dps l:=by
 induction l generalizing i with
 | nil=>simp
 | cons x l ih=>cases i with
  | zero=>simp[ac.dps]
  | succ i=>have:=ih i;simp only[List.take_succ_cons,ac.dps];omega
theorem IG{k:IntKind}{a b:Nat}{K:AV→Prop}(h:K (.int k ((max a b:Nat):Int))):W.mnx true (.int k (a:Int)) (.int k (b:Int)) K:=by
 rw[Cu]
 have:(if(b:Int) > a then(b:Int)else a)=((max a b:Nat):Int):=by split<;>omega
 rw[this]
 exact h
theorem Dw:∀(k:Nat) (x:ac),x.wt≤k→k<2^40→aO Try.prog 85 [.agg x.row] (.tup [.int .i64 (x.nd:Nat),.int .i64 (x.dp:Nat)]):=by
 intro k
 induction k with
 | zero=>intro x h;have:=x.wt_eq;omega
 | succ k ih=>
  intro x hk hb
  have hlen:=x.len
  have hnd:=x.nd_eq
  have hnw:=x.nd_wt
  have hdp:=x.dp_eq
  have hdw:=x.dp_wt
  refine vj _ _ _ ?_
  unfold mG
  repeat' (first | refine st ?_ | refine sb (fun nb_ hnb_=>?_) | refine s2 (fun h=>?_) (fun h=>?_) | fail)
  refine eJ x.l.length (fun _=>True) (fun i=>[.pptr [x.row] 0 0,.int .i64 ((1+((x.l.take i).map ac.nd).sum:Nat):Int),.int .i64 ((ac.dps (x.l.take i):Nat):Int),.int .i64 i]) (by omega) trivial rfl (fun i h1 hd hi _ nx hn=>?_) (fun i h1 hd _ nx=>?_)
  all_goals unfold kB
  ·have hx:=zh h1
   have hc:=ih x.l[i] (by have:=x.kid h1;omega) (by omega)
   have hs:=kD (f:=ac.nd) x.l i h1
   have e1:=fU (a:=1+((x.l.take i).map ac.nd).sum) (b:=x.l[i].nd) (by omega)
   have hn:=hn trivial
   rw[iv h1,ac.dps_succ h1,←Nat.add_assoc]at hn
   repeat' (first | refine st ?_ | ((with_reducible refine aq 85 ?_);refine aj (hc) ?_) | ((with_reducible refine al 85 ?_);refine ab (hc) ?_) | refine IG ?_ | refine sb (fun nb_ hnb_=>?_) | refine s2 (fun h=>?_) (fun h=>?_) | fail)
   exact hn
  ·have e2:=fU (a:=ac.dps (x.l.take i)) (b:=1) (by have:=ac.dps_take x.l i;omega)
   repeat' (first | refine st ?_ | refine sb (fun nb_ hnb_=>?_) | refine s2 (fun h=>?_) (fun h=>?_) | fail)
   refine⟨?_,rfl⟩
   subst h1
   rw[List.take_length,hnd,hdp,Nat.add_comm 1 (ac.dps _)]
def kF(p:aK)(loc:List aL)(op:Int)(s:aL):Int:=if op=2 then dt (aD p loc s) 8 1 else if op=3 then dt (aD p loc s) 2 2 else 0
mutual
def dR(p:aK)(loc:List aL):ac→Int
 | .mk op _ name l=>if kF p loc op name=0 then namesL p loc l else kF p loc op name
def namesL(p:aK)(loc:List aL):List ac→Int
 | []=>0
 | x::l=>if dR p loc x=0 then namesL p loc l else dR p loc x
end
theorem BZ(p:aK)(loc:List aL)(x:ac):dR p loc x=if kF p loc x.op x.name=0 then namesL p loc x.l else kF p loc x.op x.name:=by cases x;rw[dR];rfl
theorem iw(p:aK)(loc:List aL):∀l m:List ac,namesL p loc (l++m)=if namesL p loc l=0 then namesL p loc m else namesL p loc l
 | [],m=>by simp[namesL]
 | x::l,m=>by
  rw[List.cons_append,namesL,iw p loc l m,namesL]
  by_cases h:dR p loc x=0
  ·simp[h]
  ·simp[h]
theorem zv{p:aK}{loc:List aL}{l:List ac}{i:Nat}(h:i<l.length)(h0:namesL p loc (l.take i)=0):namesL p loc (l.take (i+1))=dR p loc l[i]:=by
 rw[List.take_succ_eq_append_getElem h,iw,if_pos h0,namesL,namesL]
 split<;>simp_all
theorem zw{p:aK}{loc:List aL}{l:List ac}(i:Nat)(h0:¬namesL p loc (l.take i)=0):namesL p loc l=namesL p loc (l.take i):=by
 have:=iw p loc (l.take i) (l.drop i)
 rw[List.take_append_drop,if_neg h0]at this
 exact this
theorem Dx(p:aK)(t:Nat)(hw:p.wt<2^40)(ht:t<p.threads.length):∀(k:Nat) (x:ac),x.wt≤k→k<2^40→aO Try.prog 86 [.agg p.enc,.int .i64 t,.agg x.row] (.int .i64 (dR p p.threads[t].locals x)):=by
 intro k
 induction k with
 | zero=>intro x h;have:=x.wt_eq;omega
 | succ k ih=>
  intro x hk hb
  have hlen:=x.len
  have c1:=xT p t x.name 8 1 hw ht
  have c2:=xT p t x.name 2 2 hw ht
  generalize p.threads[t].locals=loc at *
  refine vn _ _ _ _ _ ?_
  unfold mH
  generalize hQ:(fun(u:AV) (K:SH)=>u=AV.int .i64 (dR p loc x)∧K=[])=Q
  have hq:Q (.int .i64 (dR p loc x)) []:=by subst hQ;exact⟨rfl,rfl⟩
  clear hQ
  rw[BZ]at hq
  have key:∀r:Int,r=kF p loc x.op x.name→gr Q [.int .i64 t,.pptr [p.enc] 0 0,.pptr [x.row] 0 0,.int .i64 r] []:=by
   intro r hr
   rw[←hr]at hq
   unfold gr
   repeat' (first | refine st ?_ | refine sb (fun nb_ hnb_=>?_) | refine s2 (fun h=>?_) (fun h=>?_) | fail)
   by_cases h0:r=0
   ·rw[if_pos h0]at hq
    subst h0
    refine eJ x.l.length (fun _=>True) (fun i=>[.int .i64 t,.pptr [p.enc] 0 0,.pptr [x.row] 0 0,.int .i64 (namesL p loc (x.l.take i)),.int .i64 i]) (by omega) trivial (by simp[namesL]) (fun i h1 hd hi _ nx hn=>?_) (fun i h1 hd _ nx=>?_)
    all_goals unfold gq
    ·have hx:=zh h1
     have hc:=ih x.l[i] (by have:=x.kid h1;omega) (by omega)
     have hn:=hn trivial
     by_cases h2:namesL p loc (x.l.take i)=0
     ·rw[zv h1 h2]at hn
      have d1:decide (namesL p loc (x.l.take i)=0)=true:=by simpa using h2
      repeat' (first | refine st ?_ | ((with_reducible refine aq 86 ?_);refine aj (hc) ?_) | ((with_reducible refine al 86 ?_);refine ab (hc) ?_) | refine sb (fun nb_ hnb_=>?_) | refine s2 (fun h=>?_) (fun h=>?_) | fail)
      exact hn
     ·have d1:decide (namesL p loc (x.l.take i)=0)=false:=by simpa using h2
      repeat' (first | refine st ?_ | refine sb (fun nb_ hnb_=>?_) | refine s2 (fun h=>?_) (fun h=>?_) | fail)
      rw[zw i h2]at hq
      exact hq
    ·repeat' (first | refine st ?_ | refine sb (fun nb_ hnb_=>?_) | refine s2 (fun h=>?_) (fun h=>?_) | fail)
     rw[h1,List.take_length]
     exact hq
   ·rw[if_neg h0]at hq
    have d1:decide (r=0)=false:=by simpa using h0
    refine eJ 0 (fun _=>True) (fun i=>[.int .i64 t,.pptr [p.enc] 0 0,.pptr [x.row] 0 0,.int .i64 r,.int .i64 i]) (by omega) trivial rfl (fun i h1 hd hi _ nx hn=>by omega) (fun i h1 hd _ nx=>?_)
    unfold gq
    repeat' (first | refine st ?_ | refine sb (fun nb_ hnb_=>?_) | refine s2 (fun h=>?_) (fun h=>?_) | fail)
    all_goals exact hq
  clear hq
  repeat' (first | with_reducible refine key _ ?_ | refine st ?_ | ((with_reducible refine aq 65 ?_);refine aj (c1) ?_) | ((with_reducible refine al 65 ?_);refine ab (c1) ?_) | ((with_reducible refine aq 65 ?_);refine aj (c2) ?_) | ((with_reducible refine al 65 ?_);refine ab (c2) ?_) | refine sb (fun nb_ hnb_=>?_) | refine s2 (fun h=>?_) (fun h=>?_) | fail)
  all_goals (clear ih key c1 c2;simp_all[kF])
def gv(p:aK)(loc:List aL)(x:ac):Int:=bif !wx x then 3 else bif decide (24<(x.nd:Int))||decide (6<(x.dp:Int))then 2 else dR p loc x
theorem E1(p:aK)(t:Nat)(x:ac)(hw:p.wt<2^40)(ht:t<p.threads.length)(hx:x.wt<2^40):aO Try.prog 66 [.agg p.enc,.int .i64 t,.agg x.row] (.int .i64 (gv p p.threads[t].locals x)):=by
 have c1:=iu _ x (Nat.le_refl _) hx
 have c2:=Dw _ x (Nat.le_refl _) hx
 have c3:=Dx p t hw ht _ x (Nat.le_refl _) hx
 generalize p.threads[t].locals=loc at *
 refine wM _ _ _ _ _ ?_
 unfold qz
 generalize hQ:(fun(u:AV) (K:SH)=>u=AV.int .i64 (gv p loc x)∧K=[])=Q
 have hq:Q (.int .i64 (gv p loc x)) []:=by subst hQ;exact⟨rfl,rfl⟩
 clear hQ
 unfold gv at hq
 generalize wx x=A at *
 generalize dR p loc x=B at *
 generalize((x.nd:Nat):Int)=C at *
 generalize((x.dp:Nat):Int)=D at *
 repeat' (first | refine st ?_ | ((with_reducible refine aq 82 ?_);refine aj (c1) ?_) | ((with_reducible refine al 82 ?_);refine ab (c1) ?_) | ((with_reducible refine aq 85 ?_);refine aj (c2) ?_) | ((with_reducible refine al 85 ?_);refine ab (c2) ?_) | ((with_reducible refine aq 86 ?_);refine aj (c3) ?_) | ((with_reducible refine al 86 ?_);refine ab (c3) ?_) | refine sb (fun nb_ hnb_=>?_) | refine s2 (fun h=>?_) (fun h=>?_) | fail)
 all_goals
  refine Eq.mp (congrArg (fun b=>Q (AV.int .i64 b) []) ?_) hq
  simp only[*,cond_true,cond_false,Bool.not_true,Bool.not_false,Bool.true_and,Bool.false_and,Bool.and_true,Bool.and_false,Bool.or_true,Bool.or_false,Bool.true_or,Bool.false_or]
end Go.Proofs.Ytljkdffikfkcgaa.Am
end
section
namespace Go.Proofs.Ytljkdffikfkcgaa.Am
set_option linter.unusedVariables false
set_option maxRecDepth 100000
def vu(Q:R)(n1:Kn)(L85:SH)(x40 x83 x46 x45 x41 x42 x43 x44:AV):Prop:=
 gQ 6 0 x40 x83 L85 fun x93=>
 wb .neq 3 x93 (.int .i64 3) fun x94=>
 wk x94 (
 (true=true)∧(
 bx 1 x46 [] 1 L85 fun x96 r97=>
 Q (.tup [(.int .i64 6),x96]) L85)) (
 wb .add 3 x45 (.int .i64 1) fun x98=>
 n1 [x40,x41,x42,x43,x44,x98] L85)
def vv(Q:R)(n1:Kn)(L69:SH)(x46 x40 x45 x41 x42 x43 x44 x83:AV)(L85:SH)(q84:Ns):Prop:=
 wn [] q84 [] L69.names fun r86=>
 wb .lss 3 x83 (.int .i64 0) fun x87=>
 wk x87 (
 (true=true)∧(
 bx 1 x46 [] 1 L85 fun x89 r90=>
 Q (.tup [(.int .i64 5),x89]) L85)) (
 (vu Q n1 L85 x40 x83 x46 x45 x41 x42 x43 x44))
def vw(Q:R)(n1:Kn)(L69:SH)(x40 x45 x46 x41 x42 x43 x44:AV):Prop:=
 (true=true)∧(
 W.calm [] ⟨2,(dw x40),[],[],false,[]⟩ (
 W.slice 6 x40 none (some x45) none L69 fun x78=>
 wn (dw x40) [] [] [] fun r79=>
 bx 5 x46 [rm 2 r79] 4 L69 fun x81 r82=>
 wd [] 5 (.fn 43 []) [x78,x81] L69 (vv Q n1 L69 x46 x40 x45 x41 x42 x43 x44)))
def vx(Q:R)(n1:Kn)(L69:SH)(x46 x40 x45 x41 x42 x43 x44:AV):Prop:=
 bo 0 x46 L69 fun x76=>
 wb .eql 3 x76 (.int .i64 5) fun x77=>
 wk x77 (
 (vw Q n1 L69 x40 x45 x46 x41 x42 x43 x44)) (
 wb .add 3 x45 (.int .i64 1) fun x99=>
 n1 [x40,x41,x42,x43,x44,x99] L69)
def gw(Q:R)(n1:Kn)(v37:Vs)(L39:SH):Prop:=
 GC 0 4 5 6 7 8 9 v37 fun x40 x41 x42 x43 x44 x45 x46=>
 wb .gtr 3 x41 (.int .i64 12) fun x47=>
 cj x47 false x42 L39 fun x48 L50=>
 wg x47 false (wb .gtr 3 x48 (.int .i64 4)) L50 fun x51 L53=>
 W.pick x47 (.bool true) x51 fun x55=>
 cj x55 false x43 L53 fun x56 L58=>
 wg x55 false (wb .gtr 3 x56 (.int .i64 2)) L58 fun x59 L61=>
 W.pick x55 (.bool true) x59 fun x63=>
 cj x63 false x44 L61 fun x64 L66=>
 wg x63 false (wb .gtr 3 x64 (.int .i64 2)) L66 fun x67 L69=>
 W.pick x63 (.bool true) x67 fun x71=>
 wk x71 (
 (true=true)∧(
 bx 1 x46 [] 1 L69 fun x73 r74=>
 Q (.tup [(.int .i64 2),x73]) L69)) (
 (vx Q n1 L69 x46 x40 x45 x41 x42 x43 x44))
def vy(j38:Kn)(L120:SH)(x128 x124 x121 x122 x123 x125 x126 x127:AV):Prop:=
 wb .eql 3 x128 (.int .i64 5) fun x131=>
 wk x131 (
 wb .add 3 x124 (.int .i64 1) fun x132=>
 j38 [x121,x122,x123,x132,x125,x126,x127] L120) (
 wb .add 3 x125 (.int .i64 1) fun x133=>
 j38 [x121,x122,x123,x124,x133,x126,x127] L120)
def vz(j38:Kn)(v118:Vs)(L120:SH):Prop:=
 GF 0 4 5 6 7 8 9 36 47 v118 fun x121 x122 x123 x124 x125 x126 x127 x128 x129=>
 wk x129 (
 wb .add 3 x123 (.int .i64 1) fun x130=>
 j38 [x121,x122,x130,x124,x125,x126,x127] L120) (
 (vy j38 L120 x128 x124 x121 x122 x123 x125 x126 x127))
def vA(j38:Kn)(L104:SH)(x112 x105 x106 x107 x108 x109 x110 x111:AV):Prop:=
 W.join (vz j38) fun j119=>
 wb .eql 3 x112 (.int .i64 3) fun x134=>
 wk x134 (
 j119 [x105,x106,x107,x108,x109,x110,x111,x112,x134] L104) (
 wb .eql 3 x112 (.int .i64 4) fun x135=>
 j119 [x105,x106,x107,x108,x109,x110,x111,x112,x135] L104)
def vB(j38:Kn)(v102:Vs)(L104:SH):Prop:=
 GF 0 4 5 6 7 8 9 36 39 v102 fun x105 x106 x107 x108 x109 x110 x111 x112 x113=>
 wk x113 (
 bo 3 x111 L104 fun x115=>
 W.mnx true x115 (.int .i64 1) fun x116=>
 wb .add 3 x106 x116 fun x117=>
 j38 [x105,x117,x107,x108,x109,x110,x111] L104) (
 (vA j38 L104 x112 x105 x106 x107 x108 x109 x110 x111))
def vC(Q:R)(n1:Kn)(L25:SH)(x16 x3 x4 x5 x6 x7 x8:AV):Prop:=
 W.join (gw Q n1) fun j38=>
 bo 0 x16 L25 fun x101=>
 W.join (vB j38) fun j103=>
 wb .eql 3 x101 (.int .i64 1) fun x136=>
 wk x136 (
 j103 [x3,x4,x5,x6,x7,x8,x16,x101,x136] L25) (
 wb .eql 3 x101 (.int .i64 2) fun x137=>
 j103 [x3,x4,x5,x6,x7,x8,x16,x101,x137] L25)
def vD(Q:R)(n1:Kn)(L25:SH)(x16 x3 x4 x5 x6 x7 x8:AV):Prop:=
 bo 3 x16 L25 fun x32=>
 wb .gtr 3 x32 (.int .i64 4) fun x33=>
 wk x33 (
 (true=true)∧(
 bx 1 x16 [] 1 L25 fun x35 r36=>
 Q (.tup [(.int .i64 2),x35]) L25)) (
 (vC Q n1 L25 x16 x3 x4 x5 x6 x7 x8))
def vE(Q:R)(n1:Kn)(L17:SH)(x16 x3 x4 x5 x6 x7 x8 x23:AV)(L25:SH)(q24:Ns):Prop:=
 wn [] q24 [] L17.names fun r26=>
 wb .geq 3 x23 (.int .i64 0) fun x27=>
 wk x27 (
 (true=true)∧(
 bx 1 x16 [] 1 L25 fun x29 r30=>
 Q (.tup [(.int .i64 4),x29]) L25)) (
 (vD Q n1 L25 x16 x3 x4 x5 x6 x7 x8))
def vF(Q:R)(n1:Kn)(L2:SH)(x3 x8 x4 x5 x6 x7:AV):Prop:=
 ug 6 x3 x8 L2 fun x12=>
 xH [(.int .i64 0),(.int .i64 0),(.str []),(.int .i64 0),(.int .i64 0),(.str [])] 6 x12 L2 fun x16 L17=>
 (true=true)∧(
 W.calm [] ⟨2,(dw x3),[],[],false,[]⟩ (
 W.slice 6 x3 none (some x8) none L17 fun x18=>
 wn (dw x3) [] [] [] fun r19=>
 bx 2 x16 [rm 2 r19] 4 L17 fun x21 r22=>
 wd [] 5 (.fn 43 []) [x18,x21] L17 (vE Q n1 L17 x16 x3 x4 x5 x6 x7 x8)))
def kG(Q:R)(v0:Vs)(L2:SH)(n1:Kn):Prop:=
 GA 0 4 5 6 7 8 v0 fun x3 x4 x5 x6 x7 x8=>
 W.len x3 fun x9=>
 wb .lss 3 x8 x9 fun x10=>
 wk x10 (
 (vF Q n1 L2 x3 x8 x4 x5 x6 x7)) (
 Q (.tup [(.int .i64 0),(.int .i64 0)]) L2)
def mJ(t0:AV)(L:SH)(Q:R):Prop:=
 W.loop (kG Q) [t0,(.int .i64 0),(.int .i64 0),(.int .i64 0),(.int .i64 0),(.int .i64 0)] L
theorem vG(t0:AV)(L:SH)(Q:R)(h:mJ t0 L Q):am Try.prog 29 [t0] L Q:=
 bC ⟨fun k=>if k=11 then some [0,4,5,6,7,8,9]else if k=13 then some [0,4,5,6,7,8,9,36,39]else if k=16 then some [0,4,5,6,7,8,9,36,47]else none,fun k=>if k=3 then [0,4,5,6,7,8]else [],fun k=>if k=5 then [9]else [],fun k=>if k=6 then [0,0,3,0,8,31,63]else if k=7 then [0,1,0,7]else if k=9 then [0,1,0,7]else if k=21 then [0,1,0,7]else if k=23 then [0,0,3,0,8,31,63]else if k=25 then [0,1,0,7]else if k=27 then [0,1,0,7]else []⟩ Try.func29 (by kernel_rfl) (by kernel_rfl) h
def sh(Q:R)(n5:Kn)(L21:SH)(x7 x8 x20 x28:AV)(L30:SH)(q29:Ns):Prop:=
 wn [] q29 [] L21.names fun r31=>
 wb .geq 3 x28 (.int .i64 0) fun x32=>
 W.dgrd x32 false (fun k34=>W.faddr 1 x7 fun x37=>
 k34 x37 L30 rz) L30 fun x33 L36 r35=>
 W.dgrd x32 false (fun k39=>dl [] 8 x33 L36 fun x42 r43=>
 k39 x42 L36 r43) L36 fun x38 L41 r40=>
 W.dgrd x32 false (fun k45=>k45 x8 L41 rz) L41 fun x44 L47 r46=>
 W.dgrd x32 false (fun k49=>W.calm [] ⟨10,(dw x38),[],[],false,[]⟩ (
 W.slice 4 x38 none (some x44) none L47 fun x52=>
 wn (dw x38) [] [] [] fun r53=>
 k49 x52 L47 r53)) L47 fun x48 L51 r50=>
 W.dgrd x32 false (fun k55=>W.faddr 0 x20 fun x58=>
 k55 x58 L51 rz) L51 fun x54 L57 r56=>
 W.dgrd x32 false (fun k60=>dl [rm 10 r50,rm 8 r40] 12 x54 L57 fun x63 r64=>
 k60 x63 L57 r64) L57 fun x59 L62 r61=>
 W.dgrd x32 false (fun k66=>wd [] 13 (.fn 44 []) [x48,x59] L62 fun x69 L71 q70=>
 wn [] q70 [] L62.names fun r72=>
 k66 x69 L71 r72) L62 fun x65 L68 r67=>
 W.dgrd x32 false (fun k74=>wb .geq 3 x65 (.int .i64 0) fun x77=>
 k74 x77 L68 rz) L68 fun x73 L76 r75=>
 W.pick x32 (.bool true) x73 fun x78=>
 wk x78 (
 (true=true)∧(
 bx 1 x20 [] 1 L76 fun x80 r81=>
 Q (.tup [(.int .i64 4),x80]) L76)) (
 wb .add 3 x8 (.int .i64 1) fun x82=>
 n5 [x7,x82] L76)
def sj(Q:R)(n5:Kn)(L6:SH)(x7 x8:AV):Prop:=
 bo 1 x7 L6 fun x14=>
 ug 4 x14 x8 L6 fun x16=>
 xH [(.str []),(.int .i64 0),.nils,.nils] 4 x16 L6 fun x20 L21=>
 (true=true)∧(
 bx 0 x7 [] 1 L21 fun x23 r24=>
 bx 0 x20 [rm 1 r24] 3 L21 fun x26 r27=>
 wd [] 4 (.fn 43 []) [x23,x26] L21 (sh Q n5 L21 x7 x8 x20))
def sk(Q:R)(n109:Kn)(x111 x122 x113 x114 x112 x125:AV)(L126:SH):Prop:=
 wb .geq 3 x125 (.int .i64 0) fun x127=>
 wg x127 false (W.faddr 1 x111) L126 fun x128 L130=>
 wg x127 false (wl x128 L130) L130 fun x132 L134=>
 cj x127 false x122 L134 fun x136 L138=>
 W.grd x127 false (fun k140=>wc (.fn 44 []) [x132,x136] L138 fun x142 L143=>
 k140 x142 L143) L138 fun x139 L141=>
 wg x127 false (wb .geq 3 x139 (.int .i64 0)) L141 fun x144 L146=>
 W.pick x127 (.bool true) x144 fun x148=>
 wg x148 false (W.faddr 2 x113) L146 fun x149 L151=>
 wg x148 false (wl x149 L151) L151 fun x153 L155=>
 cj x148 false x114 L155 fun x157 L159=>
 wg x148 false (W.slice 1 x153 none (some x157) none L159) L159 fun x160 L162=>
 cj x148 false x122 L162 fun x164 L166=>
 W.grd x148 false (fun k168=>wc (.fn 45 []) [x160,x164] L166 fun x170 L171=>
 k168 x170 L171) L166 fun x167 L169=>
 wg x148 false (wb .geq 3 x167 (.int .i64 0)) L169 fun x172 L174=>
 W.pick x148 (.bool true) x172 fun x176=>
 wk x176 (
 (true=true)∧(
 bx 1 x113 [] 1 L174 fun x178 r179=>
 Q (.tup [(.int .i64 4),x178]) L174)) (
 wb .add 3 x114 (.int .i64 1) fun x180=>
 n109 [x111,x112,x113,x180] L174)
def sm(Q:R)(n109:Kn)(L110:SH)(x113 x114 x111 x112:AV):Prop:=
 bo 2 x113 L110 fun x120=>
 Ba 1 x120 x114 L110 fun x122=>
 bo 0 x111 L110 fun x124=>
 wc (.fn 43 []) [x124,x122] L110 (sk Q n109 x111 x122 x113 x114 x112)
def iP(Q:R)(n84:Kn)(v108:Vs)(L110:SH)(n109:Kn):Prop:=
 EL 1 6 7 8 v108 fun x111 x112 x113 x114=>
 bo 2 x113 L110 fun x116=>
 W.len x116 fun x117=>
 wb .lss 3 x114 x117 fun x118=>
 wk x118 (
 (sm Q n109 L110 x113 x114 x111 x112)) (
 wb .add 3 x112 (.int .i64 1) fun x181=>
 n84 [x111,x181] L110)
def sn(Q:R)(n84:Kn)(L85:SH)(x86 x87:AV):Prop:=
 bo 1 x86 L85 fun x93=>
 ug 4 x93 x87 L85 fun x95=>
 xH [(.str []),(.int .i64 0),.nils,.nils] 4 x95 L85 fun x99 L100=>
 bo 2 x99 L100 fun x102=>
 W.len x102 fun x103=>
 wb .gtr 3 x103 (.int .i64 4) fun x104=>
 wk x104 (
 (true=true)∧(
 bx 1 x99 [] 1 L100 fun x106 r107=>
 Q (.tup [(.int .i64 2),x106]) L100)) (
 W.loop (iP Q n84) [x86,x87,x99,(.int .i64 0)] L100)
def iQ(Q:R)(v83:Vs)(L85:SH)(n84:Kn):Prop:=
 EK 1 6 v83 fun x86 x87=>
 bo 1 x86 L85 fun x89=>
 W.len x89 fun x90=>
 wb .lss 3 x87 x90 fun x91=>
 wk x91 (
 (sn Q n84 L85 x86 x87)) (
 Q (.tup [(.int .i64 0),(.int .i64 0)]) L85)
def iR(Q:R)(v4:Vs)(L6:SH)(n5:Kn):Prop:=
 EK 1 4 v4 fun x7 x8=>
 bo 1 x7 L6 fun x10=>
 W.len x10 fun x11=>
 wb .lss 3 x8 x11 fun x12=>
 wk x12 (
 (sj Q n5 L6 x7 x8)) (
 W.loop (iQ Q) [x7,(.int .i64 0)] L6)
def jK(t0:AV)(L:SH)(Q:R):Prop:=
 xb t0 L fun x2 L3=>
 W.loop (iR Q) [x2,(.int .i64 0)] L3
theorem sr(t0:AV)(L:SH)(Q:R)(h:jK t0 L Q):am Try.prog 30 [t0] L Q:=
 bC ⟨fun _=>none,fun k=>if k=2 then [1,4]else if k=14 then [1,6,7,8]else if k=8 then [1,6]else [],fun k=>if k=0 then [1]else if k=4 then [5]else if k=10 then [7]else [],fun k=>if k=5 then [0,1,0,4,15,31,63,127,255,127,1023,127,2175,8191,16383,32767]else if k=6 then [0,1,0,7]else if k=12 then [0,1,0,7]else if k=18 then [0,1,0,7]else []⟩ Try.func30 (by kernel_rfl) (by kernel_rfl) h
def ss(n26:Kn)(x29 x30 x28 x40:AV)(L41:SH):Prop:=
 wb .add 3 x29 x40 fun x42=>
 wb .add 3 x30 (.int .i64 1) fun x43=>
 n26 [x28,x42,x43] L41
def su(Q:R)(n50:Kn)(x54 x52 x53 x67:AV)(L68:SH):Prop:=
 W.ext 0 x67 fun x69=>
 W.ext 1 x67 fun x70=>
 wb .neq 47 x69 (.int .i64 0) fun x71=>
 wk x71 (
 Q (.tup [x69,x70]) L68) (
 wb .add 3 x54 (.int .i64 1) fun x72=>
 n50 [x52,x53,x72] L68)
def sv(Q:R)(n50:Kn)(L51:SH)(x53 x54 x52:AV):Prop:=
 W.nilchk x53 fun x59=>
 W.faddr 2 x59 fun x60=>
 W.store 1 x60 x54 L51 fun L61=>
 bo 1 x52 L61 fun x63=>
 gQ 4 3 x63 x54 L61 fun x66=>
 wc (.fn 32 []) [x53,x66] L61 (su Q n50 x54 x52 x53)
def iS(Q:R)(v49:Vs)(L51:SH)(n50:Kn):Prop:=
 wu 1 10 11 v49 fun x52 x53 x54=>
 bo 1 x52 L51 fun x56=>
 W.len x56 fun x57=>
 wb .lss 3 x54 x57 fun x58=>
 wk x58 (
 (sv Q n50 L51 x53 x54 x52)) (
 Q (.tup [(.int .i64 0),(.int .i64 0)]) L51)
def sw(Q:R)(L27:SH)(x28:AV):Prop:=
 dy 2 x28 L27 fun x45=>
 W.build [.nils,.nils,(.int .i64 0),.nils,.nils,.nils] [(0,2,x45)] fun x46=>
 W.box x46 L27 fun x47 L48=>
 W.loop (iS Q) [x28,x47,(.int .i64 0)] L48
def iT(Q:R)(v25:Vs)(L27:SH)(n26:Kn):Prop:=
 wu 1 8 9 v25 fun x28 x29 x30=>
 bo 1 x28 L27 fun x32=>
 W.len x32 fun x33=>
 wb .lss 3 x30 x33 fun x34=>
 wk x34 (
 bo 1 x28 L27 fun x36=>
 gQ 4 3 x36 x30 L27 fun x39=>
 wc (.fn 31 []) [x39] L27 (ss n26 x29 x30 x28)) (
 wb .gtr 3 x29 (.int .i64 60) fun x44=>
 wk x44 (
 Q (.tup [(.int .i64 2),(.int .i64 0)]) L27) (
 (sw Q L27 x28)))
def sx(Q:R)(x2 x20:AV)(L21:SH):Prop:=
 W.ext 0 x20 fun x22=>
 W.ext 1 x20 fun x23=>
 wb .neq 47 x22 (.int .i64 0) fun x24=>
 wk x24 (
 Q (.tup [x22,x23]) L21) (
 W.loop (iT Q) [x2,(.int .i64 0),(.int .i64 0)] L21)
def sy(Q:R)(L11:SH)(x2:AV):Prop:=
 bo 1 x2 L11 fun x16=>
 W.len x16 fun x17=>
 wb .gtr 3 x17 (.int .i64 4) fun x18=>
 wk x18 (
 Q (.tup [(.int .i64 2),(.int .i64 0)]) L11) (
 dy 2 x2 L11 fun x19=>
 wc (.fn 30 []) [x19] L11 (sx Q x2))
def sB(Q:R)(x2 x10:AV)(L11:SH):Prop:=
 W.ext 0 x10 fun x12=>
 W.ext 1 x10 fun x13=>
 wb .neq 47 x12 (.int .i64 0) fun x14=>
 wk x14 (
 Q (.tup [x12,x13]) L11) (
 (sy Q L11 x2))
def sC(Q:R)(x2 x5:AV)(L6:SH):Prop:=
 W.un .not x5 fun x7=>
 wk x7 (
 Q (.tup [(.int .i64 3),(.int .i64 0)]) L6) (
 bo 0 x2 L6 fun x9=>
 wc (.fn 29 []) [x9] L6 (sB Q x2))
def jL(t0:AV)(L:SH)(Q:R):Prop:=
 xb t0 L fun x2 L3=>
 dy 2 x2 L3 fun x4=>
 wc (.fn 28 []) [x4] L3 (sC Q x2)
theorem sD(t0:AV)(L:SH)(Q:R)(h:jL t0 L Q):am Try.prog 12 [t0] L Q:=
 bC ⟨fun _=>none,fun k=>if k=13 then [1,8,9]else if k=20 then [1,10,11]else [],fun k=>if k=0 then [1]else [],fun _=>[]⟩ Try.func12 (by kernel_rfl) (by kernel_rfl) h
def kH(Q:R)(n1:Kn)(L2:SH)(x3 x7 x4 x5 x6:AV):Prop:=
 c8 3 x3 L2 fun x15=>
 ug 11 x15 x7 L2 fun x17=>
 xH [(.int .i64 0),(.int .i64 0),(.str []),(.str []),.nils,(.int .i64 0),(.int .i64 0),(.str []),.nils,.nils,.nils] 11 x17 L2 fun x21 L22=>
 bo 0 x21 L22 fun x24=>
 wb .eql 3 x24 x4 fun x25=>
 wg x25 false (W.faddr 0 x21) L22 fun x26 L28=>
 wg x25 false (wl x26 L28) L28 fun x30 L32=>
 cj x25 false x5 L32 fun x34 L36=>
 wg x25 false (wb .eql 3 x30 x34) L36 fun x37 L39=>
 W.pick x25 (.bool true) x37 fun x41=>
 cj x41 true x6 L39 fun x42 L44=>
 wg x41 true (wb .eql 9 x42 (.str [])) L44 fun x45 L47=>
 cj x41 true x45 L47 fun x49 L51=>
 wg x49 false (W.faddr 2 x21) L51 fun x52 L54=>
 wg x49 false (wl x52 L54) L54 fun x56 L58=>
 cj x49 false x6 L58 fun x60 L62=>
 wg x49 false (wb .eql 9 x56 x60) L62 fun x63 L65=>
 wg x41 true (W.pick x49 (.bool true) x63) L65 fun x67 L69=>
 W.pick x41 x67 (.bool false) fun x71=>
 wk x71 (
 Q (.bool true) L69) (
 wb .add 3 x7 (.int .i64 1) fun x72=>
 n1 [x3,x4,x5,x6,x72] L69)
def du(Q:R)(v0:Vs)(L2:SH)(n1:Kn):Prop:=
 Ah 0 1 2 3 9 v0 fun x3 x4 x5 x6 x7=>
 c8 3 x3 L2 fun x10=>
 W.len x10 fun x11=>
 wb .lss 3 x7 x11 fun x12=>
 wk x12 (
 (kH Q n1 L2 x3 x7 x4 x5 x6)) (
 Q (.bool false) L2)
def fL(t0 t1 t2 t3:AV)(L:SH)(Q:R):Prop:=
 W.loop (du Q) [t0,t1,t2,t3,(.int .i64 0)] L
theorem kI(t0 t1 t2 t3:AV)(L:SH)(Q:R)(h:fL t0 t1 t2 t3 L Q):am Try.prog 63 [t0,t1,t2,t3] L Q:=
 bC ⟨fun _=>none,fun k=>if k=2 then [0,1,2,3,9]else [],fun k=>if k=4 then [10]else [],fun _=>[]⟩ Try.func63 (by kernel_rfl) (by kernel_rfl) h
def qA(Q:R)(L57:SH)(x59:AV)(L61:SH)(q60:Ns):Prop:=
 wn [] q60 [] L57.names fun r62=>
 Q x59 L61
def qB(Q:R)(L53:SH)(x38 x55:AV)(L57:SH)(q56:Ns):Prop:=
 wn [] q56 [] L53.names fun r58=>
 wd [] 13 (.fn 64 []) [x38,x55] L57 (qA Q L57)
def qC(Q:R)(L49:SH)(x47 x38 x51:AV)(L53:SH)(q52:Ns):Prop:=
 wn [] q52 [] L49.names fun r54=>
 wd [] 12 (.fn 64 []) [x47,x51] L53 (qB Q L53 x38)
def qD(Q:R)(L40:SH)(x32 x38 x47:AV)(L49:SH)(q48:Ns):Prop:=
 wn [] q48 [] L40.names fun r50=>
 wd [] 11 (.fn 67 []) [x32] L49 (qC Q L49 x47 x38)
def qE(Q:R)(L27:SH)(x30 x28 x31 x32:AV)(r37 r34:Fp)(x38:AV)(L40:SH)(q39:Ns):Prop:=
 wn [] q39 [] L27.names fun r41=>
 dr [rc 4 r41,rm 3 r37,rm 0 r34] 5 2 x30 L40 fun x42 r43=>
 bx 3 x28 [rm 5 r43,rc 4 r41,rm 3 r37,rm 0 r34] 8 L40 fun x45 r46=>
 wd [] 9 (.fn 65 []) [x42,x31,x45,(.int .i64 6),(.int .i64 6)] L40 (qD Q L40 x32 x38)
def qF(Q:R)(v25:Vs)(L27:SH):Prop:=
 Ah 3 4 5 6 7 v25 fun x28 x29 x30 x31 x32=>
 (true=true)∧(
 dr [] 0 2 x30 L27 fun x33 r34=>
 bx 2 x28 [rm 0 r34] 3 L27 fun x36 r37=>
 wd [] 4 (.fn 65 []) [x33,x31,x36,(.int .i64 8),(.int .i64 8)] L27 (qE Q L27 x30 x28 x31 x32 r37 r34))
def qG(Q:R)(L86:SH)(x88:AV)(L90:SH)(q89:Ns):Prop:=
 wn [] q89 [] L86.names fun r91=>
 Q x88 L90
def qH(Q:R)(L77:SH)(x75 x84:AV)(L86:SH)(q85:Ns):Prop:=
 wn [] q85 [] L77.names fun r87=>
 wd [] 10 (.fn 64 []) [x75,x84] L86 (qG Q L86)
def qI(Q:R)(L24:SH)(x17 x2 x10:AV)(r74 r71:Fp)(x75:AV)(L77:SH)(q76:Ns):Prop:=
 wn [] q76 [] L24.names fun r78=>
 dr [rc 4 r78,rm 3 r74,rm 0 r71] 5 2 x17 L77 fun x79 r80=>
 W.faddr 5 x2 fun x81=>
 dr [rm 5 r80,rc 4 r78,rm 3 r74,rm 0 r71] 8 4 x81 L77 fun x82 r83=>
 wd [] 9 (.fn 66 []) [x79,x10,x82] L77 (qH Q L77 x75)
def qJ(Q:R)(L24:SH)(x17 x2 x10:AV):Prop:=
 (true=true)∧(
 dr [] 0 2 x17 L24 fun x70 r71=>
 bx 2 x2 [rm 0 r71] 3 L24 fun x73 r74=>
 wd [] 4 (.fn 65 []) [x70,x10,x73,(.int .i64 8),(.int .i64 1)] L24 (qI Q L24 x17 x2 x10 r74 r71))
def qK(Q:R)(L125:SH)(x127:AV)(L129:SH)(q128:Ns):Prop:=
 wn [] q128 [] L125.names fun r130=>
 Q x127 L129
def m3(Q:R)(L121:SH)(x97 x123:AV)(L125:SH)(q124:Ns):Prop:=
 wn [] q124 [] L121.names fun r126=>
 wd [] 18 (.fn 64 []) [x97,x123] L125 (qK Q L125)
def m4(Q:R)(L112:SH)(x110 x97 x119:AV)(L121:SH)(q120:Ns):Prop:=
 wn [] q120 [] L112.names fun r122=>
 wd [] 17 (.fn 64 []) [x110,x119] L121 (m3 Q L121 x97)
def m5(Q:R)(L99:SH)(x17 x2 x10 x97:AV)(r109 r107 r105 r102 r100 r96 r93:Fp)(x110:AV)(L112:SH)(q111:Ns):Prop:=
 wn [] q111 [] L99.names fun r113=>
 dr [rc 11 r113,rm 10 r109,rm 9 r107,rm 8 r105,rm 5 r102,rc 4 r100,rm 3 r96,rm 0 r93] 12 2 x17 L112 fun x114 r115=>
 W.faddr 5 x2 fun x116=>
 dr [rm 12 r115,rc 11 r113,rm 10 r109,rm 9 r107,rm 8 r105,rm 5 r102,rc 4 r100,rm 3 r96,rm 0 r93] 15 4 x116 L112 fun x117 r118=>
 wd [] 16 (.fn 66 []) [x114,x10,x117] L112 (m4 Q L112 x110 x97)
def m6(Q:R)(L24:SH)(x17 x2 x10:AV)(r96 r93:Fp)(x97:AV)(L99:SH)(q98:Ns):Prop:=
 wn [] q98 [] L24.names fun r100=>
 dr [rc 4 r100,rm 3 r96,rm 0 r93] 5 2 x17 L99 fun x101 r102=>
 bx 4 x2 [rm 5 r102,rc 4 r100,rm 3 r96,rm 0 r93] 8 L99 fun x104 r105=>
 di [rm 5 r102,rc 4 r100,rm 3 r96,rm 0 r93] 9 4 x104 (.int .i64 0) L99 fun x106 r107=>
 dr [rm 5 r102,rc 4 r100,rm 3 r96,rm 0 r93] 10 4 x106 L99 fun x108 r109=>
 wd [] 11 (.fn 66 []) [x101,x10,x108] L99 (m5 Q L99 x17 x2 x10 x97 r109 r107 r105 r102 r100 r96 r93)
def qL(Q:R)(L24:SH)(x17 x2 x10:AV):Prop:=
 (true=true)∧(
 dr [] 0 2 x17 L24 fun x92 r93=>
 bx 2 x2 [rm 0 r93] 3 L24 fun x95 r96=>
 wd [] 4 (.fn 65 []) [x92,x10,x95,(.int .i64 2),(.int .i64 2)] L24 (m6 Q L24 x17 x2 x10 r96 r93))
def qM(Q:R)(L24:SH)(x2 x17 x10:AV):Prop:=
 bo 4 x2 L24 fun x67=>
 W.len x67 fun x68=>
 wb .eql 3 x68 (.int .i64 0) fun x69=>
 wk x69 (
 (qJ Q L24 x17 x2 x10)) (
 (qL Q L24 x17 x2 x10))
def m7(Q:R)(x152 x171:AV)(L172:SH):Prop:=
 wc (.fn 64 []) [x152,x171] L172 fun x173 L174=>
 Q x173 L174
def m8(Q:R)(x138 x134 x135 x152:AV)(L153:SH):Prop:=
 cj x138 false x134 L153 fun x154 L156=>
 wg x138 false (W.faddr 2 x135) L156 fun x157 L159=>
 wg x138 false (wl x157 L159) L159 fun x161 L163=>
 W.grd x138 false (fun k166=>wc (.fn 63 []) [x154,(.int .i64 4),(.int .i64 4),x161] L163 fun x168 L169=>
 k166 x168 L169) L163 fun x165 L167=>
 W.pick x138 (.bool true) x165 fun x170=>
 wc (.fn 67 []) [x170] L167 (m7 Q x152)
def qN(Q:R)(L133:SH)(x136 x135 x137 x138 x134:AV):Prop:=
 dy 2 x136 L133 fun x149=>
 bo 2 x135 L133 fun x151=>
 wc (.fn 65 []) [x149,x137,x151,(.int .i64 3),(.int .i64 3)] L133 (m8 Q x138 x134 x135)
def m9(Q:R)(x190 x209:AV)(L210:SH):Prop:=
 wc (.fn 64 []) [x190,x209] L210 fun x211 L212=>
 Q x211 L212
def na(Q:R)(x182 x178 x179 x190:AV)(L191:SH):Prop:=
 cj x182 false x178 L191 fun x192 L194=>
 wg x182 false (W.faddr 2 x179) L194 fun x195 L197=>
 wg x182 false (wl x195 L197) L197 fun x199 L201=>
 W.grd x182 false (fun k204=>wc (.fn 63 []) [x192,(.int .i64 5),(.int .i64 6),x199] L201 fun x206 L207=>
 k204 x206 L207) L201 fun x203 L205=>
 W.pick x182 (.bool true) x203 fun x208=>
 wc (.fn 67 []) [x208] L205 (m9 Q x190)
def qO(Q:R)(L177:SH)(x180 x179 x181 x182 x178:AV):Prop:=
 dy 2 x180 L177 fun x187=>
 bo 2 x179 L177 fun x189=>
 wc (.fn 65 []) [x187,x181,x189,(.int .i64 4),(.int .i64 4)] L177 (na Q x182 x178 x179)
def ng(Q:R)(L252:SH)(x230 x227 x231 x259:AV)(L261:SH)(q260:Ns):Prop:=
 wn [] q260 [] L252.names fun r262=>
 cj x230 false x259 L261 fun x263 L265=>
 wg x230 false (W.un .not x263) L265 fun x266 L268=>
 W.pick x230 (.bool true) x266 fun x270=>
 wg x270 false (W.faddr 0 x227) L268 fun x271 L273=>
 wg x270 false (wl x271 L273) L273 fun x275 L277=>
 wg x270 false (wb .eql 3 x275 (.int .i64 9)) L277 fun x279 L281=>
 cj x270 false x279 L281 fun x283 L285=>
 cj x283 true x231 L285 fun x286 L288=>
 wg x270 false (W.pick x283 x286 (.bool false)) L288 fun x289 L291=>
 W.pick x270 (.bool true) x289 fun x293=>
 wc (.fn 67 []) [x293] L291 fun x294 L295=>
 Q x294 L295
def np(Q:R)(L239:SH)(x242 x226 x230 x227 x231 x250:AV)(L252:SH)(q251:Ns):Prop:=
 wn [] q251 [] L239.names fun r253=>
 di [] 8 6 x242 x250 L252 fun x254 r255=>
 bx 5 x254 [] 10 L252 fun x257 r258=>
 wd [] 11 (.fn 63 []) [x226,(.int .i64 4),(.int .i64 4),x257] L252 (ng Q L252 x230 x227 x231)
def qP(Q:R)(L239:SH)(x228 x227 x226 x230 x231:AV):Prop:=
 (true=true)∧(
 bx 0 x228 [] 2 L239 fun x242 r243=>
 bx 0 x228 [rm 2 r243] 4 L239 fun x245 r246=>
 bx 2 x227 [rm 4 r246,rm 2 r243] 6 L239 fun x248 r249=>
 wd [rm 2 r243] 7 (.fn 43 []) [x245,x248] L239 (np Q L239 x242 x226 x230 x227 x231))
def nq(Q:R)(x228 x227 x226 x230 x231 x238:AV)(L239:SH):Prop:=
 wb .neq 47 x238 (.int .i64 0) fun x240=>
 wk x240 (
 Q x238 L239) (
 (qP Q L239 x228 x227 x226 x230 x231))
def qQ(Q:R)(L225:SH)(x228 x227 x229 x226 x230 x231:AV):Prop:=
 dy 2 x228 L225 fun x235=>
 bo 2 x227 L225 fun x237=>
 wc (.fn 65 []) [x235,x229,x237,(.int .i64 5),(.int .i64 5)] L225 (nq Q x228 x227 x226 x230 x231)
def qR(Q:R)(L345:SH)(x226 x227:AV):Prop:=
 (true=true)∧(
 W.nilchk x226 fun x348=>
 bx 4 x348 [] 4 L345 fun x350 r351=>
 bx 2 x227 [rm 4 r351] 6 L345 fun x353 r354=>
 W.calm [rm 4 r351] ⟨7,[],[],[],false,[]⟩ (
 W.bslice 1 [(.str [])] 1 [(0,x353)] L345 fun x355 L356=>
 wn [] [] (af x355) [] fun r357=>
 W.calm [] ⟨8,(af x350++af x355),(af x350),[],false,[]⟩ (
 W.append 1 16 x350 x355 L356 fun x358 L359=>
 wn (af x350++af x355) (af x350) (af x358) [] fun r360=>
 W.nilchk x226 fun x361=>
 W.faddr 4 x361 fun x362=>
 ds [] 11 1 x362 x358 L359 fun L363 r364=>
 Q (.int .i64 0) L363)))
def nr(Q:R)(L333:SH)(x226 x227 x343:AV)(L345:SH)(q344:Ns):Prop:=
 wn [] q344 [] L333.names fun r346=>
 wb .geq 3 x343 (.int .i64 0) fun x347=>
 wk x347 (
 Q (.int .i64 8) L345) (
 (qR Q L345 x226 x227))
def qS(Q:R)(L333:SH)(x226 x227:AV):Prop:=
 (true=true)∧(
 W.nilchk x226 fun x336=>
 bx 4 x336 [] 3 L333 fun x338 r339=>
 bx 2 x227 [rm 3 r339] 5 L333 fun x341 r342=>
 wd [] 6 (.fn 45 []) [x338,x341] L333 (nr Q L333 x226 x227))
def nu(Q:R)(x230 x231 x232 x229 x226 x227 x307:AV)(L308:SH):Prop:=
 cj x230 false x231 L308 fun x309 L311=>
 W.pick x230 (.bool true) x309 fun x312=>
 cj x312 false x232 L311 fun x313 L315=>
 W.pick x312 (.bool true) x313 fun x316=>
 cj x316 false x307 L315 fun x317 L319=>
 cj x316 false x229 L319 fun x320 L322=>
 wg x316 false (wb .eql 3 x317 x320) L322 fun x323 L325=>
 W.pick x316 (.bool true) x323 fun x327=>
 cj x327 false x307 L325 fun x328 L330=>
 wg x327 false (wb .eql 3 x328 (.int .i64 0)) L330 fun x331 L333=>
 W.pick x327 (.bool true) x331 fun x335=>
 wk x335 (
 Q (.int .i64 7) L333) (
 (qS Q L333 x226 x227))
def nv(Q:R)(x228 x227 x230 x231 x232 x229 x226 x300:AV)(L301:SH):Prop:=
 wb .neq 47 x300 (.int .i64 0) fun x302=>
 wk x302 (
 Q x300 L301) (
 bo 1 x228 L301 fun x304=>
 bo 2 x227 L301 fun x306=>
 wc (.fn 44 []) [x304,x306] L301 (nu Q x230 x231 x232 x229 x226 x227))
def qT(Q:R)(L225:SH)(x228 x227 x229 x230 x231 x232 x226:AV):Prop:=
 dy 2 x228 L225 fun x297=>
 bo 2 x227 L225 fun x299=>
 wc (.fn 65 []) [x297,x229,x299,(.int .i64 7),(.int .i64 7)] L225 (nv Q x228 x227 x230 x231 x232 x229 x226)
def nw(Q:R)(x369 x404:AV)(L405:SH):Prop:=
 wc (.fn 64 []) [x369,x404] L405 fun x406 L407=>
 Q x406 L407
def nz(Q:R)(x230 x231 x228 x227 x229 x369:AV)(L370:SH):Prop:=
 cj x230 false x231 L370 fun x371 L373=>
 W.pick x230 (.bool true) x371 fun x374=>
 wg x374 false (W.faddr 1 x228) L373 fun x375 L377=>
 wg x374 false (wl x375 L377) L377 fun x379 L381=>
 wg x374 false (W.faddr 2 x227) L381 fun x383 L385=>
 wg x374 false (wl x383 L385) L385 fun x387 L389=>
 W.grd x374 false (fun k392=>wc (.fn 44 []) [x379,x387] L389 fun x394 L395=>
 k392 x394 L395) L389 fun x391 L393=>
 cj x374 false x229 L393 fun x396 L398=>
 wg x374 false (wb .eql 3 x391 x396) L398 fun x399 L401=>
 W.pick x374 (.bool true) x399 fun x403=>
 wc (.fn 67 []) [x403] L401 (nw Q x369)
def nA(Q:R)(L225:SH)(x228 x227 x229 x230 x231:AV):Prop:=
 dy 2 x228 L225 fun x366=>
 bo 2 x227 L225 fun x368=>
 wc (.fn 65 []) [x366,x229,x368,(.int .i64 7),(.int .i64 7)] L225 (nz Q x230 x231 x228 x227 x229)
def nB(Q:R)(v447:Vs)(L449:SH):Prop:=
 Ah 3 4 5 6 7 v447 fun x450 x451 x452 x453 x454=>
 Q x451 L449
def nC(j448:Kn)(v422:Vs)(x426 x427 x428 x460:AV)(L461:SH):Prop:=
 j448 [x426,x460,x427,x428,(ay [0,3,5,6,14] v422 7)] L461
def nD(j448:Kn)(v422:Vs)(x429 x426 x427 x428 x458:AV)(L459:SH):Prop:=
 wc (.fn 64 []) [x429,x458] L459 (nC j448 v422 x426 x427 x428)
def nE(Q:R)(v422:Vs)(L424:SH):Prop:=
 Ah 0 3 5 6 14 v422 fun x425 x426 x427 x428 x429=>
 (true=true)∧(
 W.nilchk x425 fun x430=>
 bx 5 x430 [] 4 L424 fun x432 r433=>
 bx 2 x426 [rm 4 r433] 6 L424 fun x435 r436=>
 W.calm [rm 4 r433] ⟨7,[],[],[],false,[]⟩ (
 W.bslice 1 [(.str [])] 1 [(0,x435)] L424 fun x437 L438=>
 wn [] [] (af x437) [] fun r439=>
 W.calm [] ⟨8,(af x432++af x437),(af x432),[],false,[]⟩ (
 W.append 1 16 x432 x437 L438 fun x440 L441=>
 wn (af x432++af x437) (af x432) (af x440) [] fun r442=>
 W.nilchk x425 fun x443=>
 W.faddr 5 x443 fun x444=>
 ds [] 11 1 x444 x440 L441 fun L445 r446=>
 W.join (nB Q) fun j448=>
 dy 2 x427 L445 fun x455=>
 W.faddr 5 x426 fun x456=>
 dy 4 x456 L445 fun x457=>
 wc (.fn 66 []) [x455,x428,x457] L445 (nD j448 v422 x429 x426 x427 x428))))
def nF(Q:R)(x226 x227 x228 x229 x420:AV)(L421:SH):Prop:=
 W.join (nE Q) fun j423=>
 (true=true)∧(
 wb .eql 47 x420 (.int .i64 0) fun x462=>
 W.dgrd x462 true (fun k464=>k464 x226 L421 rz) L421 fun x463 L466 r465=>
 W.dgrd x462 true (fun k468=>W.nilchk x463 fun x471=>
 k468 x471 L466 rz) L466 fun x467 L470 r469=>
 W.dgrd x462 true (fun k473=>W.faddr 5 x467 fun x476=>
 k473 x476 L470 rz) L470 fun x472 L475 r474=>
 W.dgrd x462 true (fun k478=>dl [] 6 x472 L475 fun x481 r482=>
 k478 x481 L475 r482) L475 fun x477 L480 r479=>
 W.dgrd x462 true (fun k484=>W.faddr 2 x227 fun x487=>
 k484 x487 L480 rz) L480 fun x483 L486 r485=>
 W.dgrd x462 true (fun k489=>dl [rm 6 r479] 8 x483 L486 fun x492 r493=>
 k489 x492 L486 r493) L486 fun x488 L491 r490=>
 W.dgrd x462 true (fun k495=>wd [] 9 (.fn 45 []) [x477,x488] L491 fun x498 L500 q499=>
 wn [] q499 [] L491.names fun r501=>
 k495 x498 L500 r501) L491 fun x494 L497 r496=>
 W.dgrd x462 true (fun k503=>wb .geq 3 x494 (.int .i64 0) fun x506=>
 k503 x506 L497 rz) L497 fun x502 L505 r504=>
 W.pick x462 x502 (.bool false) fun x507=>
 wk x507 (
 j423 [x226,x227,x228,x229,(.int .i64 8)] L505) (
 j423 [x226,x227,x228,x229,x420] L505))
def nG(Q:R)(x412 x226 x227 x228 x229 x418:AV)(L419:SH):Prop:=
 wc (.fn 64 []) [x412,x418] L419 (nF Q x226 x227 x228 x229)
def nH(Q:R)(x230 x232 x226 x227 x228 x229 x412:AV)(L413:SH):Prop:=
 cj x230 false x232 L413 fun x414 L416=>
 W.pick x230 (.bool true) x414 fun x417=>
 wc (.fn 67 []) [x417] L416 (nG Q x412 x226 x227 x228 x229)
def nI(Q:R)(L225:SH)(x228 x227 x229 x230 x232 x226:AV):Prop:=
 dy 2 x228 L225 fun x409=>
 bo 2 x227 L225 fun x411=>
 wc (.fn 65 []) [x409,x229,x411,(.int .i64 6),(.int .i64 6)] L225 (nH Q x230 x232 x226 x227 x228 x229)
def nJ(Q:R)(j26:Kn)(v223:Vs)(L225:SH)(x233 x228 x227 x229 x230 x232 x226:AV):Prop:=
 wb .eql 3 x233 (.int .i64 14) fun x408=>
 wk x408 (
 (nI Q L225 x228 x227 x229 x230 x232 x226)) (
 j26 [x227,(ay [0,3,5,6,7,8,9,30,119] v223 4),x228,x229,x230] L225)
def nK(Q:R)(j26:Kn)(v223:Vs)(L225:SH)(x233 x228 x227 x229 x230 x231 x232 x226:AV):Prop:=
 wb .eql 3 x233 (.int .i64 13) fun x365=>
 wk x365 (
 (nA Q L225 x228 x227 x229 x230 x231)) (
 (nJ Q j26 v223 L225 x233 x228 x227 x229 x230 x232 x226))
def nL(Q:R)(j26:Kn)(v223:Vs)(L225:SH)(x233 x228 x227 x229 x230 x231 x232 x226:AV):Prop:=
 wb .eql 3 x233 (.int .i64 12) fun x296=>
 wk x296 (
 (qT Q L225 x228 x227 x229 x230 x231 x232 x226)) (
 (nK Q j26 v223 L225 x233 x228 x227 x229 x230 x231 x232 x226))
def nM(Q:R)(j26:Kn)(v223:Vs)(L225:SH):Prop:=
 GF 0 3 5 6 7 8 9 30 119 v223 fun x226 x227 x228 x229 x230 x231 x232 x233 x234=>
 wk x234 (
 (qQ Q L225 x228 x227 x229 x226 x230 x231)) (
 (nL Q j26 v223 L225 x233 x228 x227 x229 x230 x231 x232 x226))
def nN(j224:Kn)(L177:SH)(x185 x178 x179 x180 x181 x182 x183 x184:AV):Prop:=
 wb .eql 3 x185 (.int .i64 10) fun x509=>
 wk x509 (
 j224 [x178,x179,x180,x181,x182,x183,x184,x185,x509] L177) (
 wb .eql 3 x185 (.int .i64 11) fun x510=>
 j224 [x178,x179,x180,x181,x182,x183,x184,x185,x510] L177)
def nO(Q:R)(j26:Kn)(L177:SH)(x185 x178 x179 x180 x181 x182 x183 x184:AV):Prop:=
 W.join (nM Q j26) fun j224=>
 wb .eql 3 x185 (.int .i64 9) fun x508=>
 wk x508 (
 j224 [x178,x179,x180,x181,x182,x183,x184,x185,x508] L177) (
 (nN j224 L177 x185 x178 x179 x180 x181 x182 x183 x184))
def nP(Q:R)(j26:Kn)(L177:SH)(x185 x182 x183 x178 x179 x180 x181 x184:AV):Prop:=
 wb .eql 3 x185 (.int .i64 8) fun x216=>
 wk x216 (
 cj x182 false x183 L177 fun x217 L219=>
 W.pick x182 (.bool true) x217 fun x220=>
 wc (.fn 67 []) [x220] L219 fun x221 L222=>
 Q x221 L222) (
 (nO Q j26 L177 x185 x178 x179 x180 x181 x182 x183 x184))
def nQ(Q:R)(j26:Kn)(L177:SH)(x185 x182 x183 x178 x179 x180 x181 x184:AV):Prop:=
 wb .eql 3 x185 (.int .i64 7) fun x213=>
 wk x213 (
 wc (.fn 67 []) [x182] L177 fun x214 L215=>
 Q x214 L215) (
 (nP Q j26 L177 x185 x182 x183 x178 x179 x180 x181 x184))
def nR(Q:R)(j26:Kn)(v175:Vs)(L177:SH):Prop:=
 GF 0 3 5 6 7 8 9 30 91 v175 fun x178 x179 x180 x181 x182 x183 x184 x185 x186=>
 wk x186 (
 (qO Q L177 x180 x179 x181 x182 x178)) (
 (nQ Q j26 L177 x185 x182 x183 x178 x179 x180 x181 x184))
def nS(Q:R)(j26:Kn)(L133:SH)(x141 x134 x135 x136 x137 x138 x139 x140:AV):Prop:=
 W.join (nR Q j26) fun j176=>
 wb .eql 3 x141 (.int .i64 5) fun x511=>
 wk x511 (
 j176 [x134,x135,x136,x137,x138,x139,x140,x141,x511] L133) (
 wb .eql 3 x141 (.int .i64 6) fun x512=>
 j176 [x134,x135,x136,x137,x138,x139,x140,x141,x512] L133)
def nT(Q:R)(j26:Kn)(L133:SH)(x141 x136 x135 x137 x138 x134 x139 x140:AV):Prop:=
 wb .eql 3 x141 (.int .i64 4) fun x148=>
 wk x148 (
 (qN Q L133 x136 x135 x137 x138 x134)) (
 (nS Q j26 L133 x141 x134 x135 x136 x137 x138 x139 x140))
def nU(Q:R)(j26:Kn)(v131:Vs)(L133:SH):Prop:=
 GF 0 3 5 6 7 8 9 30 67 v131 fun x134 x135 x136 x137 x138 x139 x140 x141 x142=>
 wk x142 (
 dy 2 x136 L133 fun x143=>
 W.faddr 5 x135 fun x144=>
 dy 4 x144 L133 fun x145=>
 wc (.fn 66 []) [x143,x137,x145] L133 fun x146 L147=>
 Q x146 L147) (
 (nT Q j26 L133 x141 x136 x135 x137 x138 x134 x139 x140))
def nV(Q:R)(j26:Kn)(L24:SH)(t0 x64 x2 x17 x10 x19 x21 x23:AV):Prop:=
 W.join (nU Q j26) fun j132=>
 wb .eql 3 x64 (.int .i64 2) fun x513=>
 wk x513 (
 j132 [t0,x2,x17,x10,x19,x21,x23,x64,x513] L24) (
 wb .eql 3 x64 (.int .i64 3) fun x514=>
 j132 [t0,x2,x17,x10,x19,x21,x23,x64,x514] L24)
def nW(Q:R)(t0 x2 x17 x10 x19 x21 x23:AV)(L24:SH):Prop:=
 W.join (qF Q) fun j26=>
 bo 0 x2 L24 fun x64=>
 wb .eql 3 x64 (.int .i64 1) fun x65=>
 wk x65 (
 (qM Q L24 x2 x17 x10)) (
 (nV Q j26 L24 t0 x64 x2 x17 x10 x19 x21 x23))
def nX(Q:R)(t0 x2 x17 x10 x19 x21:AV)(L22:SH):Prop:=
 wc (.fn 63 []) [t0,(.int .i64 3),(.int .i64 3),(.str [])] L22 (nW Q t0 x2 x17 x10 x19 x21)
def nY(Q:R)(t0 x2 x17 x10 x19:AV)(L20:SH):Prop:=
 wc (.fn 63 []) [t0,(.int .i64 8),(.int .i64 8),(.str [])] L20 (nX Q t0 x2 x17 x10 x19)
def iU(t0 t1:AV)(L:SH)(Q:R):Prop:=
 xb t1 L fun x2 L3=>
 (true=true)∧(
 W.nilchk t0 fun x4=>
 W.faddr 0 x4 fun x5=>
 dr [] 3 2 x5 L3 fun x6 r7=>
 W.nilchk t0 fun x8=>
 bx 2 x8 [rm 3 r7] 7 L3 fun x10 r11=>
 W.calm [rm 7 r11,rm 3 r7] ⟨8,[],[],[],false,[]⟩ (
 W.alloc [.nils,.nils] L3 fun x12 L13=>
 wn [] [] (af x12) [] fun r14=>
 ds [rm 7 r11] 9 2 x12 x6 L13 fun L15 r16=>
 W.frz1 x12 L15 fun x17 L18=>
 wc (.fn 63 []) [t0,(.int .i64 7),(.int .i64 7),(.str [])] L18 (nY Q t0 x2 x17 x10)))
theorem qU(t0 t1:AV)(L:SH)(Q:R)(h:iU t0 t1 L Q):am Try.prog 46 [t0,t1] L Q:=
 bC ⟨fun k=>if k=48 then some [3,4,5,6,7]else if k=11 then some [0,3,5,6,7,8,9,30,67]else if k=16 then some [0,3,5,6,7,8,9,30,91]else if k=24 then some [0,3,5,6,7,8,9,30,119]else if k=46 then some [0,3,5,6,14]else none,fun _=>[],fun k=>if k=0 then [3]else if k=1 then [5]else [],fun k=>if k=1 then [0,1,3,7,0,16,48,112,0,271,1023]else if k=8 then [0,0,0,4,15,0,0,0,128,511,1023,2047]else if k=9 then [0,0,0,4,15,0,0,0,128,384,896,2047,0,0,0,16384,65535,131071,262143,524287]else if k=28 then [0,0,2,0,8,0,32,120,254,510,1022,2047,4095]else if k=37 then [0,1,3,7,0,16,63,127]else if k=39 then [0,0,2,6,14,0,32,96,254,511,1023,2047]else if k=45 then [0,1,3,7,15,31,63,7,135,511,1023,2047]else if k=47 then [0,0,2,6,14,0,32,96,254,511,1023,2047]else if k=49 then [0,0,0,4,15,0,0,0,128,511,0,2047,4095,8191,16383]else []⟩ Try.func46 (by kernel_rfl) (by kernel_rfl) h
def eO(Q:R)(n1:Kn)(v57:Vs)(L59:SH):Prop:=
 Ah 0 1 6 8 9 v57 fun x60 x61 x62 x63 x64=>
 (true=true)∧(
 W.nilchk x60 fun x65=>
 bx 3 x65 [] 4 L59 fun x67 r68=>
 W.nilchk x60 fun x69=>
 bx 3 x69 [rm 4 r68] 8 L59 fun x71 r72=>
 W.len x71 fun x73=>
 wb .sub 3 x73 (.int .i64 1) fun x74=>
 W.calm [] ⟨11,(dw x67),[],[],false,[]⟩ (
 W.slice 11 x67 none (some x74) none L59 fun x75=>
 wn (dw x67) [] [] [] fun r76=>
 W.nilchk x60 fun x77=>
 W.faddr 3 x77 fun x78=>
 ds [] 14 1 x78 x75 L59 fun L79 r80=>
 wb .neq 47 x63 (.int .i64 0) fun x81=>
 wk x81 (
 Q (.tup [x63,x64]) L79) (
 wb .add 3 x62 (.int .i64 1) fun x82=>
 n1 [x60,x61,x82] L79)))
def hY(j58:Kn)(x21 x22 x23 x86:AV)(L87:SH):Prop:=
 W.ext 0 x86 fun x88=>
 W.ext 1 x86 fun x89=>
 j58 [x21,x22,x23,x88,x89] L87
def eP(Q:R)(n1:Kn)(x24 x21 x22 x23 x53:AV)(L54:SH):Prop:=
 W.ext 0 x53 fun x55=>
 W.ext 1 x53 fun x56=>
 W.join (eO Q n1) fun j58=>
 wb .eql 47 x55 (.int .i64 0) fun x83=>
 wk x83 (
 bo 10 x24 L54 fun x85=>
 wc (.fn 32 []) [x21,x85] L54 (hY j58 x21 x22 x23)) (
 j58 [x21,x22,x23,x55,x56] L54)
def qV(Q:R)(n1:Kn)(L20:SH)(x21 x24 x22 x23:AV):Prop:=
 (true=true)∧(
 W.nilchk x21 fun x30=>
 bx 3 x30 [] 3 L20 fun x32 r33=>
 dr [rm 3 r33] 4 11 x24 L20 fun x34 r35=>
 W.len x32 fun x36=>
 W.calm [rm 4 r35,rm 3 r33] ⟨6,[],[],[],false,[]⟩ (
 W.bslice 11 [(.int .i64 0),(.int .i64 0),(.str []),(.str []),.nils,(.int .i64 0),(.int .i64 0),(.str []),.nils,.nils,.nils] 1 [(0,(.agg [(.int .i64 0),(.int .i64 0),(.str []),(.str []),.nils,(.int .i64 0),(.int .i64 0),(.str []),.nils,.nils,.nils]))] L20 fun x37 L38=>
 wn [] [] (af x37) [] fun r39=>
 W.calm [] ⟨7,(af x32++af x37),(af x32),[],false,[]⟩ (
 W.append 11 176 x32 x37 L38 fun x40 L41=>
 wn (af x32++af x37) (af x32) (af x40) [] fun r42=>
 di [] 8 11 x40 x36 L41 fun x43 r44=>
 ds [] 9 11 x43 x34 L41 fun L45 r46=>
 W.nilchk x21 fun x47=>
 W.faddr 3 x47 fun x48=>
 ds [rm 9 r46,rm 8 r44] 12 1 x48 x40 L45 fun L49 r50=>
 bo 9 x24 L49 fun x52=>
 wc (.fn 32 []) [x21,x52] L49 (eP Q n1 x24 x21 x22 x23))))
def eQ(Q:R)(n1:Kn)(v18:Vs)(L20:SH):Prop:=
 Ah 0 1 6 7 8 v18 fun x21 x22 x23 x24 x25=>
 wb .neq 47 x25 (.int .i64 0) fun x26=>
 wk x26 (
 (true=true)∧(
 bx 1 x24 [] 2 L20 fun x28 r29=>
 Q (.tup [x25,x28]) L20)) (
 (qV Q n1 L20 x21 x24 x22 x23))
def qW(Q:R)(n1:Kn)(x3 x4 x5 x13 x16:AV)(L17:SH):Prop:=
 W.join (eQ Q n1) fun j19=>
 c8 3 x3 L17 fun x92=>
 W.len x92 fun x93=>
 wb .add 3 x93 (.int .i64 1) fun x94=>
 wb .gtr 3 x94 (.int .i64 6) fun x95=>
 wk x95 (
 j19 [x3,x4,x5,x13,(.int .i64 2)] L17) (
 j19 [x3,x4,x5,x13,x16] L17)
def qX(Q:R)(n1:Kn)(L2:SH)(x4 x5 x3:AV):Prop:=
 ug 11 x4 x5 L2 fun x9=>
 xH [(.int .i64 0),(.int .i64 0),(.str []),(.str []),.nils,(.int .i64 0),(.int .i64 0),(.str []),.nils,.nils,.nils] 11 x9 L2 fun x13 L14=>
 dy 11 x13 L14 fun x15=>
 wc (.fn 46 []) [x3,x15] L14 (qW Q n1 x3 x4 x5 x13)
def hZ(Q:R)(v0:Vs)(L2:SH)(n1:Kn):Prop:=
 wu 0 1 6 v0 fun x3 x4 x5=>
 W.len x4 fun x6=>
 wb .lss 3 x5 x6 fun x7=>
 wk x7 (
 (qX Q n1 L2 x4 x5 x3)) (
 Q (.tup [(.int .i64 0),(.int .i64 0)]) L2)
def iV(t0 t1:AV)(L:SH)(Q:R):Prop:=
 W.loop (hZ Q) [t0,t1,(.int .i64 0)] L
theorem qY(t0 t1:AV)(L:SH)(Q:R)(h:iV t0 t1 L Q):am Try.prog 32 [t0,t1] L Q:=
 bC ⟨fun k=>if k=7 then some [0,1,6,7,8]else if k=13 then some [0,1,6,8,9]else none,fun k=>if k=2 then [0,1,6]else [],fun k=>if k=4 then [7]else [],fun k=>if k=9 then [0,0,2,1,15]else if k=10 then [0,1,3,7,0,15,0,127,255,511,255,1279,3327]else if k=14 then [0,0,2,6,14,0,32,96,224,480,992,2046,4095,8191,16383]else []⟩ Try.func32 (by kernel_rfl) (by kernel_rfl) h
end Go.Proofs.Ytljkdffikfkcgaa.Am
end
