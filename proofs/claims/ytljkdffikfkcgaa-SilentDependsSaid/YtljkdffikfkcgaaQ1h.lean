/- A part of the proof; the statement is proved in the last part. -/
import Derived.Test.YtljkdffikfkcgaaQ1g
set_option linter.unusedSimpArgs false
set_option linter.unusedVariables false
section
namespace Go.Proofs.Ytljkdffikfkcgaa.Am
set_option linter.unusedVariables false
set_option maxRecDepth 100000
def jm(n46:Kn)(L69:SH)(x51 x48 x52 x49 x50:AV):Prop:=
 (true=true)∧(
 bx 1 x51 [] 1 L69 fun x79 r80=>
 di [rm 1 r80] 5 1 x48 x52 L69 fun x81 r82=>
 dl [rm 1 r80] 6 x81 L69 fun x83 r84=>
 di [] 7 1 x79 x52 L69 fun x85 r86=>
 ds [] 8 1 x85 x83 L69 fun L87 r88=>
 wb .add 3 x52 (.int .i64 1) fun x89=>
 n46 [x48,x49,x50,x51,x89] L87)
def jn(n46:Kn)(L69:SH)(x51 x52 x48 x49 x50:AV):Prop:=
 bo 2 x51 L69 fun x73=>
 Ba 1 x73 x52 L69 fun x75=>
 W.len x75 fun x76=>
 wb .gtr 3 x76 (.int .i64 0) fun x77=>
 wk x77 (
 (jm n46 L69 x51 x48 x52 x49 x50)) (
 wb .add 3 x52 (.int .i64 1) fun x90=>
 n46 [x48,x49,x50,x51,x90] L69)
def jo(Q:R)(n231:Kn)(L232:SH)(x233 x235 x234 x254:AV)(L256:SH)(q255:Ns):Prop:=
 wn [] q255 [] L232.names fun r257=>
 W.un .not x254 fun x258=>
 W.dgrd x258 false (fun k260=>W.faddr 2 x233 fun x263=>
 k260 x263 L256 rz) L256 fun x259 L262 r261=>
 W.dgrd x258 false (fun k265=>dl [] 14 x259 L262 fun x268 r269=>
 k265 x268 L262 r269) L262 fun x264 L267 r266=>
 W.dgrd x258 false (fun k271=>k271 x235 L267 rz) L267 fun x270 L273 r272=>
 W.dgrd x258 false (fun k275=>di [] 16 1 x264 x270 L273 fun x278 r279=>
 k275 x278 L273 r279) L273 fun x274 L277 r276=>
 W.dgrd x258 false (fun k281=>dl [] 17 x274 L277 fun x284 r285=>
 k281 x284 L277 r285) L277 fun x280 L283 r282=>
 W.dgrd x258 false (fun k287=>W.len x280 fun x290=>
 k287 x290 L283 rz) L283 fun x286 L289 r288=>
 W.dgrd x258 false (fun k292=>wb .eql 3 x286 (.int .i64 0) fun x295=>
 k292 x295 L289 rz) L289 fun x291 L294 r293=>
 W.dgrd x258 false (fun k297=>k297 x291 L294 rz) L294 fun x296 L299 r298=>
 W.dgrd x296 true (fun k301=>W.faddr 1 x233 fun x304=>
 k301 x304 L299 rz) L299 fun x300 L303 r302=>
 W.dgrd x296 true (fun k306=>dl [] 22 x300 L303 fun x309 r310=>
 k306 x309 L303 r310) L303 fun x305 L308 r307=>
 W.dgrd x296 true (fun k312=>k312 x235 L308 rz) L308 fun x311 L314 r313=>
 W.dgrd x296 true (fun k316=>di [] 24 1 x305 x311 L314 fun x319 r320=>
 k316 x319 L314 r320) L314 fun x315 L318 r317=>
 W.dgrd x296 true (fun k322=>dl [] 25 x315 L318 fun x325 r326=>
 k322 x325 L318 r326) L318 fun x321 L324 r323=>
 W.dgrd x296 true (fun k328=>W.faddr 1 x234 fun x331=>
 k328 x331 L324 rz) L324 fun x327 L330 r329=>
 W.dgrd x296 true (fun k333=>dl [rm 25 r323,rm 24 r317,rm 22 r307] 27 x327 L330 fun x336 r337=>
 k333 x336 L330 r337) L330 fun x332 L335 r334=>
 W.dgrd x296 true (fun k339=>k339 x235 L335 rz) L335 fun x338 L341 r340=>
 W.dgrd x296 true (fun k343=>di [rm 25 r323,rm 24 r317,rm 22 r307] 29 1 x332 x338 L341 fun x346 r347=>
 k343 x346 L341 r347) L341 fun x342 L345 r344=>
 W.dgrd x296 true (fun k349=>dl [rm 25 r323,rm 24 r317,rm 22 r307] 30 x342 L345 fun x352 r353=>
 k349 x352 L345 r353) L345 fun x348 L351 r350=>
 W.dgrd x296 true (fun k355=>wb .neq 2 x321 x348 fun x358=>
 k355 x358 L351 rz) L351 fun x354 L357 r356=>
 W.dgrd x258 false (fun k360=>W.pick x296 x354 (.bool false) fun x363=>
 k360 x363 L357 rz) L357 fun x359 L362 r361=>
 W.pick x258 (.bool true) x359 fun x364=>
 wk x364 (
 Q (.bool false) L362) (
 wb .add 3 x235 (.int .i64 1) fun x365=>
 n231 [x233,x234,x365] L362)
def jp(Q:R)(n231:Kn)(L232:SH)(x233 x235 x234:AV):Prop:=
 (true=true)∧(
 bx 2 x233 [] 1 L232 fun x241 r242=>
 di [] 3 1 x241 x235 L232 fun x243 r244=>
 dl [] 4 x243 L232 fun x245 r246=>
 bx 2 x234 [rm 4 r246,rm 3 r244,rm 1 r242] 6 L232 fun x248 r249=>
 di [rm 4 r246,rm 3 r244,rm 1 r242] 8 1 x248 x235 L232 fun x250 r251=>
 dl [rm 4 r246,rm 3 r244,rm 1 r242] 9 x250 L232 fun x252 r253=>
 wd [] 10 (.fn 7 []) [x245,x252] L232 (jo Q n231 L232 x233 x235 x234))
def cX(Q:R)(v230:Vs)(L232:SH)(n231:Kn):Prop:=
 wu 18 20 22 v230 fun x233 x234 x235=>
 bo 1 x233 L232 fun x237=>
 W.len x237 fun x238=>
 wb .lss 3 x235 x238 fun x239=>
 wk x239 (
 (jp Q n231 L232 x233 x235 x234)) (
 Q (.bool true) L232)
def jq(Q:R)(x96 x100 x104:AV)(L105:SH):Prop:=
 W.ext 0 x104 fun x106=>
 W.ext 1 x104 fun x107=>
 xH [(.int .i64 0),.nils,.nils,(.int .i64 0)] 4 x106 L105 fun x111 L112=>
 W.un .not x96 fun x113=>
 cj x113 false x107 L112 fun x114 L116=>
 wg x113 false (W.un .not x114) L116 fun x117 L119=>
 W.pick x113 (.bool true) x117 fun x121=>
 wg x121 false (W.faddr 0 x100) L119 fun x122 L124=>
 wg x121 false (wl x122 L124) L124 fun x126 L128=>
 wg x121 false (W.faddr 0 x111) L128 fun x130 L132=>
 wg x121 false (wl x130 L132) L132 fun x134 L136=>
 wg x121 false (wb .neq 3 x126 x134) L136 fun x138 L140=>
 W.pick x121 (.bool true) x138 fun x142=>
 wg x142 false (W.faddr 1 x100) L140 fun x143 L145=>
 wg x142 false (wl x143 L145) L145 fun x147 L149=>
 wg x142 false (W.len x147) L149 fun x151 L153=>
 wg x142 false (W.faddr 1 x111) L153 fun x155 L157=>
 wg x142 false (wl x155 L157) L157 fun x159 L161=>
 wg x142 false (W.len x159) L161 fun x163 L165=>
 wg x142 false (wb .neq 3 x151 x163) L165 fun x167 L169=>
 W.pick x142 (.bool true) x167 fun x171=>
 wg x171 false (W.faddr 2 x100) L169 fun x172 L174=>
 wg x171 false (wl x172 L174) L174 fun x176 L178=>
 wg x171 false (W.len x176) L178 fun x180 L182=>
 wg x171 false (W.faddr 1 x100) L182 fun x184 L186=>
 wg x171 false (wl x184 L186) L186 fun x188 L190=>
 wg x171 false (W.len x188) L190 fun x192 L194=>
 wg x171 false (wb .neq 3 x180 x192) L194 fun x196 L198=>
 W.pick x171 (.bool true) x196 fun x200=>
 wg x200 false (W.faddr 2 x111) L198 fun x201 L203=>
 wg x200 false (wl x201 L203) L203 fun x205 L207=>
 wg x200 false (W.len x205) L207 fun x209 L211=>
 wg x200 false (W.faddr 2 x100) L211 fun x213 L215=>
 wg x200 false (wl x213 L215) L215 fun x217 L219=>
 wg x200 false (W.len x217) L219 fun x221 L223=>
 wg x200 false (wb .neq 3 x209 x221) L223 fun x225 L227=>
 W.pick x200 (.bool true) x225 fun x229=>
 wk x229 (
 Q (.bool false) L227) (
 W.loop (cX Q) [x100,x111,(.int .i64 0)] L227)
def eM(Q:R)(x49 x51 x93:AV)(L94:SH):Prop:=
 W.ext 0 x93 fun x95=>
 W.ext 1 x93 fun x96=>
 xH [(.int .i64 0),.nils,.nils,(.int .i64 0)] 4 x95 L94 fun x100 L101=>
 dy 2 x49 L101 fun x102=>
 dy 4 x51 L101 fun x103=>
 wc (.fn 6 []) [x102,x103] L101 (jq Q x96 x100)
def cY(Q:R)(v45:Vs)(L47:SH)(n46:Kn):Prop:=
 Ah 4 14 15 16 17 v45 fun x48 x49 x50 x51 x52=>
 bo 1 x51 L47 fun x54=>
 W.len x54 fun x55=>
 wb .lss 3 x52 x55 fun x56=>
 cj x56 true x52 L47 fun x57 L59=>
 cj x56 true x48 L59 fun x60 L62=>
 wg x56 true (W.len x60) L62 fun x63 L65=>
 wg x56 true (wb .lss 3 x57 x63) L65 fun x67 L69=>
 W.pick x56 x67 (.bool false) fun x71=>
 wk x71 (
 (jn n46 L69 x51 x52 x48 x49 x50)) (
 dy 2 x49 L69 fun x91=>
 dy 4 x50 L69 fun x92=>
 wc (.fn 6 []) [x91,x92] L69 (eM Q x49 x51))
def jr(Q:R)(t4 x27 x35 x38:AV)(L39:SH):Prop:=
 xH [(.int .i64 0),.nils,.nils,(.int .i64 0)] 4 x38 L39 fun x43 L44=>
 W.loop (cY Q) [t4,x27,x35,x43,(.int .i64 0)] L44
def js(Q:R)(t2 t3 t5 t4 x27 x30:AV)(L31:SH):Prop:=
 xH [(.int .i64 0),.nils,.nils,(.int .i64 0)] 4 x30 L31 fun x35 L36=>
 dy 2 x27 L36 fun x37=>
 wc (.fn 5 []) [x37,t2,t3,t5] L36 (jr Q t4 x27 x35)
def jt(Q:R)(t1 t2 t3 t5 t4 x2:AV)(L3:SH):Prop:=
 xH [.nils,.nils,.nils,.nils,.nils,.nils,.nils] 7 x2 L3 fun x7 L8=>
 (true=true)∧(
 bx 6 x7 [] 1 L8 fun x10 r11=>
 W.conv .i64 t1 fun x12=>
 bx 6 x7 [rm 1 r11] 5 L8 fun x14 r15=>
 W.len x14 fun x16=>
 wb .rem 3 x12 x16 fun x17=>
 di [] 8 2 x10 x17 L8 fun x18 r19=>
 dr [] 9 2 x18 L8 fun x20 r21=>
 W.calm [rm 9 r21,rm 8 r19,rm 5 r15,rm 1 r11] ⟨10,[],[],[],false,[]⟩ (
 W.alloc [(.int .i64 0),.nils] L8 fun x22 L23=>
 wn [] [] (af x22) [] fun r24=>
 ds [] 11 2 x22 x20 L23 fun L25 r26=>
 W.frz1 x22 L25 fun x27 L28=>
 dy 2 x27 L28 fun x29=>
 wc (.fn 5 []) [x29,t2,t3,t5] L28 (js Q t2 t3 t5 t4 x27)))
def eW(t0 t1 t2 t3 t4 t5:AV)(L:SH)(Q:R):Prop:=
 W.len t0 fun x0=>
 wb .gtr 3 x0 (.int .i64 200) fun x1=>
 wk x1 (
 Q (.bool true) L) (
 wc (.fn 4 []) [t0] L (jt Q t1 t2 t3 t5 t4))
theorem ju(t0 t1 t2 t3 t4 t5:AV)(L:SH)(Q:R)(h:eW t0 t1 t2 t3 t4 t5 L Q):am Try.prog 3 [t0,t1,t2,t3,t4,t5] L Q:=
 bC ⟨fun _=>none,fun k=>if k=8 then [4,14,15,16,17]else if k=17 then [18,20,22]else [],fun k=>if k=3 then [13]else if k=4 then [14]else if k=5 then [15]else if k=6 then [16]else if k=12 then [18]else if k=13 then [20]else [],fun k=>if k=4 then [0,1,0,4,0,16,48,124,255,511,0,2047]else if k=11 then [0,1,0,0,0,24,56,127,255]else if k=19 then [0,1,0,7,15,0,32,0,224,480,1023,2047,4095,8191,16383,8191,65535,131071,262143,524287,1048575,2097151,4194303,2097151,16777215,33554431,2097151,69206015,2097151,471859199,1008730111,2147483647,4294967295,8589934591]else []⟩ Try.func3 (by kernel_rfl) (by kernel_rfl) h
end Go.Proofs.Ytljkdffikfkcgaa.Am
end
section
namespace Go.Proofs.Ytljkdffikfkcgaa.Am
set_option linter.unusedVariables false
set_option maxRecDepth 100000
def qq(Q:R)(n4:Kn)(L5:SH)(x6 x8 x7:AV):Prop:=
 (true=true)∧(
 di [] 2 1 x6 x8 L5 fun x11 r12=>
 dl [] 3 x11 L5 fun x13 r14=>
 di [rm 3 r14,rm 2 r12] 6 1 x7 x8 L5 fun x15 r16=>
 dl [rm 3 r14,rm 2 r12] 7 x15 L5 fun x17 r18=>
 wb .neq 3 x13 x17 fun x19=>
 wk x19 (
 Q (.bool false) L5) (
 wb .add 3 x8 (.int .i64 1) fun x20=>
 n4 [x6,x7,x20] L5))
def g9(Q:R)(v3:Vs)(L5:SH)(n4:Kn):Prop:=
 wu 0 1 5 v3 fun x6 x7 x8=>
 W.len x6 fun x9=>
 wb .lss 3 x8 x9 fun x10=>
 wk x10 (
 (qq Q n4 L5 x6 x8 x7)) (
 Q (.bool true) L5)
def iL(t0 t1:AV)(L:SH)(Q:R):Prop:=
 W.len t0 fun x0=>
 W.len t1 fun x1=>
 wb .neq 3 x0 x1 fun x2=>
 wk x2 (
 Q (.bool false) L) (
 W.loop (g9 Q) [t0,t1,(.int .i64 0)] L)
theorem qr(t0 t1:AV)(L:SH)(Q:R)(h:iL t0 t1 L Q):am Try.prog 7 [t0,t1] L Q:=
 bC ⟨fun _=>none,fun k=>if k=4 then [0,1,5]else [],fun _=>[],fun k=>if k=6 then [0,0,3,7,0,0,48,112,255]else []⟩ Try.func7 (by kernel_rfl) (by kernel_rfl) h
end Go.Proofs.Ytljkdffikfkcgaa.Am
end
section
namespace Go.Proofs.Ytljkdffikfkcgaa.Am
set_option maxRecDepth 100000
set_option linter.unusedVariables false
theorem Do(l:List Int)(hl:l.length<2^62):aO Try.prog 7 [.lst (l.map aJ),.lst (l.map aJ)] (.bool true):=by
 refine qr _ _ _ _ ?_
 unfold iL
 generalize hQ:(fun(u:AV) (K:SH)=>u=AV.bool true∧K=[])=Q
 have hq:Q (.bool true) []:=by subst hQ;exact⟨rfl,rfl⟩
 clear hQ
 have d0:decide ((l.length:Int)≠(l.length:Int))=false:=by simp
 repeat' (first | refine st ?_ | refine sb (fun nb_ hnb_=>?_) | refine s2 (fun h=>?_) (fun h=>?_) | fail)
 refine eJ l.length (fun _=>True) (fun i=>[.lst (l.map aJ),.lst (l.map aJ),.int .i64 i]) hl trivial rfl (fun i h1 hd hi _ nx hn=>?_) (fun i h1 hd _ nx=>?_)
 all_goals unfold g9
 ·have hx:=aC (f:=aJ) h1
  have d1:decide (l[i]≠l[i])=false:=by simp
  repeat' (first | refine st ?_ | refine sb (fun nb_ hnb_=>?_) | refine s2 (fun h=>?_) (fun h=>?_) | fail)
  exact hn trivial
 ·repeat' (first | refine st ?_ | refine sb (fun nb_ hnb_=>?_) | refine s2 (fun h=>?_) (fun h=>?_) | fail)
  exact hq
end Go.Proofs.Ytljkdffikfkcgaa.Am
end
section
namespace Go.Proofs.Ytljkdffikfkcgaa.Am
set_option linter.unusedVariables false
structure eN(s u:bK):Prop where
 pc:u.pc=s.pc
 ev:u.ev=s.ev
 taint:u.taint=s.taint
 len:u.regs.length=s.regs.length
 same:s.taint.length=s.regs.length
 val:∀k:Nat,s.taint.getD k []=[]→s.regs.getD k 0=u.regs.getD k 0
theorem vd{α:Type}(l:List α)(a k:Nat)(v d:α)(h:a<l.length):(l.set a v).getD k d=if a=k then v else l.getD k d:=by
 rw[List.getD_eq_getElem?_getD,List.getElem?_set]
 by_cases e:a=k
 ·rw[if_pos e,if_pos (by omega),if_pos e];rfl
 ·rw[if_neg e,if_neg e,List.getD_eq_getElem?_getD]
theorem eN.put{s u:bK}(h:eN s u){a v v':Int}{t:List Int}(ha:s.has a=true)(hv:t=[]→v=v'):eN (s.put a v t) (u.put a v' t):=by
 have h1:a.toNat<s.regs.length:=by
  have:=(gX (i:=a) (n:=s.regs.length)).1 ha
  omega
 refine⟨by simp[bK.put,h.pc],by simp[bK.put,h.ev],by simp[bK.put,h.taint],by simp[bK.put,h.len],by simp[bK.put,h.same],fun k hk=>?_⟩
 have hs:=h.same
 have hl:=h.len
 simp only[bK.put]at hk ⊢
 rw[vd _ _ _ _ _ (by omega)]at hk
 rw[vd _ _ _ _ _ h1,vd _ _ _ _ _ (by omega)]
 by_cases e:a.toNat=k
 ·rw[if_pos e]at hk
  rw[if_pos e,if_pos e]
  exact hv hk
 ·rw[if_neg e]at hk
  rw[if_neg e,if_neg e]
  exact h.val k hk
theorem EV(n a b:Int):(BN n a).2=(BN n b).2:=by
 unfold BN
 split
 ·rfl
 ·split<;>rfl
theorem Dp(n a b c d:Int):(rS n a b).2=(rS n c d).2:=by
 unfold rS
 simp only[apply_ite Prod.snd]
theorem eN.has{s u:bK}(h:eN s u)(r:Int):u.has r=s.has r:=by unfold bK.has;rw[h.len]
theorem eN.tnt{s u:bK}(h:eN s u)(r:Int):u.tnt r=s.tnt r:=by unfold bK.tnt;rw[h.taint]
theorem eN.reg{s u:bK}(h:eN s u)(r:Int)(ht:s.tnt r=[]):s.reg r=u.reg r:=h.val r.toNat ht
theorem Dq{l:List Int}(h:zQ l=[]):l=[]:=List.eq_nil_iff_forall_not_mem.2 fun x hx=>by
 have:=(xL l x).2 hx
 rw[h]at this
 cases this
def Jg(P:bK→bK→Prop):Option bK→Option bK→Prop
 | none,none=>True
 | some a,some b=>P a b
 | _,_=>False
theorem Ao{s u:bK}(h:eN s u)(i:aw):Jg eN (bu i s) (bu i u):=by
 unfold bu
 simp only[h.has,h.tnt]
 rw[EV i.n (u.reg i.b) (s.reg i.b),Dp i.n (u.reg i.b) (u.reg i.c) (s.reg i.b) (s.reg i.c)]
 split
 ·split
  ·rename_i hh;exact h.put hh fun _=>rfl
  ·trivial
 ·split
  ·split
   ·rename_i hh
    simp only[Bool.and_eq_true]at hh
    exact h.put hh.1 fun e=>h.reg _ e
   ·trivial
  ·split
   ·split
    ·rename_i hh
     simp only[Bool.and_eq_true]at hh
     exact h.put hh.1.1 fun e=>by rw[h.reg _ e]
    ·trivial
   ·split
    ·split
     ·rename_i hh
      simp only[Bool.and_eq_true]at hh
      refine h.put hh.1.1.1 fun e=>?_
      have e2:=List.append_eq_nil_iff.1 (Dq e)
      rw[h.reg _ e2.1,h.reg _ e2.2]
     ·trivial
    ·exact⟨rfl,h.ev,h.taint,h.len,h.same,h.val⟩
theorem BW{ins:List aw}:∀(k:Nat) {s u:bK},eN s u→(dz ins k s).2=(dz ins k u).2∧eN (dz ins k s).1 (dz ins k u).1:=by
 have hz:eN bK.zero bK.zero:=⟨rfl,rfl,rfl,rfl,rfl,fun _ _=>rfl⟩
 intro k
 induction k with
 | zero=>
  intro s u h
  unfold dz
  rw[h.pc]
  split
  ·split
   ·exact⟨rfl,h⟩
   ·exact⟨rfl,hz⟩
  ·exact⟨rfl,hz⟩
 | succ k ih=>
  intro s u h
  unfold dz
  rw[h.pc]
  split
  ·split
   ·exact⟨rfl,h⟩
   ·have hb:=Ao h (ins.getD s.pc.toNat default)
    generalize bu (ins.getD s.pc.toNat default) s=x at hb ⊢
    generalize bu (ins.getD s.pc.toNat default) u=y at hb ⊢
    match x,y,hb with
    | none,none,_=>exact⟨rfl,hz⟩
    | some a,some b,hb=>exact ih hb
  ·exact⟨rfl,hz⟩
theorem xR{c:lf}{s u:bK}(h:eN s u):(cg c s).2=(cg c u).2∧eN (cg c s).1 (cg c u).1:=by
 unfold cg
 rw[h.len,h.taint]
 split
 ·exact BW _ h
 ·exact⟨rfl,rfl,rfl,rfl,rfl,rfl,fun _ _=>rfl⟩
end Go.Proofs.Ytljkdffikfkcgaa.Am
end
section
namespace Go.Proofs.Ytljkdffikfkcgaa.Am
set_option linter.unusedVariables false
set_option maxRecDepth 100000
def kp(t0:AV)(L:SH)(Q:R):Prop:=
 wb .geq 5 t0 (.int .u8 97) fun x0=>
 cj x0 true t0 L fun x1 L3=>
 wg x0 true (wb .leq 5 x1 (.int .u8 122)) L3 fun x4 L6=>
 W.pick x0 x4 (.bool false) fun x8=>
 cj x8 false t0 L6 fun x9 L11=>
 wg x8 false (wb .geq 5 x9 (.int .u8 65)) L11 fun x12 L14=>
 cj x8 false x12 L14 fun x16 L18=>
 cj x16 true t0 L18 fun x19 L21=>
 wg x16 true (wb .leq 5 x19 (.int .u8 90)) L21 fun x22 L24=>
 wg x8 false (W.pick x16 x22 (.bool false)) L24 fun x26 L28=>
 W.pick x8 (.bool true) x26 fun x30=>
 Q x30 L28
theorem tw(t0:AV)(L:SH)(Q:R)(h:kp t0 L Q):am Try.prog 59 [t0] L Q:=
 bC ⟨fun _=>none,fun _=>[],fun _=>[],fun _=>[]⟩ Try.func59 (by kernel_rfl) (by kernel_rfl) h
def mD(t0:AV)(L:SH)(Q:R):Prop:=
 wb .geq 5 t0 (.int .u8 48) fun x0=>
 cj x0 true t0 L fun x1 L3=>
 wg x0 true (wb .leq 5 x1 (.int .u8 57)) L3 fun x4 L6=>
 W.pick x0 x4 (.bool false) fun x8=>
 Q x8 L6
theorem ve(t0:AV)(L:SH)(Q:R)(h:mD t0 L Q):am Try.prog 81 [t0] L Q:=
 bC ⟨fun _=>none,fun _=>[],fun _=>[],fun _=>[]⟩ Try.func81 (by kernel_rfl) (by kernel_rfl) h
def vf(Q:R)(t0 x0:AV)(L1:SH):Prop:=
 cj x0 false t0 L1 fun x2 L4=>
 W.grd x0 false (fun k6=>wc (.fn 81 []) [x2] L4 fun x8 L9=>
 k6 x8 L9) L4 fun x5 L7=>
 W.pick x0 (.bool true) x5 fun x10=>
 cj x10 false t0 L7 fun x11 L13=>
 wg x10 false (wb .eql 5 x11 (.int .u8 95)) L13 fun x14 L16=>
 W.pick x10 (.bool true) x14 fun x18=>
 Q x18 L16
def mE(t0:AV)(L:SH)(Q:R):Prop:=
 wc (.fn 59 []) [t0] L (vf Q t0)
theorem vg(t0:AV)(L:SH)(Q:R)(h:mE t0 L Q):am Try.prog 61 [t0] L Q:=
 bC ⟨fun _=>none,fun _=>[],fun _=>[],fun _=>[]⟩ Try.func61 (by kernel_rfl) (by kernel_rfl) h
def iM(L:SH)(Q:R):Prop:=
 W.bslice 1 [(.str [])] 22 [(0,(.str [118,97,114])),(1,(.str [118,111,108,97,116,105,108,101])),(2,(.str [109,117,116,101,120])),(3,(.str [114,119,108,111,99,107])),(4,(.str [99,111,110,100])),(5,(.str [102,117,116,117,114,101])),(6,(.str [116,104,114,101,97,100])),(7,(.str [105,102])),(8,(.str [101,108,115,101])),(9,(.str [119,104,105,108,101])),(10,(.str [108,111,99,107])),(11,(.str [114,101,97,100])),(12,(.str [119,114,105,116,101])),(13,(.str [116,114,97,110,115,97,99,116,105,111,110])),(14,(.str [97,116,111,109,105,99])),(15,(.str [119,97,105,116])),(16,(.str [110,111,116,105,102,121])),(17,(.str [110,111,116,105,102,121,97,108,108])),(18,(.str [115,112,97,119,110])),(19,(.str [106,111,105,110])),(20,(.str [115,101,116])),(21,(.str [103,101,116]))] L fun x0 L1=>
 Q x0 L1
theorem qt(L:SH)(Q:R)(h:iM L Q):am Try.prog 80 [] L Q:=
 bC ⟨fun _=>none,fun _=>[],fun _=>[],fun _=>[]⟩ Try.func80 (by kernel_rfl) (by kernel_rfl) h
def gk(Q:R)(v2:Vs)(L4:SH)(n3:Kn):Prop:=
 wu 0 3 4 v2 fun x5 x6 x7=>
 W.len x6 fun x8=>
 wb .lss 3 x7 x8 fun x9=>
 wk x9 (
 Ba 1 x6 x7 L4 fun x11=>
 wb .eql 9 x11 x5 fun x12=>
 wk x12 (
 Q (.bool true) L4) (
 wb .add 3 x7 (.int .i64 1) fun x13=>
 n3 [x5,x6,x13] L4)) (
 Q (.bool false) L4)
def mZ(Q:R)(t0 x0:AV)(L1:SH):Prop:=
 W.loop (gk Q) [t0,x0,(.int .i64 0)] L1
def hD(t0:AV)(L:SH)(Q:R):Prop:=
 wc (.fn 80 []) [] L (mZ Q t0)
theorem m0(t0:AV)(L:SH)(Q:R)(h:hD t0 L Q):am Try.prog 60 [t0] L Q:=
 bC ⟨fun _=>none,fun k=>if k=3 then [0,3,4]else [],fun _=>[],fun _=>[]⟩ Try.func60 (by kernel_rfl) (by kernel_rfl) h
def tz(Q:R)(n41:Kn)(x44 x43 x48:AV)(L49:SH):Prop:=
 W.un .not x48 fun x50=>
 wk x50 (
 Q (.bool false) L49) (
 wb .add 3 x44 (.int .i64 1) fun x51=>
 n41 [x43,x51] L49)
def jE(Q:R)(v40:Vs)(L42:SH)(n41:Kn):Prop:=
 EK 0 3 v40 fun x43 x44=>
 W.lenS x43 fun x45=>
 wb .lss 3 x44 x45 fun x46=>
 wk x46 (
 W.ixS x43 x44 fun x47=>
 wc (.fn 61 []) [x47] L42 (tz Q n41 x44 x43)) (
 Q (.bool true) L42)
def kq(t0:AV)(L:SH)(Q:R):Prop:=
 W.lenS t0 fun x0=>
 wb .lss 3 x0 (.int .i64 1) fun x1=>
 cj x1 false t0 L fun x2 L4=>
 wg x1 false (W.lenS x2) L4 fun x5 L7=>
 wg x1 false (wb .gtr 3 x5 (.int .i64 12)) L7 fun x9 L11=>
 W.pick x1 (.bool true) x9 fun x13=>
 cj x13 false t0 L11 fun x14 L16=>
 wg x13 false (W.ixS x14 (.int .i64 0)) L16 fun x17 L19=>
 W.grd x13 false (fun k22=>wc (.fn 59 []) [x17] L19 fun x24 L25=>
 k22 x24 L25) L19 fun x21 L23=>
 wg x13 false (W.un .not x21) L23 fun x26 L28=>
 W.pick x13 (.bool true) x26 fun x30=>
 cj x30 false t0 L28 fun x31 L33=>
 W.grd x30 false (fun k35=>wc (.fn 60 []) [x31] L33 fun x37 L38=>
 k35 x37 L38) L33 fun x34 L36=>
 W.pick x30 (.bool true) x34 fun x39=>
 wk x39 (
 Q (.bool false) L36) (
 W.loop (jE Q) [t0,(.int .i64 0)] L36)
theorem tB(t0:AV)(L:SH)(Q:R)(h:kq t0 L Q):am Try.prog 41 [t0] L Q:=
 bC ⟨fun _=>none,fun k=>if k=4 then [0,3]else [],fun _=>[],fun _=>[]⟩ Try.func41 (by kernel_rfl) (by kernel_rfl) h
def qu(Q:R)(L15:SH)(t0:AV):Prop:=
 wb .geq 3 t0 (.int .i64 6) fun x18=>
 cj x18 true t0 L15 fun x19 L21=>
 wg x18 true (wb .leq 3 x19 (.int .i64 18)) L21 fun x22 L24=>
 W.pick x18 x22 (.bool false) fun x26=>
 wk x26 (
 Q (.int .i64 2) L24) (
 Q (.int .i64 (-1)) L24)
def qv(Q:R)(L6:SH)(t0:AV):Prop:=
 wb .geq 3 t0 (.int .i64 3) fun x9=>
 cj x9 true t0 L6 fun x10 L12=>
 wg x9 true (wb .leq 3 x10 (.int .i64 5)) L12 fun x13 L15=>
 W.pick x9 x13 (.bool false) fun x17=>
 wk x17 (
 Q (.int .i64 1) L15) (
 (qu Q L15 t0))
def iN(t0:AV)(L:SH)(Q:R):Prop:=
 wb .eql 3 t0 (.int .i64 1) fun x0=>
 cj x0 false t0 L fun x1 L3=>
 wg x0 false (wb .eql 3 x1 (.int .i64 2)) L3 fun x4 L6=>
 W.pick x0 (.bool true) x4 fun x8=>
 wk x8 (
 Q (.int .i64 0) L6) (
 (qv Q L6 t0))
theorem qw(t0:AV)(L:SH)(Q:R)(h:iN t0 L Q):am Try.prog 93 [t0] L Q:=
 bC ⟨fun _=>none,fun _=>[],fun _=>[],fun _=>[]⟩ Try.func93 (by kernel_rfl) (by kernel_rfl) h
def lh(Q:R)(n156:Kn)(x159 x158 x168:AV)(L169:SH):Prop:=
 W.un .not x168 fun x170=>
 wk x170 (
 Q (.bool false) L169) (
 wb .add 3 x159 (.int .i64 1) fun x171=>
 n156 [x158,x171] L169)
def fH(Q:R)(v155:Vs)(L157:SH)(n156:Kn):Prop:=
 EK 1 4 v155 fun x158 x159=>
 bo 3 x158 L157 fun x161=>
 W.len x161 fun x162=>
 wb .lss 3 x159 x162 fun x163=>
 wk x163 (
 bo 3 x158 L157 fun x165=>
 ug 4 x165 x159 L157 fun x167=>
 wc (.fn 82 []) [x167] L157 (lh Q n156 x159 x158)) (
 Q (.bool true) L157)
def ll(Q:R)(L17:SH)(x2 x19:AV)(r22:Fp)(x23:AV)(L25:SH)(q24:Ns):Prop:=
 wn [] q24 [] L17.names fun r26=>
 bx 3 x2 [rc 2 r26,rm 1 r22] 4 L25 fun x28 r29=>
 W.len x28 fun x30=>
 wb .neq 3 x23 x30 fun x31=>
 W.dgrd x31 false (fun k33=>k33 x19 L25 rz) L25 fun x32 L35 r34=>
 W.dgrd x31 false (fun k37=>W.faddr 2 x2 fun x40=>
 k37 x40 L35 rz) L35 fun x36 L39 r38=>
 W.dgrd x31 false (fun k42=>dl [] 10 x36 L39 fun x45 r46=>
 k42 x45 L39 r46) L39 fun x41 L44 r43=>
 W.dgrd x31 false (fun k48=>wb .neq 9 x41 (.str []) fun x51=>
 k48 x51 L44 rz) L44 fun x47 L50 r49=>
 W.dgrd x31 false (fun k53=>wb .neq 4 x32 x47 fun x56=>
 k53 x56 L50 rz) L50 fun x52 L55 r54=>
 W.pick x31 (.bool true) x52 fun x57=>
 W.dgrd x57 false (fun k59=>k59 x19 L55 rz) L55 fun x58 L61 r60=>
 W.dgrd x57 false (fun k63=>k63 x58 L61 rz) L61 fun x62 L65 r64=>
 W.dgrd x62 true (fun k67=>W.faddr 2 x2 fun x70=>
 k67 x70 L65 rz) L65 fun x66 L69 r68=>
 W.dgrd x62 true (fun k72=>dl [] 18 x66 L69 fun x75 r76=>
 k72 x75 L69 r76) L69 fun x71 L74 r73=>
 W.dgrd x62 true (fun k78=>wd [] 19 (.fn 41 []) [x71] L74 fun x81 L83 q82=>
 wn [] q82 [] L74.names fun r84=>
 k78 x81 L83 r84) L74 fun x77 L80 r79=>
 W.dgrd x62 true (fun k86=>W.un .not x77 fun x89=>
 k86 x89 L80 rz) L80 fun x85 L88 r87=>
 W.dgrd x57 false (fun k91=>W.pick x62 x85 (.bool false) fun x94=>
 k91 x94 L88 rz) L88 fun x90 L93 r92=>
 W.pick x57 (.bool true) x90 fun x95=>
 W.dgrd x95 false (fun k97=>W.faddr 1 x2 fun x100=>
 k97 x100 L93 rz) L93 fun x96 L99 r98=>
 W.dgrd x95 false (fun k102=>dl [] 25 x96 L99 fun x105 r106=>
 k102 x105 L99 r106) L99 fun x101 L104 r103=>
 W.dgrd x95 false (fun k108=>wb .lss 2 x101 (.int .i64 0) fun x111=>
 k108 x111 L104 rz) L104 fun x107 L110 r109=>
 W.pick x95 (.bool true) x107 fun x112=>
 W.dgrd x112 false (fun k114=>W.faddr 0 x2 fun x117=>
 k114 x117 L110 rz) L110 fun x113 L116 r115=>
 W.dgrd x112 false (fun k119=>dl [] 30 x113 L116 fun x122 r123=>
 k119 x122 L116 r123) L116 fun x118 L121 r120=>
 W.dgrd x112 false (fun k125=>wb .neq 3 x118 (.int .i64 1) fun x128=>
 k125 x128 L121 rz) L121 fun x124 L127 r126=>
 W.dgrd x112 false (fun k130=>k130 x124 L127 rz) L127 fun x129 L132 r131=>
 W.dgrd x129 true (fun k134=>W.faddr 1 x2 fun x137=>
 k134 x137 L132 rz) L132 fun x133 L136 r135=>
 W.dgrd x129 true (fun k139=>dl [] 34 x133 L136 fun x142 r143=>
 k139 x142 L136 r143) L136 fun x138 L141 r140=>
 W.dgrd x129 true (fun k145=>wb .neq 2 x138 (.int .i64 0) fun x148=>
 k145 x148 L141 rz) L141 fun x144 L147 r146=>
 W.dgrd x112 false (fun k150=>W.pick x129 x144 (.bool false) fun x153=>
 k150 x153 L147 rz) L147 fun x149 L152 r151=>
 W.pick x112 (.bool true) x149 fun x154=>
 wk x154 (
 Q (.bool false) L152) (
 W.loop (fH Q) [x2,(.int .i64 0)] L152)
def gl(t0:AV)(L:SH)(Q:R):Prop:=
 xb t0 L fun x2 L3=>
 bo 0 x2 L3 fun x5=>
 wb .eql 3 x5 (.int .i64 2) fun x6=>
 wg x6 false (W.faddr 0 x2) L3 fun x7 L9=>
 wg x6 false (wl x7 L9) L9 fun x11 L13=>
 wg x6 false (wb .eql 3 x11 (.int .i64 3)) L13 fun x15 L17=>
 W.pick x6 (.bool true) x15 fun x19=>
 (true=true)∧(
 bx 0 x2 [] 1 L17 fun x21 r22=>
 wd [] 2 (.fn 93 []) [x21] L17 (ll Q L17 x2 x19 r22))
theorem lm(t0:AV)(L:SH)(Q:R)(h:gl t0 L Q):am Try.prog 82 [t0] L Q:=
 bC ⟨fun _=>none,fun k=>if k=5 then [1,4]else [],fun k=>if k=0 then [1]else [],fun k=>if k=2 then [0,1,3,0,8,24,63,127,255,255,767,1791,4095,8191,16383,32767,65535,131071,262143,524287,1048575,2097151,4194303,8388607,16777215,33554431,67108863,134217727,268435455,536870911,1073741823,2147483647,4294967295,8589934591,17179869183,34359738367,68719476735,137438953471]else []⟩ Try.func82 (by kernel_rfl) (by kernel_rfl) h
def mF(t0:AV)(L:SH)(Q:R):Prop:=
 xb t0 L fun x2 L3=>
 bo 0 x2 L3 fun x5=>
 wb .eql 3 x5 (.int .i64 0) fun x6=>
 wg x6 true (W.faddr 1 x2) L3 fun x7 L9=>
 wg x6 true (wl x7 L9) L9 fun x11 L13=>
 wg x6 true (wb .eql 2 x11 (.int .i64 0)) L13 fun x15 L17=>
 W.pick x6 x15 (.bool false) fun x19=>
 wg x19 true (W.faddr 2 x2) L17 fun x20 L22=>
 wg x19 true (wl x20 L22) L22 fun x24 L26=>
 wg x19 true (wb .eql 9 x24 (.str [])) L26 fun x28 L30=>
 W.pick x19 x28 (.bool false) fun x32=>
 wg x32 true (W.faddr 3 x2) L30 fun x33 L35=>
 wg x32 true (wl x33 L35) L35 fun x37 L39=>
 wg x32 true (W.len x37) L39 fun x41 L43=>
 wg x32 true (wb .eql 3 x41 (.int .i64 0)) L43 fun x45 L47=>
 W.pick x32 x45 (.bool false) fun x49=>
 Q x49 L47
theorem vh(t0:AV)(L:SH)(Q:R)(h:mF t0 L Q):am Try.prog 83 [t0] L Q:=
 bC ⟨fun _=>none,fun _=>[],fun k=>if k=0 then [1]else [],fun _=>[]⟩ Try.func83 (by kernel_rfl) (by kernel_rfl) h
def lp(Q:R)(x2 x413:AV)(L414:SH):Prop:=
 wg x413 true (W.faddr 10 x2) L414 fun x415 L417=>
 wg x413 true (wl x415 L417) L417 fun x419 L421=>
 W.grd x413 true (fun k424=>wc (.fn 42 []) [x419] L421 fun x426 L427=>
 k424 x426 L427) L421 fun x423 L425=>
 W.pick x413 x423 (.bool false) fun x428=>
 Q x428 L425
def dK(Q:R)(L338:SH)(x2:AV):Prop:=
 bo 0 x2 L338 fun x342=>
 wb .geq 3 x342 (.int .i64 2) fun x343=>
 wg x343 true (W.faddr 0 x2) L338 fun x344 L346=>
 wg x343 true (wl x344 L346) L346 fun x348 L350=>
 wg x343 true (wb .leq 3 x348 (.int .i64 8)) L350 fun x352 L354=>
 W.pick x343 x352 (.bool false) fun x356=>
 W.un .not x356 fun x357=>
 wg x357 true (W.faddr 9 x2) L354 fun x358 L360=>
 wg x357 true (wl x358 L360) L360 fun x362 L364=>
 wg x357 true (W.len x362) L364 fun x366 L368=>
 wg x357 true (wb .gtr 3 x366 (.int .i64 0)) L368 fun x370 L372=>
 W.pick x357 x370 (.bool false) fun x374=>
 wg x374 false (W.faddr 0 x2) L372 fun x375 L377=>
 wg x374 false (wl x375 L377) L377 fun x379 L381=>
 wg x374 false (wb .neq 3 x379 (.int .i64 2)) L381 fun x383 L385=>
 cj x374 false x383 L385 fun x387 L389=>
 wg x387 true (W.faddr 10 x2) L389 fun x390 L392=>
 wg x387 true (wl x390 L392) L392 fun x394 L396=>
 wg x387 true (W.len x394) L396 fun x398 L400=>
 wg x387 true (wb .gtr 3 x398 (.int .i64 0)) L400 fun x402 L404=>
 wg x374 false (W.pick x387 x402 (.bool false)) L404 fun x406 L408=>
 W.pick x374 (.bool true) x406 fun x410=>
 wk x410 (
 Q (.bool false) L408) (
 bo 9 x2 L408 fun x412=>
 wc (.fn 42 []) [x412] L408 (lp Q x2))
def dL(Q:R)(L246:SH)(x2:AV):Prop:=
 bo 0 x2 L246 fun x250=>
 wb .eql 3 x250 (.int .i64 1) fun x251=>
 wg x251 false (W.faddr 0 x2) L246 fun x252 L254=>
 wg x251 false (wl x252 L254) L254 fun x256 L258=>
 wg x251 false (wb .eql 3 x256 (.int .i64 2)) L258 fun x260 L262=>
 W.pick x251 (.bool true) x260 fun x264=>
 wg x264 false (W.faddr 0 x2) L262 fun x265 L267=>
 wg x264 false (wl x265 L267) L267 fun x269 L271=>
 wg x264 false (wb .eql 3 x269 (.int .i64 3)) L271 fun x273 L275=>
 W.pick x264 (.bool true) x273 fun x277=>
 wg x277 false (W.faddr 0 x2) L275 fun x278 L280=>
 wg x277 false (wl x278 L280) L280 fun x282 L284=>
 wg x277 false (wb .eql 3 x282 (.int .i64 14)) L284 fun x286 L288=>
 W.pick x277 (.bool true) x286 fun x290=>
 wg x290 true (W.faddr 5 x2) L288 fun x291 L293=>
 wg x290 true (dy 4 x291 L293) L293 fun x295 L297=>
 W.grd x290 true (fun k300=>wc (.fn 82 []) [x295] L297 fun x302 L303=>
 k300 x302 L303) L297 fun x299 L301=>
 wg x290 true (W.un .not x299) L301 fun x304 L306=>
 W.pick x290 x304 (.bool false) fun x308=>
 cj x308 false x290 L306 fun x309 L311=>
 wg x308 false (W.un .not x309) L311 fun x312 L314=>
 cj x308 false x312 L314 fun x316 L318=>
 wg x316 true (W.faddr 5 x2) L318 fun x319 L321=>
 wg x316 true (dy 4 x319 L321) L321 fun x323 L325=>
 W.grd x316 true (fun k328=>wc (.fn 83 []) [x323] L325 fun x330 L331=>
 k328 x330 L331) L325 fun x327 L329=>
 wg x316 true (W.un .not x327) L329 fun x332 L334=>
 wg x308 false (W.pick x316 x332 (.bool false)) L334 fun x336 L338=>
 W.pick x308 (.bool true) x336 fun x340=>
 wk x340 (
 Q (.bool false) L338) (
 (dK Q L338 x2))
def dM(Q:R)(L157:SH)(x2:AV):Prop:=
 bo 4 x2 L157 fun x161=>
 W.len x161 fun x162=>
 wb .gtr 3 x162 (.int .i64 1) fun x163=>
 wg x163 false (W.faddr 0 x2) L157 fun x164 L166=>
 wg x163 false (wl x164 L166) L166 fun x168 L170=>
 wg x163 false (wb .neq 3 x168 (.int .i64 1)) L170 fun x172 L174=>
 cj x163 false x172 L174 fun x176 L178=>
 wg x176 true (W.faddr 4 x2) L178 fun x179 L181=>
 wg x176 true (wl x179 L181) L181 fun x183 L185=>
 wg x176 true (W.len x183) L185 fun x187 L189=>
 wg x176 true (wb .gtr 3 x187 (.int .i64 0)) L189 fun x191 L193=>
 wg x163 false (W.pick x176 x191 (.bool false)) L193 fun x195 L197=>
 W.pick x163 (.bool true) x195 fun x199=>
 wg x199 false (W.faddr 4 x2) L197 fun x200 L202=>
 wg x199 false (wl x200 L202) L202 fun x204 L206=>
 wg x199 false (W.len x204) L206 fun x208 L210=>
 wg x199 false (wb .eql 3 x208 (.int .i64 1)) L210 fun x212 L214=>
 cj x199 false x212 L214 fun x216 L218=>
 wg x216 true (W.faddr 4 x2) L218 fun x219 L221=>
 wg x216 true (wl x219 L221) L221 fun x223 L225=>
 wg x216 true (W.idx 4 x223 (.int .i64 0) L225) L225 fun x227 L229=>
 wg x216 true (dy 4 x227 L229) L229 fun x231 L233=>
 W.grd x216 true (fun k236=>wc (.fn 82 []) [x231] L233 fun x238 L239=>
 k236 x238 L239) L233 fun x235 L237=>
 wg x216 true (W.un .not x235) L237 fun x240 L242=>
 wg x199 false (W.pick x216 x240 (.bool false)) L242 fun x244 L246=>
 W.pick x199 (.bool true) x244 fun x248=>
 wk x248 (
 Q (.bool false) L246) (
 (dL Q L246 x2))
def dN(Q:R)(L104:SH)(x2:AV):Prop:=
 bo 0 x2 L104 fun x108=>
 wb .eql 3 x108 (.int .i64 15) fun x109=>
 wg x109 true (W.faddr 3 x2) L104 fun x110 L112=>
 wg x109 true (wl x110 L112) L112 fun x114 L116=>
 W.grd x109 true (fun k119=>wc (.fn 41 []) [x114] L116 fun x121 L122=>
 k119 x121 L122) L116 fun x118 L120=>
 wg x109 true (W.un .not x118) L120 fun x123 L125=>
 W.pick x109 x123 (.bool false) fun x127=>
 wg x127 false (W.faddr 0 x2) L125 fun x128 L130=>
 wg x127 false (wl x128 L130) L130 fun x132 L134=>
 wg x127 false (wb .neq 3 x132 (.int .i64 15)) L134 fun x136 L138=>
 cj x127 false x136 L138 fun x140 L142=>
 wg x140 true (W.faddr 3 x2) L142 fun x143 L145=>
 wg x140 true (wl x143 L145) L145 fun x147 L149=>
 wg x140 true (wb .neq 9 x147 (.str [])) L149 fun x151 L153=>
 wg x127 false (W.pick x140 x151 (.bool false)) L153 fun x155 L157=>
 W.pick x127 (.bool true) x155 fun x159=>
 wk x159 (
 Q (.bool false) L157) (
 (dM Q L157 x2))
def dO(Q:R)(L17:SH)(x2:AV):Prop:=
 bo 0 x2 L17 fun x21=>
 wb .eql 3 x21 (.int .i64 2) fun x22=>
 wg x22 false (W.faddr 0 x2) L17 fun x23 L25=>
 wg x22 false (wl x23 L25) L25 fun x27 L29=>
 wg x22 false (wb .eql 3 x27 (.int .i64 3)) L29 fun x31 L33=>
 W.pick x22 (.bool true) x31 fun x35=>
 wg x35 false (W.faddr 0 x2) L33 fun x36 L38=>
 wg x35 false (wl x36 L38) L38 fun x40 L42=>
 wg x35 false (wb .eql 3 x40 (.int .i64 7)) L42 fun x44 L46=>
 W.pick x35 (.bool true) x44 fun x48=>
 wg x48 false (W.faddr 0 x2) L46 fun x49 L51=>
 wg x48 false (wl x49 L51) L51 fun x53 L55=>
 wg x48 false (wb .eql 3 x53 (.int .i64 8)) L55 fun x57 L59=>
 W.pick x48 (.bool true) x57 fun x61=>
 wg x61 true (W.faddr 2 x2) L59 fun x62 L64=>
 wg x61 true (wl x62 L64) L64 fun x66 L68=>
 wg x61 true (wb .neq 9 x66 (.str [])) L68 fun x70 L72=>
 W.pick x61 x70 (.bool false) fun x74=>
 cj x74 false x61 L72 fun x75 L77=>
 wg x74 false (W.un .not x75) L77 fun x78 L80=>
 cj x74 false x78 L80 fun x82 L84=>
 wg x82 true (W.faddr 2 x2) L84 fun x85 L87=>
 wg x82 true (wl x85 L87) L87 fun x89 L91=>
 W.grd x82 true (fun k94=>wc (.fn 41 []) [x89] L91 fun x96 L97=>
 k94 x96 L97) L91 fun x93 L95=>
 wg x82 true (W.un .not x93) L95 fun x98 L100=>
 wg x74 false (W.pick x82 x98 (.bool false)) L100 fun x102 L104=>
 W.pick x74 (.bool true) x102 fun x106=>
 wk x106 (
 Q (.bool false) L104) (
 (dN Q L104 x2))
def gm(t0:AV)(L:SH)(Q:R):Prop:=
 xb t0 L fun x2 L3=>
 bo 0 x2 L3 fun x5=>
 wb .lss 3 x5 (.int .i64 1) fun x6=>
 wg x6 false (W.faddr 0 x2) L3 fun x7 L9=>
 wg x6 false (wl x7 L9) L9 fun x11 L13=>
 wg x6 false (wb .gtr 3 x11 (.int .i64 15)) L13 fun x15 L17=>
 W.pick x6 (.bool true) x15 fun x19=>
 wk x19 (
 Q (.bool false) L17) (
 (dO Q L17 x2))
theorem lq(t0:AV)(L:SH)(Q:R)(h:gm t0 L Q):am Try.prog 62 [t0] L Q:=
 bC ⟨fun _=>none,fun _=>[],fun k=>if k=0 then [1]else [],fun _=>[]⟩ Try.func62 (by kernel_rfl) (by kernel_rfl) h
def kt(Q:R)(n1:Kn)(x4 x3 x9:AV)(L10:SH):Prop:=
 W.un .not x9 fun x11=>
 wk x11 (
 Q (.bool false) L10) (
 wb .add 3 x4 (.int .i64 1) fun x12=>
 n1 [x3,x12] L10)
def fp(Q:R)(v0:Vs)(L2:SH)(n1:Kn):Prop:=
 EK 0 3 v0 fun x3 x4=>
 W.len x3 fun x5=>
 wb .lss 3 x4 x5 fun x6=>
 wk x6 (
 ug 11 x3 x4 L2 fun x8=>
 wc (.fn 62 []) [x8] L2 (kt Q n1 x4 x3)) (
 Q (.bool true) L2)
def fI(t0:AV)(L:SH)(Q:R):Prop:=
 W.loop (fp Q) [t0,(.int .i64 0)] L
theorem ku(t0:AV)(L:SH)(Q:R)(h:fI t0 L Q):am Try.prog 42 [t0] L Q:=
 bC ⟨fun _=>none,fun k=>if k=2 then [0,3]else [],fun _=>[],fun _=>[]⟩ Try.func42 (by kernel_rfl) (by kernel_rfl) h
def dP(Q:R)(L133:SH)(x2:AV):Prop:=
 bo 4 x2 L133 fun x137=>
 wb .gtr 2 x137 (.int .i64 (-9223372036854775808)) fun x138=>
 wg x138 true (W.faddr 4 x2) L133 fun x139 L141=>
 wg x138 true (wl x139 L141) L141 fun x143 L145=>
 wg x138 true (wb .eql 2 x143 (.int .i64 0)) L145 fun x147 L149=>
 cj x138 true x147 L149 fun x151 L153=>
 wg x151 false (W.faddr 0 x2) L153 fun x154 L156=>
 wg x151 false (wl x154 L156) L156 fun x158 L160=>
 wg x151 false (wb .eql 3 x158 (.int .i64 1)) L160 fun x162 L164=>
 wg x138 true (W.pick x151 (.bool true) x162) L164 fun x166 L168=>
 cj x138 true x166 L168 fun x170 L172=>
 wg x170 false (W.faddr 0 x2) L172 fun x173 L175=>
 wg x170 false (wl x173 L175) L175 fun x177 L179=>
 wg x170 false (wb .eql 3 x177 (.int .i64 2)) L179 fun x181 L183=>
 wg x138 true (W.pick x170 (.bool true) x181) L183 fun x185 L187=>
 W.pick x138 x185 (.bool false) fun x189=>
 Q x189 L187
def dQ(Q:R)(L80:SH)(x2:AV):Prop:=
 bo 0 x2 L80 fun x84=>
 wb .eql 3 x84 (.int .i64 5) fun x85=>
 wg x85 true (W.faddr 5 x2) L80 fun x86 L88=>
 wg x85 true (wl x86 L88) L88 fun x90 L92=>
 W.grd x85 true (fun k95=>wc (.fn 41 []) [x90] L92 fun x97 L98=>
 k95 x97 L98) L92 fun x94 L96=>
 wg x85 true (W.un .not x94) L96 fun x99 L101=>
 W.pick x85 x99 (.bool false) fun x103=>
 wg x103 false (W.faddr 0 x2) L101 fun x104 L106=>
 wg x103 false (wl x104 L106) L106 fun x108 L110=>
 wg x103 false (wb .neq 3 x108 (.int .i64 5)) L110 fun x112 L114=>
 cj x103 false x112 L114 fun x116 L118=>
 wg x116 true (W.faddr 5 x2) L118 fun x119 L121=>
 wg x116 true (wl x119 L121) L121 fun x123 L125=>
 wg x116 true (wb .neq 9 x123 (.str [])) L125 fun x127 L129=>
 wg x103 false (W.pick x116 x127 (.bool false)) L129 fun x131 L133=>
 W.pick x103 (.bool true) x131 fun x135=>
 wk x135 (
 Q (.bool false) L133) (
 (dP Q L133 x2))
def gp(t0:AV)(L:SH)(Q:R):Prop:=
 xb t0 L fun x2 L3=>
 bo 0 x2 L3 fun x5=>
 wb .lss 3 x5 (.int .i64 1) fun x6=>
 wg x6 false (W.faddr 0 x2) L3 fun x7 L9=>
 wg x6 false (wl x7 L9) L9 fun x11 L13=>
 wg x6 false (wb .gtr 3 x11 (.int .i64 6)) L13 fun x15 L17=>
 W.pick x6 (.bool true) x15 fun x19=>
 wg x19 false (W.faddr 2 x2) L17 fun x20 L22=>
 wg x19 false (wl x20 L22) L22 fun x24 L26=>
 W.grd x19 false (fun k29=>wc (.fn 41 []) [x24] L26 fun x31 L32=>
 k29 x31 L32) L26 fun x28 L30=>
 wg x19 false (W.un .not x28) L30 fun x33 L35=>
 W.pick x19 (.bool true) x33 fun x37=>
 wg x37 false (W.faddr 3 x2) L35 fun x38 L40=>
 wg x37 false (wl x38 L40) L40 fun x42 L44=>
 wg x37 false (wb .lss 3 x42 (.int .i64 0)) L44 fun x46 L48=>
 W.pick x37 (.bool true) x46 fun x50=>
 wg x50 false (W.faddr 0 x2) L48 fun x51 L53=>
 wg x50 false (wl x51 L53) L53 fun x55 L57=>
 wg x50 false (wb .neq 3 x55 (.int .i64 1)) L57 fun x59 L61=>
 cj x50 false x59 L61 fun x63 L65=>
 wg x63 true (W.faddr 3 x2) L65 fun x66 L68=>
 wg x63 true (wl x66 L68) L68 fun x70 L72=>
 wg x63 true (wb .neq 3 x70 (.int .i64 0)) L72 fun x74 L76=>
 wg x50 false (W.pick x63 x74 (.bool false)) L76 fun x78 L80=>
 W.pick x50 (.bool true) x78 fun x82=>
 wk x82 (
 Q (.bool false) L80) (
 (dQ Q L80 x2))
theorem lr(t0:AV)(L:SH)(Q:R)(h:gp t0 L Q):am Try.prog 40 [t0] L Q:=
 bC ⟨fun _=>none,fun _=>[],fun k=>if k=0 then [1]else [],fun _=>[]⟩ Try.func40 (by kernel_rfl) (by kernel_rfl) h
def tC(Q:R)(n5:Kn)(x8 x7 x17:AV)(L18:SH):Prop:=
 W.un .not x17 fun x19=>
 wk x19 (
 Q (.bool false) L18) (
 wb .add 3 x8 (.int .i64 1) fun x20=>
 n5 [x7,x20] L18)
def tD(Q:R)(n40:Kn)(x45 x42 x43 x44 x54:AV)(L55:SH):Prop:=
 W.un .not x54 fun x56=>
 wk x56 (
 Q (.bool false) L55) (
 wb .add 3 x45 (.int .i64 1) fun x57=>
 n40 [x42,x43,x44,x57] L55)
def tE(Q:R)(n22:Kn)(x44 x43 x42 x60:AV)(L61:SH):Prop:=
 W.un .not x60 fun x62=>
 wg x62 false (W.faddr 3 x44) L61 fun x63 L65=>
 wg x62 false (wl x63 L65) L65 fun x67 L69=>
 W.grd x62 false (fun k72=>wc (.fn 42 []) [x67] L69 fun x74 L75=>
 k72 x74 L75) L69 fun x71 L73=>
 wg x62 false (W.un .not x71) L73 fun x76 L78=>
 W.pick x62 (.bool true) x76 fun x80=>
 wk x80 (
 Q (.bool false) L78) (
 wb .add 3 x43 (.int .i64 1) fun x81=>
 n22 [x42,x81] L78)
def jF(Q:R)(n22:Kn)(v39:Vs)(L41:SH)(n40:Kn):Prop:=
 EL 1 4 5 6 v39 fun x42 x43 x44 x45=>
 bo 2 x44 L41 fun x47=>
 W.len x47 fun x48=>
 wb .lss 3 x45 x48 fun x49=>
 wk x49 (
 bo 2 x44 L41 fun x51=>
 Ba 1 x51 x45 L41 fun x53=>
 wc (.fn 41 []) [x53] L41 (tD Q n40 x45 x42 x43 x44)) (
 bo 0 x44 L41 fun x59=>
 wc (.fn 41 []) [x59] L41 (tE Q n22 x44 x43 x42))
def tF(Q:R)(n22:Kn)(L23:SH)(x24 x25:AV):Prop:=
 bo 1 x24 L23 fun x31=>
 ug 4 x31 x25 L23 fun x33=>
 xH [(.str []),(.int .i64 0),.nils,.nils] 4 x33 L23 fun x37 L38=>
 W.loop (jF Q n22) [x24,x25,x37,(.int .i64 0)] L38
def jG(Q:R)(v21:Vs)(L23:SH)(n22:Kn):Prop:=
 EK 1 4 v21 fun x24 x25=>
 bo 1 x24 L23 fun x27=>
 W.len x27 fun x28=>
 wb .lss 3 x25 x28 fun x29=>
 wk x29 (
 (tF Q n22 L23 x24 x25)) (
 bo 1 x24 L23 fun x83=>
 W.len x83 fun x84=>
 wb .gtr 3 x84 (.int .i64 0) fun x85=>
 Q x85 L23)
def jH(Q:R)(v4:Vs)(L6:SH)(n5:Kn):Prop:=
 EK 1 3 v4 fun x7 x8=>
 bo 0 x7 L6 fun x10=>
 W.len x10 fun x11=>
 wb .lss 3 x8 x11 fun x12=>
 wk x12 (
 bo 0 x7 L6 fun x14=>
 ug 6 x14 x8 L6 fun x16=>
 wc (.fn 40 []) [x16] L6 (tC Q n5 x8 x7)) (
 W.loop (jG Q) [x7,(.int .i64 0)] L6)
def kv(t0:AV)(L:SH)(Q:R):Prop:=
 xb t0 L fun x2 L3=>
 W.loop (jH Q) [x2,(.int .i64 0)] L3
theorem tG(t0:AV)(L:SH)(Q:R)(h:kv t0 L Q):am Try.prog 28 [t0] L Q:=
 bC ⟨fun _=>none,fun k=>if k=2 then [1,3]else if k=11 then [1,4,5,6]else if k=7 then [1,4]else [],fun k=>if k=0 then [1]else if k=9 then [5]else [],fun _=>[]⟩ Try.func28 (by kernel_rfl) (by kernel_rfl) h
def eu(Q:R)(v0:Vs)(L2:SH)(n1:Kn):Prop:=
 wu 0 1 5 v0 fun x3 x4 x5=>
 W.len x3 fun x6=>
 wb .lss 3 x5 x6 fun x7=>
 wk x7 (
 Ba 1 x3 x5 L2 fun x9=>
 wb .eql 9 x9 x4 fun x10=>
 wk x10 (
 Q x5 L2) (
 wb .add 3 x5 (.int .i64 1) fun x11=>
 n1 [x3,x4,x11] L2)) (
 Q (.int .i64 (-1)) L2)
def jv(t0 t1:AV)(L:SH)(Q:R):Prop:=
 W.loop (eu Q) [t0,t1,(.int .i64 0)] L
theorem kw(t0 t1:AV)(L:SH)(Q:R)(h:jv t0 t1 L Q):am Try.prog 45 [t0,t1] L Q:=
 bC ⟨fun _=>none,fun k=>if k=2 then [0,1,5]else [],fun _=>[],fun _=>[]⟩ Try.func45 (by kernel_rfl) (by kernel_rfl) h
def jI(Q:R)(v0:Vs)(L2:SH)(n1:Kn):Prop:=
 wu 0 1 5 v0 fun x3 x4 x5=>
 W.len x3 fun x6=>
 wb .lss 3 x5 x6 fun x7=>
 wk x7 (
 gQ 6 2 x3 x5 L2 fun x10=>
 wb .eql 9 x10 x4 fun x11=>
 wk x11 (
 Q x5 L2) (
 wb .add 3 x5 (.int .i64 1) fun x12=>
 n1 [x3,x4,x12] L2)) (
 Q (.int .i64 (-1)) L2)
def ky(t0 t1:AV)(L:SH)(Q:R):Prop:=
 W.loop (jI Q) [t0,t1,(.int .i64 0)] L
theorem tH(t0 t1:AV)(L:SH)(Q:R)(h:ky t0 t1 L Q):am Try.prog 43 [t0,t1] L Q:=
 bC ⟨fun _=>none,fun k=>if k=2 then [0,1,5]else [],fun _=>[],fun _=>[]⟩ Try.func43 (by kernel_rfl) (by kernel_rfl) h
def hJ(Q:R)(v0:Vs)(L2:SH)(n1:Kn):Prop:=
 wu 0 1 5 v0 fun x3 x4 x5=>
 W.len x3 fun x6=>
 wb .lss 3 x5 x6 fun x7=>
 wk x7 (
 gQ 4 0 x3 x5 L2 fun x10=>
 wb .eql 9 x10 x4 fun x11=>
 wk x11 (
 Q x5 L2) (
 wb .add 3 x5 (.int .i64 1) fun x12=>
 n1 [x3,x4,x12] L2)) (
 Q (.int .i64 (-1)) L2)
def iO(t0 t1:AV)(L:SH)(Q:R):Prop:=
 W.loop (hJ Q) [t0,t1,(.int .i64 0)] L
theorem qx(t0 t1:AV)(L:SH)(Q:R)(h:iO t0 t1 L Q):am Try.prog 44 [t0,t1] L Q:=
 bC ⟨fun _=>none,fun k=>if k=2 then [0,1,5]else [],fun _=>[],fun _=>[]⟩ Try.func44 (by kernel_rfl) (by kernel_rfl) h
def tI(Q:R)(x68:AV)(L69:SH):Prop:=
 wb .geq 3 x68 (.int .i64 0) fun x70=>
 wk x70 (
 Q (.int .i64 7) L69) (
 Q (.int .i64 0) L69)
def tJ(Q:R)(v84:Vs)(L86:SH):Prop:=
 wu 3 7 56 v84 fun x87 x88 x89=>
 wk x89 (
 bo 0 x87 L86 fun x91=>
 gQ 6 0 x91 x88 L86 fun x94=>
 Q x94 L86) (
 Q (.int .i64 9) L86)
def tK(j85:Kn)(L64:SH)(x75 x2 x63:AV):Prop:=
 wb .eql 3 x75 (.int .i64 4) fun x96=>
 wk x96 (
 j85 [x2,x63,x96] L64) (
 wb .eql 3 x75 (.int .i64 5) fun x97=>
 wk x97 (
 j85 [x2,x63,x97] L64) (
 wb .eql 3 x75 (.int .i64 6) fun x98=>
 j85 [x2,x63,x98] L64))
def tL(Q:R)(L64:SH)(x75 x2 x63:AV):Prop:=
 wb .eql 3 x75 (.int .i64 2) fun x83=>
 wk x83 (
 Q (.int .i64 1) L64) (
 W.join (tJ Q) fun j85=>
 wb .eql 3 x75 (.int .i64 3) fun x95=>
 wk x95 (
 j85 [x2,x63,x95] L64) (
 (tK j85 L64 x75 x2 x63)))
def tM(Q:R)(L64:SH)(x2 x63:AV):Prop:=
 bo 0 x2 L64 fun x72=>
 gQ 6 0 x72 x63 L64 fun x75=>
 wb .eql 3 x75 (.int .i64 1) fun x76=>
 wk x76 (
 bo 0 x2 L64 fun x78=>
 gQ 6 3 x78 x63 L64 fun x81=>
 wb .neq 3 x81 (.int .i64 0) fun x82=>
 wk x82 (
 Q (.int .i64 2) L64) (
 Q (.int .i64 1) L64)) (
 (tL Q L64 x75 x2 x63))
def tN(Q:R)(t2 x2 x63:AV)(L64:SH):Prop:=
 wb .lss 3 x63 (.int .i64 0) fun x65=>
 wk x65 (
 bo 1 x2 L64 fun x67=>
 wc (.fn 44 []) [x67,t2] L64 (tI Q)) (
 (tM Q L64 x2 x63))
def kz(t0 t1 t2:AV)(L:SH)(Q:R):Prop:=
 xb t0 L fun x2 L3=>
 wb .geq 3 t1 (.int .i64 0) fun x4=>
 cj x4 true t1 L3 fun x5 L7=>
 wg x4 true (W.faddr 1 x2) L7 fun x8 L10=>
 wg x4 true (wl x8 L10) L10 fun x12 L14=>
 wg x4 true (W.len x12) L14 fun x16 L18=>
 wg x4 true (wb .lss 3 x5 x16) L18 fun x20 L22=>
 W.pick x4 x20 (.bool false) fun x24=>
 wg x24 true (W.faddr 1 x2) L22 fun x25 L27=>
 wg x24 true (wl x25 L27) L27 fun x29 L31=>
 cj x24 true t1 L31 fun x33 L35=>
 wg x24 true (W.idx 4 x29 x33 L35) L35 fun x36 L38=>
 wg x24 true (W.faddr 2 x36) L38 fun x40 L42=>
 wg x24 true (wl x40 L42) L42 fun x44 L46=>
 cj x24 true t2 L46 fun x48 L50=>
 W.grd x24 true (fun k52=>wc (.fn 45 []) [x44,x48] L50 fun x54 L55=>
 k52 x54 L55) L50 fun x51 L53=>
 wg x24 true (wb .geq 3 x51 (.int .i64 0)) L53 fun x56 L58=>
 W.pick x24 x56 (.bool false) fun x60=>
 wk x60 (
 Q (.int .i64 8) L58) (
 bo 0 x2 L58 fun x62=>
 wc (.fn 43 []) [x62,t2] L58 (tN Q t2 x2))
theorem tO(t0 t1 t2:AV)(L:SH)(Q:R)(h:kz t0 t1 t2 L Q):am Try.prog 84 [t0,t1,t2] L Q:=
 bC ⟨fun k=>if k=18 then some [3,7,56]else none,fun _=>[],fun k=>if k=0 then [3]else [],fun _=>[]⟩ Try.func84 (by kernel_rfl) (by kernel_rfl) h
def wH(Q:R)(L6:SH)(t3 t4 x5:AV):Prop:=
 wb .neq 3 x5 t3 fun x8=>
 cj x8 true x5 L6 fun x9 L11=>
 cj x8 true t4 L11 fun x12 L14=>
 wg x8 true (wb .neq 3 x9 x12) L14 fun x15 L17=>
 W.pick x8 x15 (.bool false) fun x19=>
 wk x19 (
 Q (.int .i64 6) L17) (
 Q (.int .i64 0) L17)
def wI(Q:R)(t3 t4 x5:AV)(L6:SH):Prop:=
 wb .eql 3 x5 (.int .i64 0) fun x7=>
 wk x7 (
 Q (.int .i64 5) L6) (
 (wH Q L6 t3 t4 x5))
def qy(t0 t1 t2 t3 t4:AV)(L:SH)(Q:R):Prop:=
 xb t0 L fun x2 L3=>
 dy 2 x2 L3 fun x4=>
 wc (.fn 84 []) [x4,t1,t2] L3 (wI Q t3 t4)
theorem wJ(t0 t1 t2 t3 t4:AV)(L:SH)(Q:R)(h:qy t0 t1 t2 t3 t4 L Q):am Try.prog 65 [t0,t1,t2,t3,t4] L Q:=
 bC ⟨fun _=>none,fun _=>[],fun k=>if k=0 then [5]else [],fun _=>[]⟩ Try.func65 (by kernel_rfl) (by kernel_rfl) h
def vi(n5:Kn)(x8 x9 x10 x7 x19:AV)(L20:SH):Prop:=
 W.ext 0 x19 fun x21=>
 W.ext 1 x19 fun x22=>
 wb .add 3 x8 x21 fun x23=>
 W.mnx true x9 x22 fun x24=>
 wb .add 3 x10 (.int .i64 1) fun x25=>
 n5 [x7,x23,x24,x25] L20
def kB(Q:R)(v4:Vs)(L6:SH)(n5:Kn):Prop:=
 EL 1 4 5 6 v4 fun x7 x8 x9 x10=>
 bo 3 x7 L6 fun x12=>
 W.len x12 fun x13=>
 wb .lss 3 x10 x13 fun x14=>
 wk x14 (
 bo 3 x7 L6 fun x16=>
 ug 4 x16 x10 L6 fun x18=>
 wc (.fn 85 []) [x18] L6 (vi n5 x8 x9 x10 x7)) (
 wb .add 3 x9 (.int .i64 1) fun x26=>
 Q (.tup [x8,x26]) L6)
def mG(t0:AV)(L:SH)(Q:R):Prop:=
 xb t0 L fun x2 L3=>
 W.loop (kB Q) [x2,(.int .i64 1),(.int .i64 0),(.int .i64 0)] L3
theorem vj(t0:AV)(L:SH)(Q:R)(h:mG t0 L Q):am Try.prog 85 [t0] L Q:=
 bC ⟨fun _=>none,fun k=>if k=3 then [1,4,5,6]else [],fun k=>if k=0 then [1]else [],fun _=>[]⟩ Try.func85 (by kernel_rfl) (by kernel_rfl) h
def vk(n16:Kn)(L32:SH)(x22 x18 x19 x20 x44:AV)(L46:SH)(q45:Ns):Prop:=
 wn [] q45 [] L32.names fun r47=>
 wb .add 3 x22 (.int .i64 1) fun x48=>
 n16 [x18,x19,x20,x44,x48] L46
def vl(n16:Kn)(L32:SH)(x19 x20 x22 x18:AV):Prop:=
 (true=true)∧(
 dr [] 0 2 x19 L32 fun x35 r36=>
 bx 3 x20 [rm 0 r36] 3 L32 fun x38 r39=>
 di [rm 0 r36] 5 4 x38 x22 L32 fun x40 r41=>
 dr [rm 0 r36] 6 4 x40 L32 fun x42 r43=>
 wd [] 7 (.fn 86 []) [x35,x18,x42] L32 (vk n16 L32 x22 x18 x19 x20))
def gq(Q:R)(v15:Vs)(L17:SH)(n16:Kn):Prop:=
 Ah 1 3 5 7 8 v15 fun x18 x19 x20 x21 x22=>
 bo 3 x20 L17 fun x24=>
 W.len x24 fun x25=>
 wb .lss 3 x22 x25 fun x26=>
 cj x26 true x21 L17 fun x27 L29=>
 wg x26 true (wb .eql 47 x27 (.int .i64 0)) L29 fun x30 L32=>
 W.pick x26 x30 (.bool false) fun x34=>
 wk x34 (
 (vl n16 L32 x19 x20 x22 x18)) (
 Q x21 L32)
def gr(Q:R)(v8:Vs)(L10:SH):Prop:=
 EL 1 3 5 7 v8 fun x11 x12 x13 x14=>
 W.loop (gq Q) [x11,x12,x13,x14,(.int .i64 0)] L10
def vm(j9:Kn)(L7:SH)(t1 x50 x4 x6:AV):Prop:=
 wb .eql 3 x50 (.int .i64 3) fun x57=>
 wk x57 (
 dy 2 x4 L7 fun x58=>
 bo 2 x6 L7 fun x60=>
 wc (.fn 65 []) [x58,t1,x60,(.int .i64 2),(.int .i64 2)] L7 fun x61 L62=>
 j9 [t1,x4,x6,x61] L62) (
 j9 [t1,x4,x6,(.int .i64 0)] L7)
def mH(t0 t1 t2:AV)(L:SH)(Q:R):Prop:=
 W.box t0 L fun x0 L1=>
 W.box t2 L1 fun x2 L3=>
 W.frz1 x0 L3 fun x4 L5=>
 W.frz1 x2 L5 fun x6 L7=>
 W.join (gr Q) fun j9=>
 bo 0 x6 L7 fun x50=>
 wb .eql 3 x50 (.int .i64 2) fun x51=>
 wk x51 (
 dy 2 x4 L7 fun x52=>
 bo 2 x6 L7 fun x54=>
 wc (.fn 65 []) [x52,t1,x54,(.int .i64 8),(.int .i64 1)] L7 fun x55 L56=>
 j9 [t1,x4,x6,x55] L56) (
 (vm j9 L7 t1 x50 x4 x6))
theorem vn(t0 t1 t2:AV)(L:SH)(Q:R)(h:mH t0 t1 t2 L Q):am Try.prog 86 [t0,t1,t2] L Q:=
 bC ⟨fun k=>if k=6 then some [1,3,5,7]else none,fun k=>if k=8 then [1,3,5,7,8]else [],fun k=>if k=0 then [3,5]else [],fun k=>if k=10 then [0,0,0,4,0,28,60,127,255]else []⟩ Try.func86 (by kernel_rfl) (by kernel_rfl) h
def wK(Q:R)(t1 x4 x6 x13:AV)(L14:SH):Prop:=
 W.ext 0 x13 fun x15=>
 W.ext 1 x13 fun x16=>
 wb .gtr 3 x15 (.int .i64 24) fun x17=>
 cj x17 false x16 L14 fun x18 L20=>
 wg x17 false (wb .gtr 3 x18 (.int .i64 6)) L20 fun x21 L23=>
 W.pick x17 (.bool true) x21 fun x25=>
 wk x25 (
 Q (.int .i64 2) L23) (
 dy 2 x4 L23 fun x26=>
 dy 4 x6 L23 fun x27=>
 wc (.fn 86 []) [x26,t1,x27] L23 fun x28 L29=>
 Q x28 L29)
def wL(Q:R)(t1 x6 x4 x9:AV)(L10:SH):Prop:=
 W.un .not x9 fun x11=>
 wk x11 (
 Q (.int .i64 3) L10) (
 dy 4 x6 L10 fun x12=>
 wc (.fn 85 []) [x12] L10 (wK Q t1 x4 x6))
def qz(t0 t1 t2:AV)(L:SH)(Q:R):Prop:=
 W.box t0 L fun x0 L1=>
 W.box t2 L1 fun x2 L3=>
 W.frz1 x0 L3 fun x4 L5=>
 W.frz1 x2 L5 fun x6 L7=>
 dy 4 x6 L7 fun x8=>
 wc (.fn 82 []) [x8] L7 (wL Q t1 x6 x4)
theorem wM(t0 t1 t2:AV)(L:SH)(Q:R)(h:qz t0 t1 t2 L Q):am Try.prog 66 [t0,t1,t2] L Q:=
 bC ⟨fun _=>none,fun _=>[],fun k=>if k=0 then [3,5]else [],fun _=>[]⟩ Try.func66 (by kernel_rfl) (by kernel_rfl) h
def jJ(t0:AV)(L:SH)(Q:R):Prop:=
 wk t0 (
 Q (.int .i64 7) L) (
 Q (.int .i64 0) L)
theorem sf(t0:AV)(L:SH)(Q:R)(h:jJ t0 L Q):am Try.prog 67 [t0] L Q:=
 bC ⟨fun _=>none,fun _=>[],fun _=>[],fun _=>[]⟩ Try.func67 (by kernel_rfl) (by kernel_rfl) h
def vo(t0 t1:AV)(L:SH)(Q:R):Prop:=
 wb .neq 47 t0 (.int .i64 0) fun x0=>
 wk x0 (
 Q t0 L) (
 Q t1 L)
theorem zp(t0 t1:AV)(L:SH)(Q:R)(h:vo t0 t1 L Q):am Try.prog 64 [t0,t1] L Q:=
 bC ⟨fun _=>none,fun _=>[],fun _=>[],fun _=>[]⟩ Try.func64 (by kernel_rfl) (by kernel_rfl) h
def vp(n2:Kn)(L16:SH)(x18 x6 x4 x24:AV)(L26:SH)(q25:Ns):Prop:=
 wn [] q25 [] L16.names fun r27=>
 wb .add 3 x18 x24 fun x28=>
 wb .add 3 x6 (.int .i64 1) fun x29=>
 n2 [x4,x28,x29] L26
def vq(n2:Kn)(L3:SH)(x5 x4 x6:AV)(r13 r10:Fp)(x14:AV)(L16:SH)(q15:Ns):Prop:=
 wn [] q15 [] L3.names fun r17=>
 wb .add 3 x5 x14 fun x18=>
 di [rc 6 r17,rm 5 r13,rm 3 r10] 10 11 x4 x6 L16 fun x19 r20=>
 bx 10 x19 [rc 6 r17,rm 5 r13,rm 3 r10] 12 L16 fun x22 r23=>
 wd [] 13 (.fn 31 []) [x22] L16 (vp n2 L16 x18 x6 x4)
def kC(Q:R)(v1:Vs)(L3:SH)(n2:Kn):Prop:=
 wu 0 3 4 v1 fun x4 x5 x6=>
 W.len x4 fun x7=>
 wb .lss 3 x6 x7 fun x8=>
 wk x8 (
 (true=true)∧(
 di [] 3 11 x4 x6 L3 fun x9 r10=>
 bx 9 x9 [] 5 L3 fun x12 r13=>
 wd [] 6 (.fn 31 []) [x12] L3 (vq n2 L3 x5 x4 x6 r13 r10))) (
 Q x5 L3)
def mI(t0:AV)(L:SH)(Q:R):Prop:=
 W.len t0 fun x0=>
 W.loop (kC Q) [t0,x0,(.int .i64 0)] L
theorem vr(t0:AV)(L:SH)(Q:R)(h:mI t0 L Q):am Try.prog 31 [t0] L Q:=
 bC ⟨fun _=>none,fun k=>if k=3 then [0,3,4]else [],fun _=>[],fun k=>if k=5 then [0,0,0,6,14,30,62,127,0,0,768,1792,3840,8062,16383,32767]else []⟩ Try.func31 (by kernel_rfl) (by kernel_rfl) h
end Go.Proofs.Ytljkdffikfkcgaa.Am
end
section
namespace Go.Proofs.Ytljkdffikfkcgaa.Am
set_option maxRecDepth 100000
set_option linter.unusedVariables false
def ui(c:Int):Bool:=(decide (97≤c)&&decide (c≤122))||(decide (65≤c)&&decide (c≤90))
def Ap(c:Int):Bool:=decide (48≤c)&&decide (c≤57)
def sg(c:Int):Bool:=ui c||Ap c||decide (c=95)
theorem kU(c:Int):aO Try.prog 59 [.int .u8 c] (.bool (ui c)):=by
 refine tw _ _ _ ?_
 unfold kp
 repeat' (first | refine st ?_ | refine sb (fun nb_ hnb_=>?_) | refine s2 (fun h=>?_) (fun h=>?_) | fail)
 all_goals (refine⟨?_,rfl⟩;simp_all[ui]<;>omega)
theorem zq(c:Int):aO Try.prog 81 [.int .u8 c] (.bool (Ap c)):=by
 refine ve _ _ _ ?_
 unfold mD
 repeat' (first | refine st ?_ | refine sb (fun nb_ hnb_=>?_) | refine s2 (fun h=>?_) (fun h=>?_) | fail)
 all_goals (refine⟨?_,rfl⟩;simp_all[Ap]<;>omega)
theorem zr(c:Int):aO Try.prog 61 [.int .u8 c] (.bool (sg c)):=by
 refine vg _ _ _ ?_
 unfold mE
 repeat' (first | refine st ?_ | ((with_reducible refine aq 59 ?_);refine aj (kU _) ?_) | ((with_reducible refine al 59 ?_);refine ab (kU _) ?_) | ((with_reducible refine aq 81 ?_);refine aj (zq _) ?_) | ((with_reducible refine al 81 ?_);refine ab (zq _) ?_) | refine sb (fun nb_ hnb_=>?_) | refine s2 (fun h=>?_) (fun h=>?_) | fail)
 all_goals (refine⟨?_,rfl⟩;simp_all[sg]<;>omega)
def zt:List aL:=[[118,97,114],[118,111,108,97,116,105,108,101],[109,117,116,101,120],[114,119,108,111,99,107],[99,111,110,100],[102,117,116,117,114,101],[116,104,114,101,97,100],[105,102],[101,108,115,101],[119,104,105,108,101],[108,111,99,107],[114,101,97,100],[119,114,105,116,101],[116,114,97,110,115,97,99,116,105,111,110],[97,116,111,109,105,99],[119,97,105,116],[110,111,116,105,102,121],[110,111,116,105,102,121,97,108,108],[115,112,97,119,110],[106,111,105,110],[115,101,116],[103,101,116]]
theorem Bk:aO Try.prog 80 [] (.lst (zt.map az)):=by
 refine am.fz (qt _ _ ?_)
 unfold iM
 repeat' (first | refine st ?_ | refine sb (fun nb_ hnb_=>?_) | refine s2 (fun h=>?_) (fun h=>?_) | fail)
 exact⟨_,[],aV.all (Fz.sls (l:=zt) (f:=az) rp rfl (by decide) rfl),rfl,rfl⟩
def EW(s:aL):Bool:=zt.any fun x=>decide (x=s)
theorem Dr(s:aL):aO Try.prog 60 [.str s] (.bool (EW s)):=by
 refine m0 _ _ _ ?_
 unfold hD
 repeat' (first | refine st ?_ | ((with_reducible refine aq 80 ?_);refine aj (Bk) ?_) | ((with_reducible refine al 80 ?_);refine ab (Bk) ?_) | refine sb (fun nb_ hnb_=>?_) | refine s2 (fun h=>?_) (fun h=>?_) | fail)
 refine cJ zt (fun x=>decide (x=s)) (fun i=>[.str s,.lst (zt.map az),.int .i64 i]) (by decide) rfl (fun i h1 hd hi hno nx hn=>?_) (fun i h1 hd hno nx=>?_)
 all_goals unfold gk
 ·have hx:=aC (f:=az) h1
  repeat' (first | refine st ?_ | refine sb (fun nb_ hnb_=>?_) | refine s2 (fun h=>?_) (fun h=>?_) | fail)
  ·exact⟨by rw[EW,EQ h1 h],rfl⟩
  ·exact hn h
 ·repeat' (first | refine st ?_ | refine sb (fun nb_ hnb_=>?_) | refine s2 (fun h=>?_) (fun h=>?_) | fail)
  exact⟨by rw[EW,GK hno],rfl⟩
def dH(s:aL):Bool:=decide (1≤(s.length:Int))&&decide ((s.length:Int)≤12)&&ui (s.getD 0 0).toNat&&!EW s&&s.all fun c=>sg c.toNat
theorem e9(s:aL)(hs:s.length<2^62):aO Try.prog 41 [.str s] (.bool (dH s)):=by
 refine tB _ _ _ ?_
 unfold kq
 generalize hQ:(fun(u:AV) (K:SH)=>u=AV.bool (dH s)∧K=[])=Q
 have hq:Q (.bool (dH s)) []:=by subst hQ;exact⟨rfl,rfl⟩
 clear hQ
 by_cases h0:0<s.length
 ·have d1:decide ((s.length:Int)<1)=false:=by simpa using(by omega:(1:Int)≤s.length)
  repeat' (first | refine st ?_ | refine FU (i:=0) ?_ h0 | ((with_reducible refine aq 59 ?_);refine aj (kU _) ?_) | ((with_reducible refine al 59 ?_);refine ab (kU _) ?_) | ((with_reducible refine aq 60 ?_);refine aj (Dr _) ?_) | ((with_reducible refine al 60 ?_);refine ab (Dr _) ?_) | refine sb (fun nb_ hnb_=>?_) | refine s2 (fun h=>?_) (fun h=>?_) | fail)
  all_goals first
   | (refine Eq.mp (congrArg (fun b=>Q (AV.bool b) []) ?_) hq;simp_all[dH]<;>omega;done)
   | skip
  refine cJ s (fun c=>!sg c.toNat) (fun i=>[.str s,.int .i64 i]) hs rfl (fun i h1 hd hi hno nx hn=>?_) (fun i h1 hd hno nx=>?_)
  all_goals unfold jE
  ·repeat' (first | refine st ?_ | refine FU ?_ | ((with_reducible refine aq 61 ?_);refine aj (zr _) ?_) | ((with_reducible refine al 61 ?_);refine ab (zr _) ?_) | refine sb (fun nb_ hnb_=>?_) | refine s2 (fun h=>?_) (fun h=>?_) | fail)
   ·refine Eq.mp (congrArg (fun b=>Q (AV.bool b) []) ?_) hq
    have:(s.all fun c=>sg c.toNat)=false:=rT h1 (by simpa[List.getD,h1]using h)
    simp[dH,this]
   ·exact hn (by simpa[List.getD,h1]using h)
  ·repeat' (first | refine st ?_ | refine sb (fun nb_ hnb_=>?_) | refine s2 (fun h=>?_) (fun h=>?_) | fail)
   refine Eq.mp (congrArg (fun b=>Q (AV.bool b) []) ?_) hq
   have:(s.all fun c=>sg c.toNat)=true:=List.all_eq_true.2 fun x hx=>by simpa using hno x hx
   simp_all[dH]<;>omega
 ·have d1:decide ((s.length:Int)<1)=true:=by simpa using(by omega:(s.length:Int)<1)
  repeat' (first | refine st ?_ | refine sb (fun nb_ hnb_=>?_) | refine s2 (fun h=>?_) (fun h=>?_) | fail)
  refine Eq.mp (congrArg (fun b=>Q (AV.bool b) []) ?_) hq
  simp_all[dH]
end Go.Proofs.Ytljkdffikfkcgaa.Am
end
section
namespace Go.Proofs.Ytljkdffikfkcgaa.Am
set_option maxRecDepth 100000
set_option linter.unusedVariables false
def EX(op:Int):Int:=if op=1∨op=2 then 0 else if 3≤op∧op≤5 then 1 else if 6≤op∧op≤18 then 2 else -1
theorem ta(op:Int):aO Try.prog 93 [.int .i64 op] (.int .i64 (EX op)):=by
 refine qw _ _ _ ?_
 unfold iN
 repeat' (first | refine st ?_ | refine sb (fun nb_ hnb_=>?_) | refine s2 (fun h=>?_) (fun h=>?_) | fail)
 all_goals (refine⟨?_,rfl⟩;simp_all[EX]<;>(repeat' split)<;>first | rfl | omega)
def Ds(op n:Int)(name:aL)(k:Nat):Bool:=decide (EX op=(k:Int))&&(decide (op=2∨op=3)==decide (name≠[]))&&(!decide (op=2∨op=3)||dH name)&&decide (0≤n)&&(decide (op=1)||decide (n=0))
mutual
def wx:ac→Bool
 | .mk op n name l=>Ds op n name l.length&&shEs l
def shEs:List ac→Bool
 | []=>true
 | x::l=>wx x&&shEs l
end
theorem Bl:∀l:List ac,shEs l=l.all wx
 | []=>rfl
 | x::l=>by rw[shEs,Bl l];rfl
theorem Aq(x:ac):wx x=(Ds x.op x.n x.name x.l.length&&x.l.all wx):=by cases x;rw[wx,Bl];rfl
theorem iu:∀(k:Nat) (x:ac),x.wt≤k→k<2^40→aO Try.prog 82 [.agg x.row] (.bool (wx x)):=by
 intro k
 induction k with
 | zero=>intro x h;have:=x.wt_eq;omega
 | succ k ih=>
  intro x hk hb
  have hw:=x.wt_eq
  have hnm:=e9 x.name (by omega)
  refine lm _ _ _ ?_
  unfold gl
  generalize hQ:(fun(u:AV) (K:SH)=>u=AV.bool (wx x)∧K=[])=Q
  have hq:Q (.bool (wx x)) []:=by subst hQ;exact⟨rfl,rfl⟩
  clear hQ
  repeat' (first | refine st ?_ | ((with_reducible refine aq 93 ?_);refine aj (ta _) ?_) | ((with_reducible refine al 93 ?_);refine ab (ta _) ?_) | ((with_reducible refine aq 41 ?_);refine aj (hnm) ?_) | ((with_reducible refine al 41 ?_);refine ab (hnm) ?_) | refine sb (fun nb_ hnb_=>?_) | refine s2 (fun h=>?_) (fun h=>?_) | fail)
  all_goals first
   | (refine Eq.mp (congrArg (fun b=>Q (AV.bool b) []) ?_) hq;rw[Aq];simp_all[Ds]<;>omega;done)
   | skip
  all_goals
   refine cJ x.l (fun y=>!wx y) (fun i=>[.pptr [x.row] 0 0,.int .i64 i]) (by have:=x.len;omega) rfl (fun i h1 hd hi hno nx hn=>?_) (fun i h1 hd hno nx=>?_)
   all_goals unfold fH
   ·have hx:=zh h1
    have hc:=ih x.l[i] (by have:=x.kid h1;omega) (by omega)
    repeat' (first | refine st ?_ | ((with_reducible refine aq 82 ?_);refine aj (hc) ?_) | ((with_reducible refine al 82 ?_);refine ab (hc) ?_) | refine sb (fun nb_ hnb_=>?_) | refine s2 (fun h=>?_) (fun h=>?_) | fail)
    ·refine Eq.mp (congrArg (fun b=>Q (AV.bool b) []) ?_) hq
     have:x.l.all wx=false:=rT h1 (by simpa using h)
     simp[Aq,this]
    ·exact hn h
   ·repeat' (first | refine st ?_ | refine sb (fun nb_ hnb_=>?_) | refine s2 (fun h=>?_) (fun h=>?_) | fail)
    refine Eq.mp (congrArg (fun b=>Q (AV.bool b) []) ?_) hq
    have:x.l.all wx=true:=List.all_eq_true.2 fun y hy=>by simpa using hno y hy
    rw[Aq]
    simp_all[Ds]<;>omega
end Go.Proofs.Ytljkdffikfkcgaa.Am
end
section
namespace Go.Proofs.Ytljkdffikfkcgaa.Am
set_option maxRecDepth 100000
set_option linter.unusedVariables false
def xS(e:ac):Bool:=decide (e.op=0)&&decide (e.n=0)&&decide (e.name=[])&&decide (e.l.length=0)
theorem Dt(x:ac):aO Try.prog 83 [.agg x.row] (.bool (xS x)):=by
 refine vh _ _ _ ?_
 unfold mF
 repeat' (first | refine st ?_ | refine sb (fun nb_ hnb_=>?_) | refine s2 (fun h=>?_) (fun h=>?_) | fail)
 all_goals (refine⟨?_,rfl⟩;simp_all[xS]<;>omega)
def I0(op:Int):Bool:=decide (op<1)||decide (15<op)
def Jh(op:Int):Bool:=decide (op=2)||decide (op=3)||decide (op=7)||decide (op=8)
def I1(op:Int)(name:aL):Bool:=(Jh op&&decide (name≠[]))||(!Jh op&&!dH name)
def Iy(op:Int)(arg:aL):Bool:=(decide (op=15)&&!dH arg)||(decide (op≠15)&&decide (arg≠[]))
def FV(op:Int)(index:List ac):Bool:=decide (1<(index.length:Int))||(decide (op≠1)&&decide (0<(index.length:Int)))||(decide ((index.length:Int)=1)&&!index.all wx)
def Ji(op:Int):Bool:=decide (op=1)||decide (op=2)||decide (op=3)||decide (op=14)
def GS(op:Int)(e:ac):Bool:=(Ji op&&!wx e)||(!Ji op&&!xS e)
def EY(op:Int)(nb ne:Nat):Bool:=(!(decide (2≤op)&&decide (op≤8))&&decide (0<(nb:Int)))||(decide (op≠2)&&decide (0<(ne:Int)))
def EZ(op:Int)(name arg:aL)(index:List ac)(e:ac)(nb ne:Nat):Bool:=!I0 op&&(!I1 op name&&(!Iy op arg&&(!FV op index&&(!GS op e&&!EY op nb ne))))
mutual
def gO:aa→Bool
 | .mk op _ name arg index e body els=>EZ op name arg index e body.length els.length&&shSs body&&shSs els
def shSs:List aa→Bool
 | []=>true
 | x::l=>gO x&&shSs l
end
theorem uj:∀l:List aa,shSs l=l.all gO
 | []=>rfl
 | x::l=>by rw[shSs,uj l];rfl
theorem GT(x:aa):gO x=(EZ x.op x.name x.arg x.index x.expr x.body.length x.els.length&&x.body.all gO&&x.els.all gO):=by cases x;rw[gO,uj,uj];rfl
theorem gu(l:List aa)(hl:l.length<2^40)(h:∀i (hi:i<l.length),aO Try.prog 62 [.agg l[i].row] (.bool (gO l[i]))):aO Try.prog 42 [.lst (l.map aa.enc)] (.bool (l.all gO)):=by
 refine ku _ _ _ ?_
 unfold fI
 refine cJ l (fun y=>!gO y) (fun i=>[.lst (l.map aa.enc),.int .i64 i]) (by omega) rfl (fun i h1 hd hi hno nx hn=>?_) (fun i h1 hd hno nx=>?_)
 all_goals unfold fp
 ·have hx:=xd h1
  have hc:=h i h1
  repeat' (first | refine st ?_ | ((with_reducible refine aq 62 ?_);refine aj (hc) ?_) | ((with_reducible refine al 62 ?_);refine ab (hc) ?_) | refine sb (fun nb_ hnb_=>?_) | refine s2 (fun h=>?_) (fun h=>?_) | fail)
  ·exact⟨by rw[rT h1 (by simpa using h)],rfl⟩
  ·exact hn h
 ·repeat' (first | refine st ?_ | refine sb (fun nb_ hnb_=>?_) | refine s2 (fun h=>?_) (fun h=>?_) | fail)
  exact⟨by rw[List.all_eq_true.2 fun y hy=>by simpa using hno y hy],rfl⟩
section
variable (op line:Int) (name arg:aL) (index:List ac) (e:ac) (body els:List aa) (Q:R)
abbrev Iz:AV:=(.pptr [[.int .i64 op,.int .i64 line,.str name,.str arg,.lst (index.map ac.enc),.int .i64 e.op,.int .i64 e.n,.str e.name,.lst (e.l.map ac.enc),.lst (body.map aa.enc),.lst (els.map aa.enc)]] 0 0)
theorem IA(hb:aO Try.prog 42 [.lst (body.map aa.enc)] (.bool (body.all gO)))(he:aO Try.prog 42 [.lst (els.map aa.enc)] (.bool (els.all gO)))
  (hq:Q (.bool (!EY op body.length els.length&&(body.all gO&&els.all gO))) []):dK Q [] (Iz op line name arg index e body els):=by
 unfold dK
 generalize hB:body.all gO=B at *
 generalize hE:els.all gO=E at *
 repeat' (first | refine st ?_ | ((with_reducible refine aq 42 ?_);refine aj (hb) ?_) | ((with_reducible refine al 42 ?_);refine ab (hb) ?_) | ((with_reducible refine aq 42 ?_);refine aj (he) ?_) | ((with_reducible refine al 42 ?_);refine ab (he) ?_) | refine sb (fun nb_ hnb_=>?_) | refine s2 (fun h=>?_) (fun h=>?_) | fail)
 all_goals
  refine Eq.mp (congrArg (fun b=>Q (AV.bool b) []) ?_) hq
  simp_all only[EY,Bool.not_true,Bool.not_false,Bool.true_and,Bool.false_and,Bool.and_true,Bool.and_false,Bool.or_true,Bool.or_false,Bool.true_or,Bool.false_or]
theorem IB(hb:aO Try.prog 42 [.lst (body.map aa.enc)] (.bool (body.all gO)))(he:aO Try.prog 42 [.lst (els.map aa.enc)] (.bool (els.all gO)))
  (hx:e.wt<2^40) (hq:Q (.bool (!GS op e&&(!EY op body.length els.length&&(body.all gO&&els.all gO)))) []):dL Q [] (Iz op line name arg index e body els):=by
 have h1:=iu _ e (Nat.le_refl _) hx
 have h2:=Dt e
 unfold ac.row at h1 h2
 have hz:=IA op line name arg index e body els Q hb he
 unfold dL
 unfold GS at hq
 generalize wx e=A at *
 generalize xS e=B at *
 repeat' (first | with_reducible refine hz ?_ | refine st ?_ | ((with_reducible refine aq 82 ?_);refine aj (h1) ?_) | ((with_reducible refine al 82 ?_);refine ab (h1) ?_) | ((with_reducible refine aq 83 ?_);refine aj (h2) ?_) | ((with_reducible refine al 83 ?_);refine ab (h2) ?_) | refine sb (fun nb_ hnb_=>?_) | refine s2 (fun h=>?_) (fun h=>?_) | fail)
 all_goals
  refine Eq.mp (congrArg (fun b=>Q (AV.bool b) []) ?_) hq
  simp_all[Ji]
theorem IC(hb:aO Try.prog 42 [.lst (body.map aa.enc)] (.bool (body.all gO)))(he:aO Try.prog 42 [.lst (els.map aa.enc)] (.bool (els.all gO)))
  (hx:e.wt<2^40) (hi:ac.wts index<2^40) (hq:Q (.bool (!FV op index&&(!GS op e&&(!EY op body.length els.length&&(body.all gO&&els.all gO))))) []):dM Q [] (Iz op line name arg index e body els):=by
 have hz:=IB op line name arg index e body els Q hb he hx
 unfold dM
 by_cases hn:index.length=1
 ·obtain⟨i,rfl⟩:=List.length_eq_one_iff.1 hn
  have h1:=iu _ i (Nat.le_refl _) (by simp only[ac.wts]at hi;omega)
  unfold ac.row at h1
  have hx0:=zh (l:=[i]) (i:=0) (by simp)
  have e1:[i].all wx=wx i:=by simp
  unfold FV at hq
  rw[e1]at hq
  generalize wx i=A at *
  repeat' (first | with_reducible refine hz ?_ | refine st ?_ | ((with_reducible refine aq 82 ?_);refine aj (h1) ?_) | ((with_reducible refine al 82 ?_);refine ab (h1) ?_) | refine sb (fun nb_ hnb_=>?_) | refine s2 (fun h=>?_) (fun h=>?_) | fail)
  all_goals
   refine Eq.mp (congrArg (fun b=>Q (AV.bool b) []) ?_) hq
   simp_all
 ·have d1:decide ((index.length:Int)=1)=false:=by simpa using(by omega:¬(index.length:Int)=1)
  repeat' (first | with_reducible refine hz ?_ | refine st ?_ | refine sb (fun nb_ hnb_=>?_) | refine s2 (fun h=>?_) (fun h=>?_) | fail)
  all_goals
   refine Eq.mp (congrArg (fun b=>Q (AV.bool b) []) ?_) hq
   simp_all only[FV,Bool.not_true,Bool.not_false,Bool.true_and,Bool.false_and,Bool.and_true,Bool.and_false,Bool.or_true,Bool.or_false,Bool.true_or,Bool.false_or]
theorem ID(hb:aO Try.prog 42 [.lst (body.map aa.enc)] (.bool (body.all gO)))(he:aO Try.prog 42 [.lst (els.map aa.enc)] (.bool (els.all gO)))
  (hx:e.wt<2^40) (hi:ac.wts index<2^40) (ha:arg.length<2^40) (hq:Q (.bool (!Iy op arg&&(!FV op index&&(!GS op e&&(!EY op body.length els.length&&(body.all gO&&els.all gO)))))) []):dN Q [] (Iz op line name arg index e body els):=by
 have hz:=IC op line name arg index e body els Q hb he hx hi
 have h1:=e9 arg (by omega)
 unfold dN
 unfold Iy at hq
 generalize dH arg=A at *
 repeat' (first | with_reducible refine hz ?_ | refine st ?_ | ((with_reducible refine aq 41 ?_);refine aj (h1) ?_) | ((with_reducible refine al 41 ?_);refine ab (h1) ?_) | refine sb (fun nb_ hnb_=>?_) | refine s2 (fun h=>?_) (fun h=>?_) | fail)
 all_goals
  refine Eq.mp (congrArg (fun b=>Q (AV.bool b) []) ?_) hq
  simp_all
theorem IE(hb:aO Try.prog 42 [.lst (body.map aa.enc)] (.bool (body.all gO)))(he:aO Try.prog 42 [.lst (els.map aa.enc)] (.bool (els.all gO)))
  (hx:e.wt<2^40) (hi:ac.wts index<2^40) (ha:arg.length<2^40) (hm:name.length<2^40) (hq:Q (.bool (!I1 op name&&(!Iy op arg&&(!FV op index&&(!GS op e&&(!EY op body.length els.length&&(body.all gO&&els.all gO))))))) []):dO Q [] (Iz op line name arg index e body els):=by
 have hz:=ID op line name arg index e body els Q hb he hx hi ha
 have h1:=e9 name (by omega)
 unfold dO
 unfold I1 at hq
 generalize dH name=A at *
 repeat' (first | with_reducible refine hz ?_ | refine st ?_ | ((with_reducible refine aq 41 ?_);refine aj (h1) ?_) | ((with_reducible refine al 41 ?_);refine ab (h1) ?_) | refine sb (fun nb_ hnb_=>?_) | refine s2 (fun h=>?_) (fun h=>?_) | fail)
 all_goals
  refine Eq.mp (congrArg (fun b=>Q (AV.bool b) []) ?_) hq
  simp_all[Jh]
end
theorem tP(x:aa)(hw:x.wt<2^40)
  (hb:aO Try.prog 42 [.lst (x.body.map aa.enc)] (.bool (x.body.all gO))) (he:aO Try.prog 42 [.lst (x.els.map aa.enc)] (.bool (x.els.all gO))) :
  aO Try.prog 62 [.agg x.row] (.bool (gO x)):=by
 have hwe:=x.wt_eq
 refine lq _ _ _ ?_
 unfold gm
 have e1:gO x=(!I0 x.op&&(!I1 x.op x.name&&(!Iy x.op x.arg&&(!FV x.op x.index&&(!GS x.op x.expr&&(!EY x.op x.body.length x.els.length&&(x.body.all gO&&x.els.all gO))))))):=by
  rw[GT,EZ];simp only[Bool.and_assoc]
 generalize hQ:(fun(u:AV) (K:SH)=>u=AV.bool (gO x)∧K=[])=Q
 have hq:Q (.bool (gO x)) []:=by subst hQ;exact⟨rfl,rfl⟩
 clear hQ
 rw[e1]at hq
 clear e1
 have hz:=IE x.op x.line x.name x.arg x.index x.expr x.body x.els Q hb he (by omega) (by omega) (by omega) (by omega)
 unfold aa.row
 repeat' (first | with_reducible refine hz ?_ | refine st ?_ | refine sb (fun nb_ hnb_=>?_) | refine s2 (fun h=>?_) (fun h=>?_) | fail)
 all_goals
  refine Eq.mp (congrArg (fun b=>Q (AV.bool b) []) ?_) hq
  simp_all only[I0,Bool.not_true,Bool.not_false,Bool.true_and,Bool.false_and,Bool.and_true,Bool.and_false,Bool.or_true,Bool.or_false,Bool.true_or,Bool.false_or]
theorem wN:∀(k:Nat) (x:aa),x.wt≤k→k<2^40→aO Try.prog 62 [.agg x.row] (.bool (gO x)):=by
 intro k
 induction k with
 | zero=>intro x h;have:=x.wt_eq;omega
 | succ k ih=>
  intro x hk hb
  have hw:=x.wt_eq
  have h1:=aa.wts_len x.body
  have h2:=aa.wts_len x.els
  refine tP x (by omega) (gu _ (by omega) fun i hi=>ih _ (by have:=aa.wts_get _ i hi;omega) (by omega)) (gu _ (by omega) fun i hi=>ih _ (by have:=aa.wts_get _ i hi;omega) (by omega))
theorem vt(l:List aa)(hl:aa.wts l<2^40):aO Try.prog 42 [.lst (l.map aa.enc)] (.bool (l.all gO)):=
 gu l (by have:=aa.wts_len l;omega) fun i hi=>wN _ _ (Nat.le_refl _) (by have:=aa.wts_get l i hi;omega)
end Go.Proofs.Ytljkdffikfkcgaa.Am
end
section
namespace Go.Proofs.Ytljkdffikfkcgaa.Am
set_option maxRecDepth 100000
set_option linter.unusedVariables false
theorem fU{a b:Nat}(h:a+b<2^62):IntKind.i64.wrap ((a:Int)+(b:Int))=((a+b:Nat):Int):=by rw[IntWalk.i64_in _ (by omega)];omega
def Jj(d:av):Bool:=decide (d.kind<1)||decide (6<d.kind)||!dH d.name||decide (d.size<0)||(decide (d.kind≠1)&&decide (d.size≠0))
def Jk(d:av):Bool:=(decide (d.kind=5)&&!dH d.on)||(decide (d.kind≠5)&&decide (d.on≠[]))
def I2(d:av):Bool:=decide (-9223372036854775808<d.init)&&(decide (d.init=0)||decide (d.kind=1)||decide (d.kind=2))
def FW(d:av):Bool:=!Jj d&&(!Jk d&&I2 d)
theorem wO(d:av)(hw:d.wt<2^40):aO Try.prog 40 [.agg d.enc] (.bool (FW d)):=by
 have h1:=e9 d.name (by unfold av.wt at hw;omega)
 have h2:=e9 d.on (by unfold av.wt at hw;omega)
 have z0:∀Q:R,Q (.bool (I2 d)) []→dP Q [] (.pptr [d.enc] 0 0):=fun Q hq=>by
  unfold dP
  repeat' (first | refine st ?_ | refine sb (fun nb_ hnb_=>?_) | refine s2 (fun h=>?_) (fun h=>?_) | fail)
  all_goals
   refine Eq.mp (congrArg (fun b=>Q (AV.bool b) []) ?_) hq
   simp_all only[I2,Bool.not_true,Bool.not_false,Bool.true_and,Bool.false_and,Bool.and_true,Bool.and_false,Bool.or_true,Bool.or_false,Bool.true_or,Bool.false_or]
 have z1:∀Q:R,Q (.bool (!Jk d&&I2 d)) []→dQ Q [] (.pptr [d.enc] 0 0):=fun Q hq=>by
  have hz:=z0 Q
  unfold dQ
  unfold Jk at hq
  clear z0
  generalize dH d.on=A at *
  repeat' (first | with_reducible refine hz ?_ | refine st ?_ | ((with_reducible refine aq 41 ?_);refine aj (h2) ?_) | ((with_reducible refine al 41 ?_);refine ab (h2) ?_) | refine sb (fun nb_ hnb_=>?_) | refine s2 (fun h=>?_) (fun h=>?_) | fail)
  all_goals
   refine Eq.mp (congrArg (fun b=>Q (AV.bool b) []) ?_) hq
   simp_all
 refine lr _ _ _ ?_
 unfold gp
 generalize hQ:(fun(u:AV) (K:SH)=>u=AV.bool (FW d)∧K=[])=Q
 have hq:Q (.bool (FW d)) []:=by subst hQ;exact⟨rfl,rfl⟩
 clear hQ
 have hz:=z1 Q
 unfold FW Jj at hq
 clear z0 z1
 generalize dH d.name=A at *
 repeat' (first | with_reducible refine hz ?_ | refine st ?_ | ((with_reducible refine aq 41 ?_);refine aj (h1) ?_) | ((with_reducible refine al 41 ?_);refine ab (h1) ?_) | refine sb (fun nb_ hnb_=>?_) | refine s2 (fun h=>?_) (fun h=>?_) | fail)
 all_goals
  refine Eq.mp (congrArg (fun b=>Q (AV.bool b) []) ?_) hq
  simp_all
def E0(t:ai):Bool:=t.locals.all dH&&(dH t.name&&t.body.all gO)
def Du(p:aK):Bool:=p.decls.all FW&&(p.threads.all E0&&decide (0<(p.threads.length:Int)))
theorem av.wt_pos(d:av):1≤d.wt:=by unfold av.wt;omega
theorem ai.wt_pos(d:ai):1≤d.wt:=by unfold ai.wt;omega
theorem ai.local_len(t:ai){i:Nat}(h:i<t.locals.length):t.locals[i].length<t.wt:=by have:=uh (f:=List.length) t.locals i h;unfold ai.wt;omega
theorem aK.decl_wt(p:aK){i:Nat}(h:i<p.decls.length):p.decls[i].wt≤p.wt:=by have:=uh (f:=av.wt) p.decls i h;unfold aK.wt;omega
theorem aK.thread_wt(p:aK){i:Nat}(h:i<p.threads.length):p.threads[i].wt≤p.wt:=by have:=uh (f:=ai.wt) p.threads i h;unfold aK.wt;omega
theorem aK.decls_len(p:aK):p.decls.length≤p.wt:=by have:=xM av.wt_pos p.decls;unfold aK.wt;omega
theorem aK.threads_len(p:aK):p.threads.length≤p.wt:=by have:=xM ai.wt_pos p.threads;unfold aK.wt;omega
theorem BX(p:aK)(hw:p.wt<2^40):aO Try.prog 28 [.agg p.enc] (.bool (Du p)):=by
 have hl1:=p.decls_len
 have hl2:=p.threads_len
 refine tG _ _ _ ?_
 unfold kv
 generalize hQ:(fun(u:AV) (K:SH)=>u=AV.bool (Du p)∧K=[])=Q
 have hq:Q (.bool (Du p)) []:=by subst hQ;exact⟨rfl,rfl⟩
 clear hQ
 repeat' (first | refine st ?_ | refine sb (fun nb_ hnb_=>?_) | refine s2 (fun h=>?_) (fun h=>?_) | fail)
 refine cJ p.decls (fun y=>!FW y) (fun i=>[.pptr [p.enc] 0 0,.int .i64 i]) (by omega) rfl (fun i h1 hd hi hno nx hn=>?_) (fun i h1 hd hno nx=>?_)
 all_goals unfold jH
 ·have hx:=aC (f:=av.enc) h1
  have hc:=wO p.decls[i] (by have:=p.decl_wt h1;omega)
  repeat' (first | refine st ?_ | ((with_reducible refine aq 40 ?_);refine aj (hc) ?_) | ((with_reducible refine al 40 ?_);refine ab (hc) ?_) | refine sb (fun nb_ hnb_=>?_) | refine s2 (fun h=>?_) (fun h=>?_) | fail)
  ·refine Eq.mp (congrArg (fun b=>Q (AV.bool b) []) ?_) hq
   rw[Du,rT h1 (by simpa using h),Bool.false_and]
  ·exact hn h
 ·repeat' (first | refine st ?_ | refine sb (fun nb_ hnb_=>?_) | refine s2 (fun h=>?_) (fun h=>?_) | fail)
  have e1:p.decls.all FW=true:=List.all_eq_true.2 fun y hy=>by simpa using hno y hy
  unfold Du at hq
  rw[e1,Bool.true_and]at hq
  clear hno
  refine cJ p.threads (fun y=>!E0 y) (fun i=>[.pptr [p.enc] 0 0,.int .i64 i]) (by omega) rfl (fun i h1 hd hi hno nx hn=>?_) (fun i h1 hd hno nx=>?_)
  all_goals unfold jG
  ·have hx:=aC (f:=ai.enc) h1
   have hwt:=p.thread_wt h1
   have hloc:=fun j (hj:j<(p.threads[i]).locals.length)=>(p.threads[i]).local_len hj
   have hll:(p.threads[i]).locals.length<2^40:=by have:(p.threads[i]).locals.length≤(p.threads[i]).wt:=(by unfold ai.wt;omega);omega
   have hnm:=e9 (p.threads[i]).name (by have:(p.threads[i]).name.length<(p.threads[i]).wt:=(by unfold ai.wt;omega);omega)
   have hbd:=vt (p.threads[i]).body (by have:aa.wts (p.threads[i]).body<(p.threads[i]).wt:=(by unfold ai.wt;omega);omega)
   have hfa:E0 p.threads[i]=false→p.threads.all E0=false:=rT h1
   generalize p.threads[i]=t at *
   repeat' (first | refine st ?_ | refine sb (fun nb_ hnb_=>?_) | refine s2 (fun h=>?_) (fun h=>?_) | fail)
   refine cJ t.locals (fun y=>!dH y) (fun j=>[.pptr [p.enc] 0 0,.int .i64 i,.pptr [t.enc] 0 0,.int .i64 j]) (by omega) rfl (fun j h1 hd hi2 hno2 nx2 hn2=>?_) (fun j h1 hd hno2 nx2=>?_)
   all_goals unfold jF
   ·have hx2:=aC (f:=az) h1
    have hc:=e9 t.locals[j] (by have:=hloc j h1;omega)
    repeat' (first | refine st ?_ | ((with_reducible refine aq 41 ?_);refine aj (hc) ?_) | ((with_reducible refine al 41 ?_);refine ab (hc) ?_) | refine sb (fun nb_ hnb_=>?_) | refine s2 (fun h=>?_) (fun h=>?_) | fail)
    ·refine Eq.mp (congrArg (fun b=>Q (AV.bool b) []) ?_) hq
     rw[hfa (by rw[E0,rT h1 (by simpa using h),Bool.false_and]),Bool.false_and]
    ·exact hn2 h
   ·have e2:t.locals.all dH=true:=List.all_eq_true.2 fun y hy=>by simpa using hno2 y hy
    have e3:E0 t=(dH t.name&&t.body.all gO):=by rw[E0,e2,Bool.true_and]
    rw[e3]at hfa hn
    clear e3
    generalize dH t.name=A at *
    generalize t.body.all gO=B at *
    repeat' (first | refine st ?_ | ((with_reducible refine aq 41 ?_);refine aj (hnm) ?_) | ((with_reducible refine al 41 ?_);refine ab (hnm) ?_) | ((with_reducible refine aq 42 ?_);refine aj (hbd) ?_) | ((with_reducible refine al 42 ?_);refine ab (hbd) ?_) | refine sb (fun nb_ hnb_=>?_) | refine s2 (fun h=>?_) (fun h=>?_) | fail)
    all_goals first
     | exact hn (by simp_all)
     | (refine Eq.mp (congrArg (fun b=>Q (AV.bool b) []) ?_) hq;rw[hfa (by simp_all),Bool.false_and])
  ·repeat' (first | refine st ?_ | refine sb (fun nb_ hnb_=>?_) | refine s2 (fun h=>?_) (fun h=>?_) | fail)
   have e2:p.threads.all E0=true:=List.all_eq_true.2 fun y hy=>by simpa using hno y hy
   rw[e2,Bool.true_and]at hq
   exact hq
def fJ(l:List aL)(s:aL):Int:=gg (fun x=>decide (x=s)) l 0
def bU(l:List av)(s:aL):Int:=gg (fun x=>decide (x.name=s)) l 0
def cx(l:List ai)(s:aL):Int:=gg (fun x=>decide (x.name=s)) l 0
theorem fK(l:List aL)(s:aL)(hl:l.length<2^62):aO Try.prog 45 [.lst (l.map az),.str s] (.int .i64 (fJ l s)):=by
 refine kw _ _ _ _ ?_
 unfold jv
 refine cJ l (fun x=>decide (x=s)) (fun i=>[.lst (l.map az),.str s,.int .i64 i]) hl rfl (fun i h1 hd hi hno nx hn=>?_) (fun i h1 hd hno nx=>?_)
 all_goals unfold eu
 ·have hx:=aC (f:=az) h1
  repeat' (first | refine st ?_ | refine sb (fun nb_ hnb_=>?_) | refine s2 (fun h=>?_) (fun h=>?_) | fail)
  ·exact⟨by rw[fJ,gh h1 hno h],rfl⟩
  ·exact hn h
 ·repeat' (first | refine st ?_ | refine sb (fun nb_ hnb_=>?_) | refine s2 (fun h=>?_) (fun h=>?_) | fail)
  exact⟨by rw[fJ,eq hno],rfl⟩
theorem fX(l:List av)(s:aL)(hl:l.length<2^62):aO Try.prog 43 [.lst (l.map av.enc),.str s] (.int .i64 (bU l s)):=by
 refine tH _ _ _ _ ?_
 unfold ky
 refine cJ l (fun x=>decide (x.name=s)) (fun i=>[.lst (l.map av.enc),.str s,.int .i64 i]) hl rfl (fun i h1 hd hi hno nx hn=>?_) (fun i h1 hd hno nx=>?_)
 all_goals unfold jI
 ·have hx:=aC (f:=av.enc) h1
  repeat' (first | refine st ?_ | refine sb (fun nb_ hnb_=>?_) | refine s2 (fun h=>?_) (fun h=>?_) | fail)
  ·exact⟨by rw[bU,gh h1 hno h],rfl⟩
  ·exact hn h
 ·repeat' (first | refine st ?_ | refine sb (fun nb_ hnb_=>?_) | refine s2 (fun h=>?_) (fun h=>?_) | fail)
  exact⟨by rw[bU,eq hno],rfl⟩
theorem hM(l:List ai)(s:aL)(hl:l.length<2^62):aO Try.prog 44 [.lst (l.map ai.enc),.str s] (.int .i64 (cx l s)):=by
 refine qx _ _ _ _ ?_
 unfold iO
 refine cJ l (fun x=>decide (x.name=s)) (fun i=>[.lst (l.map ai.enc),.str s,.int .i64 i]) hl rfl (fun i h1 hd hi hno nx hn=>?_) (fun i h1 hd hno nx=>?_)
 all_goals unfold hJ
 ·have hx:=aC (f:=ai.enc) h1
  repeat' (first | refine st ?_ | refine sb (fun nb_ hnb_=>?_) | refine s2 (fun h=>?_) (fun h=>?_) | fail)
  ·exact⟨by rw[cx,gh h1 hno h],rfl⟩
  ·exact hn h
 ·repeat' (first | refine st ?_ | refine sb (fun nb_ hnb_=>?_) | refine s2 (fun h=>?_) (fun h=>?_) | fail)
  exact⟨by rw[cx,eq hno],rfl⟩
def IF(b:Bool):Int:=if b then 7 else 0
theorem aB(b:Bool):aO Try.prog 67 [.bool b] (.int .i64 (IF b)):=by
 refine sf _ _ _ ?_
 unfold jJ
 cases b
 all_goals
  repeat' (first | refine st ?_ | refine sb (fun nb_ hnb_=>?_) | refine s2 (fun h=>?_) (fun h=>?_) | fail)
  exact⟨rfl,rfl⟩
def I3(a b:Int):Int:=if a≠0 then a else b
theorem bO(a b:Int):aO Try.prog 64 [.int .i64 a,.int .i64 b] (.int .i64 (I3 a b)):=by
 refine zp _ _ _ _ ?_
 unfold vo
 repeat' (first | refine st ?_ | refine sb (fun nb_ hnb_=>?_) | refine s2 (fun h=>?_) (fun h=>?_) | fail)
 all_goals (refine⟨?_,rfl⟩;simp_all[I3])
mutual
def aa.cnt:aa→Nat
 | .mk _ _ _ _ _ _ body els=>aa.cnts body+aa.cnts els
def aa.cnts:List aa→Nat
 | []=>0
 | x::l=>1+x.cnt+aa.cnts l
end
theorem aa.cnt_eq(x:aa):x.cnt=aa.cnts x.body+aa.cnts x.els:=by cases x;rfl
theorem aa.cnts_eq:∀l:List aa,aa.cnts l=l.length+(l.map aa.cnt).sum
 | []=>rfl
 | x::l=>by rw[aa.cnts,aa.cnts_eq l];simp;omega
mutual
theorem aa.cnt_wt:∀x:aa,x.cnt<x.wt
 | .mk a b c d e f body els=>by have:=aa.cnts_wt body;have:=aa.cnts_wt els;simp only[aa.cnt,aa.wt];omega
theorem aa.cnts_wt:∀l:List aa,aa.cnts l≤aa.wts l
 | []=>Nat.le_refl _
 | x::l=>by have:=aa.cnt_wt x;have:=aa.cnts_wt l;simp only[aa.cnts,aa.wts];omega
end
theorem kD{α:Type}{f:α→Nat}:∀(l:List α) (i:Nat) (h:i<l.length),((l.take i).map f).sum+f l[i]≤(l.map f).sum
 | x::l,0,_=>by simp
 | x::l,i+1,h=>by have:=kD (f:=f) l i (by simpa using h);simp only[List.getElem_cons_succ,List.take_succ_cons,List.map_cons,List.sum_cons];omega
theorem iv{α:Type}{f:α→Nat}{l:List α}{i:Nat}(h:i<l.length):((l.take (i+1)).map f).sum=((l.take i).map f).sum+f l[i]:=by
 rw[List.take_succ_eq_append_getElem h,List.map_append,List.sum_append];simp
theorem Dv:∀(k:Nat) (l:List aa),aa.wts l≤k→k<2^40→aO Try.prog 31 [.lst (l.map aa.enc)] (.int .i64 (aa.cnts l:Nat)):=by
 intro k
 induction k using Nat.strongRecOn with
 | _ k ih=>
  intro l hl hk
  have hlen:=aa.wts_len l
  have hcw:=aa.cnts_wt l
  refine vr _ _ _ ?_
  unfold mI
  repeat' (first | refine st ?_ | refine sb (fun nb_ hnb_=>?_) | refine s2 (fun h=>?_) (fun h=>?_) | fail)
  refine eJ l.length (fun _=>True) (fun i=>[.lst (l.map aa.enc),.int .i64 ((l.length+((l.take i).map aa.cnt).sum:Nat):Int),.int .i64 i]) (by omega) trivial (by simp) (fun i h1 hd hi _ nx hn=>?_) (fun i h1 hd _ nx=>?_)
  all_goals unfold kC
  ·have hx:=xd h1
   have hwi:=aa.wts_get l i h1
   have hwe:=(l[i]).wt_eq
   have c1:=ih _ (by omega) l[i].body (Nat.le_refl _) (by omega)
   have c2:=ih _ (by omega) l[i].els (Nat.le_refl _) (by omega)
   have hs:=kD (f:=aa.cnt) l i h1
   have hcc:=(l[i]).cnt_eq
   rw[aa.cnts_eq]at hcw
   have e1:=fU (a:=l.length+((l.take i).map aa.cnt).sum) (b:=aa.cnts l[i].body) (by omega)
   have e2:=fU (a:=l.length+((l.take i).map aa.cnt).sum+aa.cnts l[i].body) (b:=aa.cnts l[i].els) (by omega)
   repeat' (first | refine st ?_ | ((with_reducible refine aq 31 ?_);refine aj (c1) ?_) | ((with_reducible refine al 31 ?_);refine ab (c1) ?_) | ((with_reducible refine aq 31 ?_);refine aj (c2) ?_) | ((with_reducible refine al 31 ?_);refine ab (c2) ?_) | refine sb (fun nb_ hnb_=>?_) | refine s2 (fun h=>?_) (fun h=>?_) | fail)
   have hn:=hn trivial
   rw[iv h1,hcc]at hn
   simpa[Nat.add_assoc]using hn
  ·repeat' (first | refine st ?_ | refine sb (fun nb_ hnb_=>?_) | refine s2 (fun h=>?_) (fun h=>?_) | fail)
   refine⟨?_,rfl⟩
   rw[h1,List.take_length,←aa.cnts_eq]
end Go.Proofs.Ytljkdffikfkcgaa.Am
end
section
namespace Go.Proofs.Ytljkdffikfkcgaa.Am
set_option maxRecDepth 100000
set_option linter.unusedVariables false
theorem ef{α:Type}{p:α→Bool}:∀(l:List α) (j:Nat),(gg p l j=-1∧l.find? p=none)∨∃(k:Nat) (h:k<l.length),gg p l j=(j+k:Nat)∧l.find? p=some l[k]
 | [],_=>.inl ⟨rfl,rfl⟩
 | x::l,j=>by
  by_cases h:p x=true
  ·exact .inr ⟨0,by simp,by simp[gg,h],by simp[h]⟩
  ·rcases ef (p:=p) l (j+1)with⟨h1,h2⟩ | ⟨k,h1,h2,h3⟩
   ·exact .inl ⟨by simp[gg,h,h1],by simp[h,h2]⟩
   ·refine .inr ⟨k+1,by simpa using h1,?_,by simpa[h]using h3⟩
    simp only[gg,h,Bool.false_eq_true,if_false,h2];congr 1;omega
def kE(l:List av)(s:aL):Option av:=l.find? fun x=>decide (x.name=s)
def hO(d:av):Int:=bif decide (d.kind=1)then(bif decide (d.size≠0)then 2 else 1)else bif decide (d.kind=2)then 1 else bif decide (d.kind=3)then d.kind else bif decide (d.kind=4)then d.kind else bif decide (d.kind=5)then d.kind else bif decide (d.kind=6)then d.kind else 9
def zu(p:aK)(s:aL):Option av→Int
 | none=>bif decide (0≤cx p.threads s)then 7 else 0
 | some d=>hO d
def aD(p:aK)(loc:List aL)(s:aL):Int:=bif decide (0≤fJ loc s)then 8 else zu p s (kE p.decls s)
theorem BY(p:aK)(t:Nat)(s:aL)(hw:p.wt<2^40)(ht:t<p.threads.length):aO Try.prog 84 [.agg p.enc,.int .i64 t,.str s] (.int .i64 (aD p p.threads[t].locals s)):=by
 have hl1:=p.decls_len
 have hl2:=p.threads_len
 have hwt:=p.thread_wt ht
 have hll:p.threads[t].locals.length<p.threads[t].wt:=by unfold ai.wt;omega
 have c1:=fK p.threads[t].locals s (by omega)
 have c2:=fX p.decls s (by omega)
 have c3:=hM p.threads s (by omega)
 have d0:decide (0≤(t:Int))=true:=by simp
 have d1:=ct ht
 have hx:=aC (f:=ai.enc) ht
 refine tO _ _ _ _ _ ?_
 unfold kz
 generalize hQ:(fun(u:AV) (K:SH)=>u=AV.int .i64 (aD p p.threads[t].locals s)∧K=[])=Q
 have hq:Q (.int .i64 (aD p p.threads[t].locals s)) []:=by subst hQ;exact⟨rfl,rfl⟩
 clear hQ
 unfold aD at hq
 rcases ef (p:=fun x:av=>decide (x.name=s)) p.decls 0 with⟨h1,h2⟩ | ⟨k,h1,h2,h3⟩
 ·have e1:bU p.decls s=-1:=h1
  have e2:kE p.decls s=none:=h2
  rw[e1]at c2
  rw[e2,zu]at hq
  clear e1 e2 h1 h2
  repeat' (first | refine st ?_ | ((with_reducible refine aq 45 ?_);refine aj (c1) ?_) | ((with_reducible refine al 45 ?_);refine ab (c1) ?_) | ((with_reducible refine aq 43 ?_);refine aj (c2) ?_) | ((with_reducible refine al 43 ?_);refine ab (c2) ?_) | ((with_reducible refine aq 44 ?_);refine aj (c3) ?_) | ((with_reducible refine al 44 ?_);refine ab (c3) ?_) | refine sb (fun nb_ hnb_=>?_) | refine s2 (fun h=>?_) (fun h=>?_) | fail)
  all_goals
   refine Eq.mp (congrArg (fun b=>Q (AV.int .i64 b) []) ?_) hq
   simp only[*,cond_true,cond_false]
 ·have e1:bU p.decls s=(k:Nat):=by rw[bU,h2];simp
  have e2:kE p.decls s=some p.decls[k]:=h3
  rw[e1]at c2
  rw[e2]at hq
  have d2:decide ((k:Int)<0)=false:=by simp
  have hy:=aC (f:=av.enc) h1
  rw[zu]at hq
  clear e1 e2 h2 h3
  generalize p.decls[k]=d at *
  unfold hO at hq
  repeat' (first | refine st ?_ | ((with_reducible refine aq 45 ?_);refine aj (c1) ?_) | ((with_reducible refine al 45 ?_);refine ab (c1) ?_) | ((with_reducible refine aq 43 ?_);refine aj (c2) ?_) | ((with_reducible refine al 43 ?_);refine ab (c2) ?_) | ((with_reducible refine aq 44 ?_);refine aj (c3) ?_) | ((with_reducible refine al 44 ?_);refine ab (c3) ?_) | refine sb (fun nb_ hnb_=>?_) | refine s2 (fun h=>?_) (fun h=>?_) | fail)
  all_goals
   refine Eq.mp (congrArg (fun b=>Q (AV.int .i64 b) []) ?_) hq
   simp only[*,cond_true,cond_false]
def dt(k a b:Int):Int:=if k=0 then 5 else if k≠a∧k≠b then 6 else 0
theorem xT(p:aK)(t:Nat)(s:aL)(a b:Int)(hw:p.wt<2^40)(ht:t<p.threads.length):aO Try.prog 65 [.agg p.enc,.int .i64 t,.str s,.int .i64 a,.int .i64 b] (.int .i64 (dt (aD p p.threads[t].locals s) a b)):=by
 have c1:=BY p t s hw ht
 refine wJ _ _ _ _ _ _ _ ?_
 unfold qy
 generalize aD p p.threads[t].locals s=k at *
 repeat' (first | refine st ?_ | ((with_reducible refine aq 84 ?_);refine aj (c1) ?_) | ((with_reducible refine al 84 ?_);refine ab (c1) ?_) | refine sb (fun nb_ hnb_=>?_) | refine s2 (fun h=>?_) (fun h=>?_) | fail)
 all_goals (refine⟨?_,rfl⟩;simp_all[dt])
mutual
def ac.nd:ac→Nat
 | .mk _ _ _ l=>1+ac.nds l
def ac.nds:List ac→Nat
 | []=>0
 | x::l=>x.nd+ac.nds l
end
mutual
def ac.dp:ac→Nat
 | .mk _ _ _ l=>1+ac.dps l
def ac.dps:List ac→Nat
 | []=>0
 | x::l=>max x.dp (ac.dps l)
end
theorem ac.nd_eq(x:ac):x.nd=1+(x.l.map ac.nd).sum:=by
 have:∀l,ac.nds l=(l.map ac.nd).sum:=fun l=>by induction l with
  | nil=>rfl
  | cons x l ih=>rw[ac.nds,ih];rfl
 cases x;rw[ac.nd,this];rfl
theorem ac.dp_eq(x:ac):x.dp=1+ac.dps x.l:=by cases x;rfl
mutual
theorem ac.nd_wt:∀x:ac,x.nd≤x.wt
 | .mk a b c l=>by have:=ac.nds_wt l;simp only[ac.nd,ac.wt];omega
theorem ac.nds_wt:∀l:List ac,ac.nds l≤ac.wts l
 | []=>Nat.le_refl _
 | x::l=>by have:=ac.nd_wt x;have:=ac.nds_wt l;simp only[ac.nds,ac.wts];omega
end
mutual
theorem ac.dp_wt:∀x:ac,x.dp≤x.wt
 | .mk a b c l=>by have:=ac.dps_wt l;simp only[ac.dp,ac.wt];omega
theorem ac.dps_wt:∀l:List ac,ac.dps l≤ac.wts l
 | []=>Nat.le_refl _
 | x::l=>by have:=ac.dp_wt x;have:=ac.dps_wt l;simp only[ac.dps,ac.wts];omega
end
theorem ac.dps_succ{l:List ac}{i:Nat}(h:i<l.length):ac.dps (l.take (i+1))=max (ac.dps (l.take i)) l[i].dp:=by
 rw[List.take_succ_eq_append_getElem h]
 generalize l.take i=m
 induction m with
 | nil=>simp[ac.dps]
 | cons x m ih=>simp only[List.cons_append,ac.dps,ih];omega
theorem ac.dps_take(l:List ac)(i:Nat):ac.dps (l.take i)≤ac.dps l:=by
 induction l generalizing i with
 | nil=>simp
 | cons x l ih=>cases i with
  | zero=>simp[ac.dps]
  | succ i=>have:=ih i;simp only[List.take_succ_cons,ac.dps];omega
theorem IG{k:IntKind}{a b:Nat}{K:AV→Prop}(h:K (.int k ((max a b:Nat):Int))):W.mnx true (.int k (a:Int)) (.int k (b:Int)) K:=by
 rw[Cu]
 have:(if(b:Int) > a then(b:Int)else a)=((max a b:Nat):Int):=by split<;>omega
 rw[this]
 exact h
theorem Dw:∀(k:Nat) (x:ac),x.wt≤k→k<2^40→aO Try.prog 85 [.agg x.row] (.tup [.int .i64 (x.nd:Nat),.int .i64 (x.dp:Nat)]):=by
 intro k
 induction k with
 | zero=>intro x h;have:=x.wt_eq;omega
 | succ k ih=>
  intro x hk hb
  have hlen:=x.len
  have hnd:=x.nd_eq
  have hnw:=x.nd_wt
  have hdp:=x.dp_eq
  have hdw:=x.dp_wt
  refine vj _ _ _ ?_
  unfold mG
  repeat' (first | refine st ?_ | refine sb (fun nb_ hnb_=>?_) | refine s2 (fun h=>?_) (fun h=>?_) | fail)
  refine eJ x.l.length (fun _=>True) (fun i=>[.pptr [x.row] 0 0,.int .i64 ((1+((x.l.take i).map ac.nd).sum:Nat):Int),.int .i64 ((ac.dps (x.l.take i):Nat):Int),.int .i64 i]) (by omega) trivial rfl (fun i h1 hd hi _ nx hn=>?_) (fun i h1 hd _ nx=>?_)
  all_goals unfold kB
  ·have hx:=zh h1
   have hc:=ih x.l[i] (by have:=x.kid h1;omega) (by omega)
   have hs:=kD (f:=ac.nd) x.l i h1
   have e1:=fU (a:=1+((x.l.take i).map ac.nd).sum) (b:=x.l[i].nd) (by omega)
   have hn:=hn trivial
   rw[iv h1,ac.dps_succ h1,←Nat.add_assoc]at hn
   repeat' (first | refine st ?_ | ((with_reducible refine aq 85 ?_);refine aj (hc) ?_) | ((with_reducible refine al 85 ?_);refine ab (hc) ?_) | refine IG ?_ | refine sb (fun nb_ hnb_=>?_) | refine s2 (fun h=>?_) (fun h=>?_) | fail)
   exact hn
  ·have e2:=fU (a:=ac.dps (x.l.take i)) (b:=1) (by have:=ac.dps_take x.l i;omega)
   repeat' (first | refine st ?_ | refine sb (fun nb_ hnb_=>?_) | refine s2 (fun h=>?_) (fun h=>?_) | fail)
   refine⟨?_,rfl⟩
   subst h1
   rw[List.take_length,hnd,hdp,Nat.add_comm 1 (ac.dps _)]
def kF(p:aK)(loc:List aL)(op:Int)(s:aL):Int:=if op=2 then dt (aD p loc s) 8 1 else if op=3 then dt (aD p loc s) 2 2 else 0
mutual
def dR(p:aK)(loc:List aL):ac→Int
 | .mk op _ name l=>if kF p loc op name=0 then namesL p loc l else kF p loc op name
def namesL(p:aK)(loc:List aL):List ac→Int
 | []=>0
 | x::l=>if dR p loc x=0 then namesL p loc l else dR p loc x
end
theorem BZ(p:aK)(loc:List aL)(x:ac):dR p loc x=if kF p loc x.op x.name=0 then namesL p loc x.l else kF p loc x.op x.name:=by cases x;rw[dR];rfl
theorem iw(p:aK)(loc:List aL):∀l m:List ac,namesL p loc (l++m)=if namesL p loc l=0 then namesL p loc m else namesL p loc l
 | [],m=>by simp[namesL]
 | x::l,m=>by
  rw[List.cons_append,namesL,iw p loc l m,namesL]
  by_cases h:dR p loc x=0
  ·simp[h]
  ·simp[h]
theorem zv{p:aK}{loc:List aL}{l:List ac}{i:Nat}(h:i<l.length)(h0:namesL p loc (l.take i)=0):namesL p loc (l.take (i+1))=dR p loc l[i]:=by
 rw[List.take_succ_eq_append_getElem h,iw,if_pos h0,namesL,namesL]
 split<;>simp_all
theorem zw{p:aK}{loc:List aL}{l:List ac}(i:Nat)(h0:¬namesL p loc (l.take i)=0):namesL p loc l=namesL p loc (l.take i):=by
 have:=iw p loc (l.take i) (l.drop i)
 rw[List.take_append_drop,if_neg h0]at this
 exact this
theorem Dx(p:aK)(t:Nat)(hw:p.wt<2^40)(ht:t<p.threads.length):∀(k:Nat) (x:ac),x.wt≤k→k<2^40→aO Try.prog 86 [.agg p.enc,.int .i64 t,.agg x.row] (.int .i64 (dR p p.threads[t].locals x)):=by
 intro k
 induction k with
 | zero=>intro x h;have:=x.wt_eq;omega
 | succ k ih=>
  intro x hk hb
  have hlen:=x.len
  have c1:=xT p t x.name 8 1 hw ht
  have c2:=xT p t x.name 2 2 hw ht
  generalize p.threads[t].locals=loc at *
  refine vn _ _ _ _ _ ?_
  unfold mH
  generalize hQ:(fun(u:AV) (K:SH)=>u=AV.int .i64 (dR p loc x)∧K=[])=Q
  have hq:Q (.int .i64 (dR p loc x)) []:=by subst hQ;exact⟨rfl,rfl⟩
  clear hQ
  rw[BZ]at hq
  have key:∀r:Int,r=kF p loc x.op x.name→gr Q [.int .i64 t,.pptr [p.enc] 0 0,.pptr [x.row] 0 0,.int .i64 r] []:=by
   intro r hr
   rw[←hr]at hq
   unfold gr
   repeat' (first | refine st ?_ | refine sb (fun nb_ hnb_=>?_) | refine s2 (fun h=>?_) (fun h=>?_) | fail)
   by_cases h0:r=0
   ·rw[if_pos h0]at hq
    subst h0
    refine eJ x.l.length (fun _=>True) (fun i=>[.int .i64 t,.pptr [p.enc] 0 0,.pptr [x.row] 0 0,.int .i64 (namesL p loc (x.l.take i)),.int .i64 i]) (by omega) trivial (by simp[namesL]) (fun i h1 hd hi _ nx hn=>?_) (fun i h1 hd _ nx=>?_)
    all_goals unfold gq
    ·have hx:=zh h1
     have hc:=ih x.l[i] (by have:=x.kid h1;omega) (by omega)
     have hn:=hn trivial
     by_cases h2:namesL p loc (x.l.take i)=0
     ·rw[zv h1 h2]at hn
      have d1:decide (namesL p loc (x.l.take i)=0)=true:=by simpa using h2
      repeat' (first | refine st ?_ | ((with_reducible refine aq 86 ?_);refine aj (hc) ?_) | ((with_reducible refine al 86 ?_);refine ab (hc) ?_) | refine sb (fun nb_ hnb_=>?_) | refine s2 (fun h=>?_) (fun h=>?_) | fail)
      exact hn
     ·have d1:decide (namesL p loc (x.l.take i)=0)=false:=by simpa using h2
      repeat' (first | refine st ?_ | refine sb (fun nb_ hnb_=>?_) | refine s2 (fun h=>?_) (fun h=>?_) | fail)
      rw[zw i h2]at hq
      exact hq
    ·repeat' (first | refine st ?_ | refine sb (fun nb_ hnb_=>?_) | refine s2 (fun h=>?_) (fun h=>?_) | fail)
     rw[h1,List.take_length]
     exact hq
   ·rw[if_neg h0]at hq
    have d1:decide (r=0)=false:=by simpa using h0
    refine eJ 0 (fun _=>True) (fun i=>[.int .i64 t,.pptr [p.enc] 0 0,.pptr [x.row] 0 0,.int .i64 r,.int .i64 i]) (by omega) trivial rfl (fun i h1 hd hi _ nx hn=>by omega) (fun i h1 hd _ nx=>?_)
    unfold gq
    repeat' (first | refine st ?_ | refine sb (fun nb_ hnb_=>?_) | refine s2 (fun h=>?_) (fun h=>?_) | fail)
    all_goals exact hq
  clear hq
  repeat' (first | with_reducible refine key _ ?_ | refine st ?_ | ((with_reducible refine aq 65 ?_);refine aj (c1) ?_) | ((with_reducible refine al 65 ?_);refine ab (c1) ?_) | ((with_reducible refine aq 65 ?_);refine aj (c2) ?_) | ((with_reducible refine al 65 ?_);refine ab (c2) ?_) | refine sb (fun nb_ hnb_=>?_) | refine s2 (fun h=>?_) (fun h=>?_) | fail)
  all_goals (clear ih key c1 c2;simp_all[kF])
def gv(p:aK)(loc:List aL)(x:ac):Int:=bif !wx x then 3 else bif decide (24<(x.nd:Int))||decide (6<(x.dp:Int))then 2 else dR p loc x
theorem E1(p:aK)(t:Nat)(x:ac)(hw:p.wt<2^40)(ht:t<p.threads.length)(hx:x.wt<2^40):aO Try.prog 66 [.agg p.enc,.int .i64 t,.agg x.row] (.int .i64 (gv p p.threads[t].locals x)):=by
 have c1:=iu _ x (Nat.le_refl _) hx
 have c2:=Dw _ x (Nat.le_refl _) hx
 have c3:=Dx p t hw ht _ x (Nat.le_refl _) hx
 generalize p.threads[t].locals=loc at *
 refine wM _ _ _ _ _ ?_
 unfold qz
 generalize hQ:(fun(u:AV) (K:SH)=>u=AV.int .i64 (gv p loc x)∧K=[])=Q
 have hq:Q (.int .i64 (gv p loc x)) []:=by subst hQ;exact⟨rfl,rfl⟩
 clear hQ
 unfold gv at hq
 generalize wx x=A at *
 generalize dR p loc x=B at *
 generalize((x.nd:Nat):Int)=C at *
 generalize((x.dp:Nat):Int)=D at *
 repeat' (first | refine st ?_ | ((with_reducible refine aq 82 ?_);refine aj (c1) ?_) | ((with_reducible refine al 82 ?_);refine ab (c1) ?_) | ((with_reducible refine aq 85 ?_);refine aj (c2) ?_) | ((with_reducible refine al 85 ?_);refine ab (c2) ?_) | ((with_reducible refine aq 86 ?_);refine aj (c3) ?_) | ((with_reducible refine al 86 ?_);refine ab (c3) ?_) | refine sb (fun nb_ hnb_=>?_) | refine s2 (fun h=>?_) (fun h=>?_) | fail)
 all_goals
  refine Eq.mp (congrArg (fun b=>Q (AV.int .i64 b) []) ?_) hq
  simp only[*,cond_true,cond_false,Bool.not_true,Bool.not_false,Bool.true_and,Bool.false_and,Bool.and_true,Bool.and_false,Bool.or_true,Bool.or_false,Bool.true_or,Bool.false_or]
end Go.Proofs.Ytljkdffikfkcgaa.Am
end
