/- A part of the proof; the statement is proved in the last part. -/
import Derived.Test.YtenbpcngcicamaaGreatDoorQck
set_option linter.unusedSimpArgs false
set_option linter.unusedVariables false
namespace Go.Proofs.YtenbpcngcicamaaGreatDoor.Am
section
set_option maxRecDepth 100000
set_option maxHeartbeats 1000000
set_option linter.unusedSectionVars false
structure EZ(w:aN)(t n:Nat)(regs:Int)(k:Nat)(i:bn):Prop where
 lo:1≤i.op
 hi:i.op≤28
 last:i.op=28↔k+1=n
 fin:i.op=28→i.site=-1
 sin:i.op≠28→inB i.site w.sites.length=true
 sth:i.op≠28→(w.sites.getD i.site.toNat default).thread=t
 regs:∀r∈bU i,0≤r∧r<regs
 obj:JA w i=true
 jmp:Is n i=true
structure Iw(w:aN)(t:Nat)(c:iD):Prop where
 r0:0≤c.regs
 r32:c.regs≤32
 ne:0<c.ins.length
 ins:∀(k:Nat) (h:k<c.ins.length),EZ w t c.ins.length c.regs k c.ins[k]
 lans:∀k,k<c.ins.length→pt c.ins k
theorem EZ.fit{w:aN}{t:Nat}{c:iD}(hl:c.ins.length<2^48)(h:∀(k:Nat) (h:k<c.ins.length),EZ w t c.ins.length c.regs k c.ins[k]):NW c.ins where
 len:=hl
 jmp:=λi hi h5=>by obtain⟨k,hk,rfl⟩:=List.mem_iff_getElem.1 hi;have:=(h k hk).jmp;unfold Is at this;rw[if_pos h5]at this;exact ay.1 this
 last:=λk i hi=>by obtain⟨hk,rfl⟩:=V7.1 hi;exact(h k hk).last
theorem LQ(i:bn):(bU i).length≤3:=by
 unfold bU
 repeat' split
 all_goals simp
section
variable {w:aN} {t:Nat} {c:iD} {k:Nat} {i:bn} (h0:0≤c.regs) (Q:R) (n45:W.Kn)
 (hno:¬EZ w t c.ins.length c.regs k i→Q (.bool false) [])
 (hgo:(∀r∈bU i,0≤r∧r<c.regs)→JA w i=true→Is c.ins.length i=true→n45 [.W9 t,.pptr [w.enc] 0 0,.pptr [c.enc] 0 0,.lst (c.ins.map bn.enc),.W9 c.ins.length,.W9 (k+1:Nat)] [])
 (hl:c.ins.length<2^48) (hk:k<c.ins.length)
include h0 hno hgo hl hk
theorem Sa(x:AV):dR Q n45 [.W9 t,.pptr [w.enc] 0 0,.pptr [c.enc] 0 0,x,.pptr [i.enc] 0 0,.lst (c.ins.map bn.enc),.W9 c.ins.length,.W9 k] []:=by
 have hr:=GG i;have ho:=GF w c.ins.length i;obtain⟨rg,hrg⟩:=WL h0;have hwr:IntKind.i64.wrap ((k:Int)+1)=((k+1:Nat):Int):=aE hk W4;unfold dR
 repeat' (first|refine st ?_|(refine pf 51 ?_;refine pm (hr) ?_)|refine sb λnb_ hnb_=>?_|refine s2 (λh=>?_) λh=>?_|fail)
 refine pq (bU i).length (λj=>∀r∈(bU i).take j,0≤r∧r<c.regs) (λj=>[.W9 t,.pptr [w.enc] 0 0,.pptr [c.enc] 0 0,.pptr [i.enc] 0 0,.lst (c.ins.map bn.enc),.W9 c.ins.length,.W9 k,.lst ((bU i).map ao),.W9 (bU i).length,.W9 j]) (by have:=LQ i;omega) W7 W7 (λj hj hd hi hG nx hn=>?_) (λj hj hd hG nx=>?_)
 all_goals unfold fX
 ·have hx:=az (f:=ao) hj;have hw:=dI (bU i)[j] rg;rw[←hrg]at hw;cases hb:inB (bU i)[j] rg with
  |false=>
   rw[hb]at hw;have:¬EZ w t c.ins.length c.regs k i:=λh=>by have:=h.regs _ (VI hj);rw[hrg,←ay,hb]at this;cases this
   repeat' (first|refine st ?_|(refine pf 50 ?_;refine pm (hw) ?_)|refine sb λnb_ hnb_=>?_|refine s2 (λh=>?_) λh=>?_|fail)
   exact hno this
  |true=>
   rw[hb]at hw
   repeat' (first|refine st ?_|(refine pf 50 ?_;refine pm (hw) ?_)|refine sb λnb_ hnb_=>?_|refine s2 (λh=>?_) λh=>?_|fail)
   refine hn (Ic hj hG ?_);rw[hrg];exact ay.1 hb
 ·subst hj;rw[List.take_length]at hG;cases hb:(JA w i&&Is c.ins.length i)with
  |false=>
   rw[hb]at ho;have:¬EZ w t c.ins.length c.regs k i:=λh=>by rw[h.obj,h.jmp]at hb;cases hb
   repeat' (first|refine st ?_|(refine pf 52 ?_;refine pm (ho) ?_)|refine sb λnb_ hnb_=>?_|refine s2 (λh=>?_) λh=>?_|fail)
   exact hno this
  |true=>
   rw[hb]at ho;rw[VS]at hb
   repeat' (first|refine st ?_|(refine pf 52 ?_;refine pm (ho) ?_)|refine sb λnb_ hnb_=>?_|refine s2 (λh=>?_) λh=>?_|fail)
   exact hgo hG hb.1 hb.2
end
theorem Dv(w:aN)(t:Nat)(c:iD)(hl:c.ins.length<2^48):aB Tryz.prog 28 [.agg w.enc,.W9 t,.agg c.enc] (.bool (m4 (Iw w t c))):=by
  refine m3 _ _ _ _ _ ?_;unfold gv;generalize hQ:(λ(u:AV) (K:SH)=>u=AV.bool (m4 (Iw w t c))∧K=[])=Q;have hq:∀b,m4 (Iw w t c)=b→Q (.bool b) []:=λb hb=>by subst hQ;exact⟨by rw[hb],rfl⟩
  clear hQ;by_cases h0:0≤c.regs∧c.regs≤32∧0<c.ins.length
  · obtain⟨h0,h32,hn0⟩:=h0
    have d1:decide (c.regs<0)=false:=by simpa using h0
    have d2:decide (c.regs > 32)=false:=by simpa using h32
    have d3:decide ((c.ins.length:Int)=0)=false:=decide_eq_false W4
    repeat' (first|refine st ?_|refine sb λnb_ hnb_=>?_|refine s2 (λh=>?_) λh=>?_|fail)
    refine pq c.ins.length (λk=>∀j (h:j<c.ins.length),j<k→EZ w t c.ins.length c.regs j c.ins[j]) (λk=>[.W9 t,.pptr [w.enc] 0 0,.pptr [c.enc] 0 0,.lst (c.ins.map bn.enc),.W9 c.ins.length,.W9 k]) W4 (λj h hj=>absurd hj (Nat.not_lt_zero _)) W7 (λk hk hd hi hG nx hn=>?_) (λk hk hd hG nx=>?_)
    all_goals unfold fY
    · have hx:=az (f:=bn.enc) hk
      have hno:¬EZ w t c.ins.length c.regs k c.ins[k]→Q (.bool false) []:=λh=>hq _ (jp λh2=>h (h2.ins k hk))
      have hgo:EZ w t c.ins.length c.regs k c.ins[k]→nx [.W9 t,.pptr [w.enc] 0 0,.pptr [c.enc] 0 0,.lst (c.ins.map bn.enc),.W9 c.ins.length,.W9 (k+1:Nat)] []:=λh=>hn λj hj hjk=>by
        rcases Vt j k with g|g
        · exact hG j hj g
        · have e:j=k:=by omega
          subst e;exact h
      generalize c.ins[k]=i at hx hno hgo;have hj4:=λhgo x=>Sa (i:=i) (w:=w) (t:=t) (k:=k) h0 Q nx hno hgo hl hk x
      have hs1:IntKind.i64.wrap ((c.ins.length:Int)-1)=((c.ins.length-1:Nat):Int):=by rw[We _ W4];omega
      have hw:=dI i.site w.sites.length;obtain⟨op,ia,ib,ic,m,site⟩:=i;have he:bn.enc ⟨op,ia,ib,ic,m,site⟩=[.W9 op,.W9 ia,.W9 ib,.W9 ic,.W9 m,.W9 site]:=rfl;rw[he]at hx hj4;clear he;cases hb:inB site w.sites.length with
      |false=>
        rw[hb]at hw
        repeat' (first|with_reducible refine hj4 (λr1 r2 r3=>?_) _|refine st ?_|(refine pf 50 ?_;refine pm (hw) ?_)|refine sb λnb_ hnb_=>?_|refine s2 (λh=>?_) λh=>?_|fail)
        all_goals first
        | (refine hno fun h9 => ?_
           have g1:=h9.lo;have g2:=h9.hi;have g3:=h9.last;have g4:=h9.fin;have g5:=h9.sin;have g6:=h9.sth
           clear h9 hno hgo hn hG hj4 hq
           (simp only[hb,VQ,decide_eq_true_eq,decide_eq_false_iff_not,ne_eq,Decidable.not_not,decide_eq_decide,imp_false]at *)
           omega)
        | (refine hgo ⟨?_, ?_, ?_, ?_, fun h9 => ?_, fun h9 => ?_, r1, r2, r3⟩
           all_goals clear hno hgo hn hG hj4 hq r1 r2 r3
           all_goals (simp only[hb,VQ,decide_eq_true_eq,decide_eq_false_iff_not,ne_eq,Decidable.not_not,decide_eq_decide,imp_false]at *)
           all_goals omega)
        |trace_state
      |true=>
        rw[hb]at hw;obtain⟨ks,rfl⟩:=WL (fB hb);have hks:ks<w.sites.length:=by have:=(ay.1 hb).2;omega
        have hx2:=az (f:=cM.enc) hks;unfold cM.enc at hx2
        repeat' (first|with_reducible refine hj4 (λr1 r2 r3=>?_) _|refine st ?_|(refine pf 50 ?_;refine pm (hw) ?_)|refine sb λnb_ hnb_=>?_|refine s2 (λh=>?_) λh=>?_|fail)
        all_goals first
        | (refine hno fun h9 => ?_
           have g1:=h9.lo;have g2:=h9.hi;have g3:=h9.last;have g4:=h9.fin;have g5:=h9.sin;have g6:=h9.sth
           clear h9 hno hgo hn hG hj4 hq
           (simp only[WB,WP,Vn hks,W2,hb,imp_true_iff,decide_eq_true_eq,decide_eq_false_iff_not,ne_eq,Decidable.not_not,decide_eq_decide,imp_false]at *)
           omega)
        | (refine hgo ⟨?_, ?_, ?_, ?_, fun h9 => hb, fun h9 => ?_, r1, r2, r3⟩
           all_goals clear hno hgo hn hG hj4 hq r1 r2 r3
           all_goals (simp only[WB,WP,Vn hks,W2,hb,imp_true_iff,decide_eq_true_eq,decide_eq_false_iff_not,ne_eq,Decidable.not_not,decide_eq_decide,imp_false]at *)
           all_goals omega)
        |trace_state
    · have ha:=Iv (EZ.fit hl λj h=>hG j h W4)
      repeat' (first|refine st ?_|(refine pf 53 ?_;refine pm (ha) ?_)|refine sb λnb_ hnb_=>?_|refine s2 (λh=>?_) λh=>?_|fail)
      refine hq _ ?_;cases hb:m4 (∀k,k<c.ins.length→pt c.ins k)with
      |true=>exact kB ⟨h0,h32,hn0,λj h=>hG j h W4,kC.1 hb⟩
      |false=>exact jp λh=>by rw[kB h.lans]at hb;cases hb
  · have hno:=hq _ (jp λh=>h0 ⟨h.r0,h.r32,h.ne⟩)
    repeat' (first|refine st ?_|refine sb λnb_ hnb_=>?_|refine s2 (λh=>?_) λh=>?_|fail)
    all_goals first
      |exact hno
      |(exfalso;refine h0 ?_;simp only[decide_eq_true_eq,decide_eq_false_iff_not]at *;omega)
end
section
set_option maxRecDepth 100000
def jr(b:AV)(L:SH)(Q:R):Prop:=wb .geq 5 b (.int .u8 97) λc=>bH c true b L λe f=>wg c true (wb .leq 5 e (.int .u8 122)) f λg h=>W.pick c g (.bool false) λa=>bH a false b h λi j=>wg a false (wb .geq 5 i (.int .u8 65)) j λk l=>bH a false k l λd m=>bH d true b m λn o=>wg d true (wb .leq 5 n (.int .u8 90)) o λp q=>wg a false (W.pick d p (.bool false)) q λr s=>W.pick a (.bool true) r λt=>Q t s
theorem nH(t0:AV)(L:SH)(Q:R)(h:jr t0 L Q):ai Tryz.prog 96 [t0] L Q:=
 fs [] [] [] [] Tryz.func96 h
def ly(b:AV)(L:SH)(Q:R):Prop:=wb .geq 5 b (.int .u8 48) λa=>bH a true b L λc d=>wg a true (wb .leq 5 c (.int .u8 57)) d λe f=>W.pick a e (.bool false) λg=>Q g f
theorem pL(t0:AV)(L:SH)(Q:R)(h:ly t0 L Q):ai Tryz.prog 122 [t0] L Q:=
 fs [] [] [] [] Tryz.func122 h
def Dw(Q:R)(c a:AV)(e:SH):Prop:=bH a false c e λf d=>W.grd a false (λg=>wc (.fn 122 []) [f] d λh i=>g h i) d λj k=>W.pick a (.bool true) j λb=>bH b false c k λl m=>wg b false (wb .eql 5 l (.int .u8 95)) m λn o=>W.pick b (.bool true) n λp=>Q p o
def lz(a:AV)(L:SH)(Q:R):Prop:=wc (.fn 96 []) [a] L (Dw Q a)
theorem pM(t0:AV)(L:SH)(Q:R)(h:lz t0 L Q):ai Tryz.prog 98 [t0] L Q:=
 fs [] [] [] [] Tryz.func98 h
def gO(L:SH)(Q:R):Prop:=W.bslice 1 [(.str [])] 22 [(0,(.str [118,97,114])),(1,(.str [118,111,108,97,116,105,108,101])),(2,(.str [109,117,116,101,120])),(3,(.str [114,119,108,111,99,107])),(4,(.str [99,111,110,100])),(5,(.str [102,117,116,117,114,101])),(6,(.str [116,104,114,101,97,100])),(7,(.str [105,102])),(8,(.str [101,108,115,101])),(9,(.str [119,104,105,108,101])),(10,(.str [108,111,99,107])),(11,(.str [114,101,97,100])),(12,(.str [119,114,105,116,101])),(13,(.str [116,114,97,110,115,97,99,116,105,111,110])),(14,(.str [97,116,111,109,105,99])),(15,(.str [119,97,105,116])),(16,(.str [110,111,116,105,102,121])),(17,(.str [110,111,116,105,102,121,97,108,108])),(18,(.str [115,112,97,119,110])),(19,(.str [106,111,105,110])),(20,(.str [115,101,116])),(21,(.str [103,101,116]))] L λa b=>Q a b
theorem kD(L:SH)(Q:R)(h:gO L Q):ai Tryz.prog 121 [] L Q:=
 fs [] [] [] [] Tryz.func121 h
def fD(Q:R)(e:Vs)(a:SH)(f:Kn):Prop:=vO 0 3 4 e λd b c=>W.len b λg=>wb .lss 3 c g λh=>wk h (wx 1 b c a λi=>wb .eql 9 i d λj=>wk j (Q (.bool true) a) (wb .add 3 c (.W9 1) λk=>f [d,b,k] a)) (Q (.bool false) a)
def sV(Q:R)(a b:AV)(c:SH):Prop:=W.loop (fD Q) [a,b,(.W9 0)] c
def fZ(a:AV)(L:SH)(Q:R):Prop:=wc (.fn 121 []) [] L (sV Q a)
theorem jt(t0:AV)(L:SH)(Q:R)(h:fZ t0 L Q):ai Tryz.prog 97 [t0] L Q:=
 fs [] [(3,[0,3,4])] [] [] Tryz.func97 h
def BT(Q:R)(b:Kn)(c d e:AV)(a:SH):Prop:=W.un .not e λf=>wk f (Q (.bool false) a) (wb .add 3 c (.W9 1) λg=>b [d,g] a)
def iu(Q:R)(d:Vs)(c:SH)(e:Kn):Prop:=Pv 0 3 d λa b=>W.lenS a λf=>wb .lss 3 b f λg=>wk g (W.ixS a b λh=>wc (.fn 98 []) [h] c (BT Q e b a)) (Q (.bool true) c)
def ga(a:AV)(L:SH)(Q:R):Prop:=W.lenS a λh=>wb .lss 3 h (.W9 1) λc=>bH c false a L λi j=>wg c false (W.lenS i) j λk l=>wg c false (wb .gtr 3 k (.W9 12)) l λm n=>W.pick c (.bool true) m λb=>bH b false a n λo p=>wg b false (W.ixS o (.W9 0)) p λq e=>W.grd b false (λr=>wc (.fn 96 []) [q] e λs t=>r s t) e λu v=>wg b false (W.un .not u) v λw x=>W.pick b (.bool true) w λd=>bH d false a x λy f=>W.grd d false (λz=>wc (.fn 97 []) [y] f λA B=>z A B) f λC g=>W.pick d (.bool true) C λD=>wk D (Q (.bool false) g) (W.loop (iu Q) [a,(.W9 0)] g)
theorem iv(t0:AV)(L:SH)(Q:R)(h:ga t0 L Q):ai Tryz.prog 60 [t0] L Q:=
 fs [] [(4,[0,3])] [] [] Tryz.func60 h
def xA(Q:R)(d:SH)(b:AV):Prop:=wb .geq 3 b (.W9 6) λa=>bH a true b d λe f=>wg a true (wb .leq 3 e (.W9 18)) f λg c=>W.pick a g (.bool false) λh=>wk h (Q (.W9 2) c) (Q (.W9 (-1)) c)
def xB(Q:R)(d:SH)(a:AV):Prop:=wb .geq 3 a (.W9 3) λb=>bH b true a d λe f=>wg b true (wb .leq 3 e (.W9 5)) f λg c=>W.pick b g (.bool false) λh=>wk h (Q (.W9 1) c) ((xA Q c a))
def l6(a:AV)(L:SH)(Q:R):Prop:=wb .eql 3 a (.W9 1) λb=>bH b false a L λd e=>wg b false (wb .eql 3 d (.W9 2)) e λf c=>W.pick b (.bool true) f λg=>wk g (Q (.W9 0) c) ((xB Q c a))
theorem xC(t0:AV)(L:SH)(Q:R)(h:l6 t0 L Q):ai Tryz.prog 140 [t0] L Q:=
 fs [] [] [] [] Tryz.func140 h
def qH(Q:R)(b:Kn)(c d e:AV)(a:SH):Prop:=W.un .not e λf=>wk f (Q (.bool false) a) (wb .add 3 c (.W9 1) λg=>b [d,g] a)
def iH(Q:R)(d:Vs)(a:SH)(e:Kn):Prop:=Pv 1 4 d λb c=>aC 3 b a λf=>W.len f λg=>wb .lss 3 c g λh=>wk h (aC 3 b a λi=>lE 4 i c a λj=>wc (.fn 123 []) [j] a (qH Q e c b)) (Q (.bool true) a)
def qI(Q:R)(G:SH)(a o:AV)(H:Fp)(I:AV)(h:SH)(J:Ns):Prop:=wn [] J [] G.names λM=>aO 3 a [rc 2 M,rm 1 H] 4 h λN g4=>W.len N λO=>wb .neq 3 I O λb=>W.dgrd b false (λP=>P o h rz) h λS p g5=>W.dgrd b false (λT=>W.faddr 2 a λU=>T U p rz) p λV i g6=>W.dgrd b false (λX=>dl [] 10 V i λY Z=>X Y i Z) i λa0 q g7=>W.dgrd b false (λa1=>wb .neq 9 a0 (.str []) λa2=>a1 a2 q rz) q λa3 r g8=>W.dgrd b false (λa4=>wb .neq 4 S a3 λa5=>a4 a5 r rz) r λa6 s g9=>W.pick b (.bool true) a6 λe=>W.dgrd e false (λa7=>a7 o s rz) s λa8 t h0=>W.dgrd e false (λa9=>a9 a8 t rz) t λd u h1=>W.dgrd d true (λb0=>W.faddr 2 a λb1=>b0 b1 u rz) u λb2 j h2=>W.dgrd d true (λb3=>dl [] 18 b2 j λb4 b5=>b3 b4 j b5) j λb6 k h3=>W.dgrd d true (λb7=>wd [] 19 (.fn 60 []) [b6] k λb8 b9 c0=>wn [] c0 [] k.names λc1=>b7 b8 b9 c1) k λc2 v h4=>W.dgrd d true (λc3=>W.un .not c2 λc4=>c3 c4 v rz) v λc5 w h5=>W.dgrd e false (λc6=>W.pick d c5 (.bool false) λc7=>c6 c7 w rz) w λc8 x h6=>W.pick e (.bool true) c8 λf=>W.dgrd f false (λc9=>W.faddr 1 a λd0=>c9 d0 x rz) x λd1 l h7=>W.dgrd f false (λd2=>dl [] 25 d1 l λd3 d4=>d2 d3 l d4) l λd5 y h8=>W.dgrd f false (λd6=>wb .lss 2 d5 (.W9 0) λd7=>d6 d7 y rz) y λd8 z h9=>W.pick f (.bool true) d8 λc=>W.dgrd c false (λd9=>W.faddr 0 a λe0=>d9 e0 z rz) z λe1 m i0=>W.dgrd c false (λe2=>dl [] 30 e1 m λe3 e4=>e2 e3 m e4) m λe5 A i1=>W.dgrd c false (λe6=>wb .neq 3 e5 (.W9 1) λe7=>e6 e7 A rz) A λe8 B i2=>W.dgrd c false (λe9=>e9 e8 B rz) B λg C i3=>W.dgrd g true (λf0=>W.faddr 1 a λf1=>f0 f1 C rz) C λf2 n i4=>W.dgrd g true (λf3=>dl [] 34 f2 n λf4 f5=>f3 f4 n f5) n λf6 D i5=>W.dgrd g true (λf7=>wb .neq 2 f6 (.W9 0) λf8=>f7 f8 D rz) D λf9 E i6=>W.dgrd c false (λg0=>W.pick g f9 (.bool false) λg1=>g0 g1 E rz) E λg2 F i7=>W.pick c (.bool true) g2 λg3=>wk g3 (Q (.bool false) F) (W.loop (iH Q) [a,(.W9 0)] F)
def ju(f:AV)(L:SH)(Q:R):Prop:=sf f L λa d=>aC 0 a d λg=>wb .eql 3 g (.W9 2) λb=>wg b false (W.faddr 0 a) d λh e=>wg b false (wl h e) e λi j=>wg b false (wb .eql 3 i (.W9 3)) j λk c=>W.pick b (.bool true) k λl=>(true=true)∧(aO 0 a [] 1 c λm n=>wd [] 2 (.fn 140 []) [m] c (qI Q c a l n))
theorem qJ(t0:AV)(L:SH)(Q:R)(h:ju t0 L Q):ai Tryz.prog 123 [t0] L Q:=
 fs [] [(5,[1,4])] [(0,[1])] [(2,[0,1,3,0,8,24,63,127,255,255,767,1791,4095,8191,16383,32767,65535,131071,262143,524287,1048575,2097151,4194303,8388607,16777215,33554431,67108863,134217727,268435455,536870911,1073741823,2147483647,4294967295,8589934591,17179869183,34359738367,68719476735,137438953471])] Tryz.func123 h
def si(i:AV)(L:SH)(Q:R):Prop:=sf i L λb e=>aC 0 b e λj=>wb .eql 3 j (.W9 0) λc=>wg c true (W.faddr 1 b) e λk f=>wg c true (wl k f) f λl m=>wg c true (wb .eql 2 l (.W9 0)) m λn o=>W.pick c n (.bool false) λd=>wg d true (W.faddr 2 b) o λp g=>wg d true (wl p g) g λq r=>wg d true (wb .eql 9 q (.str [])) r λs t=>W.pick d s (.bool false) λa=>wg a true (W.faddr 3 b) t λu h=>wg a true (wl u h) h λv w=>wg a true (W.len v) w λx y=>wg a true (wb .eql 3 x (.W9 0)) y λz A=>W.pick a z (.bool false) λB=>Q B A
theorem Dx(t0:AV)(L:SH)(Q:R)(h:si t0 L Q):ai Tryz.prog 124 [t0] L Q:=
 fs [] [] [(0,[1])] [] Tryz.func124 h
def qK(Q:R)(d a:AV)(e:SH):Prop:=wg a true (W.faddr 10 d) e λf b=>wg a true (wl f b) b λg c=>W.grd a true (λh=>wc (.fn 61 []) [g] c λi j=>h i j) c λk l=>W.pick a k (.bool false) λm=>Q m l
def ff(Q:R)(g:SH)(a:AV):Prop:=aC 0 a g λl=>wb .geq 3 l (.W9 2) λe=>wg e true (W.faddr 0 a) g λm h=>wg e true (wl m h) h λn o=>wg e true (wb .leq 3 n (.W9 8)) o λp q=>W.pick e p (.bool false) λr=>W.un .not r λc=>wg c true (W.faddr 9 a) q λs i=>wg c true (wl s i) i λt u=>wg c true (W.len t) u λv w=>wg c true (wb .gtr 3 v (.W9 0)) w λx y=>W.pick c x (.bool false) λb=>wg b false (W.faddr 0 a) y λz j=>wg b false (wl z j) j λA B=>wg b false (wb .neq 3 A (.W9 2)) B λC D=>bH b false C D λd E=>wg d true (W.faddr 10 a) E λF k=>wg d true (wl F k) k λG H=>wg d true (W.len G) H λI J=>wg d true (wb .gtr 3 I (.W9 0)) J λM N=>wg b false (W.pick d M (.bool false)) N λO f=>W.pick b (.bool true) O λP=>wk P (Q (.bool false) f) (aC 9 a f λS=>wc (.fn 61 []) [S] f (qK Q a))
def fg(Q:R)(h:SH)(a:AV):Prop:=aC 0 a h λq=>wb .eql 3 q (.W9 1) λe=>wg e false (W.faddr 0 a) h λr i=>wg e false (wl r i) i λs t=>wg e false (wb .eql 3 s (.W9 2)) t λu v=>W.pick e (.bool true) u λf=>wg f false (W.faddr 0 a) v λw j=>wg f false (wl w j) j λx y=>wg f false (wb .eql 3 x (.W9 3)) y λz A=>W.pick f (.bool true) z λg=>wg g false (W.faddr 0 a) A λB k=>wg g false (wl B k) k λC D=>wg g false (wb .eql 3 C (.W9 14)) D λE F=>W.pick g (.bool true) E λb=>wg b true (W.faddr 5 a) F λG l=>wg b true (ca 4 G l) l λH m=>W.grd b true (λI=>wc (.fn 123 []) [H] m λJ M=>I J M) m λN O=>wg b true (W.un .not N) O λP S=>W.pick b P (.bool false) λc=>bH c false b S λT U=>wg c false (W.un .not T) U λV X=>bH c false V X λd Y=>wg d true (W.faddr 5 a) Y λZ n=>wg d true (ca 4 Z n) n λa0 o=>W.grd d true (λa1=>wc (.fn 124 []) [a0] o λa2 a3=>a1 a2 a3) o λa4 a5=>wg d true (W.un .not a4) a5 λa6 a7=>wg c false (W.pick d a6 (.bool false)) a7 λa8 p=>W.pick c (.bool true) a8 λa9=>wk a9 (Q (.bool false) p) ((ff Q p a))
def fh(Q:R)(f:SH)(c:AV):Prop:=aC 4 c f λo=>W.len o λp=>wb .gtr 3 p (.W9 1) λd=>wg d false (W.faddr 0 c) f λq g=>wg d false (wl q g) g λr s=>wg d false (wb .neq 3 r (.W9 1)) s λt u=>bH d false t u λe v=>wg e true (W.faddr 4 c) v λw h=>wg e true (wl w h) h λx y=>wg e true (W.len x) y λz A=>wg e true (wb .gtr 3 z (.W9 0)) A λB C=>wg d false (W.pick e B (.bool false)) C λD E=>W.pick d (.bool true) D λa=>wg a false (W.faddr 4 c) E λF i=>wg a false (wl F i) i λG H=>wg a false (W.len G) H λI J=>wg a false (wb .eql 3 I (.W9 1)) J λM N=>bH a false M N λb O=>wg b true (W.faddr 4 c) O λP j=>wg b true (wl P j) j λS k=>wg b true (W.idx 4 S (.W9 0) k) k λT l=>wg b true (ca 4 T l) l λU m=>W.grd b true (λV=>wc (.fn 123 []) [U] m λX Y=>V X Y) m λZ a0=>wg b true (W.un .not Z) a0 λa1 a2=>wg a false (W.pick b a1 (.bool false)) a2 λa3 n=>W.pick a (.bool true) a3 λa4=>wk a4 (Q (.bool false) n) ((fg Q n c))
def fi(Q:R)(e:SH)(b:AV):Prop:=aC 0 b e λk=>wb .eql 3 k (.W9 15) λc=>wg c true (W.faddr 3 b) e λl f=>wg c true (wl l f) f λm g=>W.grd c true (λn=>wc (.fn 60 []) [m] g λo p=>n o p) g λq r=>wg c true (W.un .not q) r λs t=>W.pick c s (.bool false) λa=>wg a false (W.faddr 0 b) t λu h=>wg a false (wl u h) h λv w=>wg a false (wb .neq 3 v (.W9 15)) w λx y=>bH a false x y λd z=>wg d true (W.faddr 3 b) z λA i=>wg d true (wl A i) i λB C=>wg d true (wb .neq 9 B (.str [])) C λD E=>wg a false (W.pick d D (.bool false)) E λF j=>W.pick a (.bool true) F λG=>wk G (Q (.bool false) j) ((fh Q j b))
def fj(Q:R)(h:SH)(a:AV):Prop:=aC 0 a h λp=>wb .eql 3 p (.W9 2) λe=>wg e false (W.faddr 0 a) h λq i=>wg e false (wl q i) i λr s=>wg e false (wb .eql 3 r (.W9 3)) s λt u=>W.pick e (.bool true) t λf=>wg f false (W.faddr 0 a) u λv j=>wg f false (wl v j) j λw x=>wg f false (wb .eql 3 w (.W9 7)) x λy z=>W.pick f (.bool true) y λg=>wg g false (W.faddr 0 a) z λA k=>wg g false (wl A k) k λB C=>wg g false (wb .eql 3 B (.W9 8)) C λD E=>W.pick g (.bool true) D λb=>wg b true (W.faddr 2 a) E λF l=>wg b true (wl F l) l λG H=>wg b true (wb .neq 9 G (.str [])) H λI J=>W.pick b I (.bool false) λc=>bH c false b J λM N=>wg c false (W.un .not M) N λO P=>bH c false O P λd S=>wg d true (W.faddr 2 a) S λT m=>wg d true (wl T m) m λU n=>W.grd d true (λV=>wc (.fn 60 []) [U] n λX Y=>V X Y) n λZ a0=>wg d true (W.un .not Z) a0 λa1 a2=>wg c false (W.pick d a1 (.bool false)) a2 λa3 o=>W.pick c (.bool true) a3 λa4=>wk a4 (Q (.bool false) o) ((fi Q o a))
def jv(f:AV)(L:SH)(Q:R):Prop:=sf f L λb c=>aC 0 b c λg=>wb .lss 3 g (.W9 1) λa=>wg a false (W.faddr 0 b) c λh d=>wg a false (wl h d) d λi j=>wg a false (wb .gtr 3 i (.W9 15)) j λk e=>W.pick a (.bool true) k λl=>wk l (Q (.bool false) e) ((fj Q e b))
theorem qL(t0:AV)(L:SH)(Q:R)(h:jv t0 L Q):ai Tryz.prog 99 [t0] L Q:=
 fs [] [] [(0,[1])] [] Tryz.func99 h
def pN(Q:R)(b:Kn)(c d e:AV)(a:SH):Prop:=W.un .not e λf=>wk f (Q (.bool false) a) (wb .add 3 c (.W9 1) λg=>b [d,g] a)
def hZ(Q:R)(d:Vs)(a:SH)(e:Kn):Prop:=Pv 0 3 d λb c=>W.len b λf=>wb .lss 3 c f λg=>wk g (lE 11 b c a λh=>wc (.fn 99 []) [h] a (pN Q e c b)) (Q (.bool true) a)
def iI(a:AV)(L:SH)(Q:R):Prop:=W.loop (hZ Q) [a,(.W9 0)] L
theorem pO(t0:AV)(L:SH)(Q:R)(h:iI t0 L Q):ai Tryz.prog 61 [t0] L Q:=
 fs [] [(2,[0,3])] [] [] Tryz.func61 h
def fk(Q:R)(e:SH)(b:AV):Prop:=aC 4 b e λi=>wb .gtr 2 i (.W9 (-9223372036854775808)) λa=>wg a true (W.faddr 4 b) e λj f=>wg a true (wl j f) f λk l=>wg a true (wb .eql 2 k (.W9 0)) l λm n=>bH a true m n λc o=>wg c false (W.faddr 0 b) o λp g=>wg c false (wl p g) g λq r=>wg c false (wb .eql 3 q (.W9 1)) r λs t=>wg a true (W.pick c (.bool true) s) t λu v=>bH a true u v λd w=>wg d false (W.faddr 0 b) w λx h=>wg d false (wl x h) h λy z=>wg d false (wb .eql 3 y (.W9 2)) z λA B=>wg a true (W.pick d (.bool true) A) B λC D=>W.pick a C (.bool false) λE=>Q E D
def fm(Q:R)(e:SH)(b:AV):Prop:=aC 0 b e λk=>wb .eql 3 k (.W9 5) λc=>wg c true (W.faddr 5 b) e λl f=>wg c true (wl l f) f λm g=>W.grd c true (λn=>wc (.fn 60 []) [m] g λo p=>n o p) g λq r=>wg c true (W.un .not q) r λs t=>W.pick c s (.bool false) λa=>wg a false (W.faddr 0 b) t λu h=>wg a false (wl u h) h λv w=>wg a false (wb .neq 3 v (.W9 5)) w λx y=>bH a false x y λd z=>wg d true (W.faddr 5 b) z λA i=>wg d true (wl A i) i λB C=>wg d true (wb .neq 9 B (.str [])) C λD E=>wg a false (W.pick d D (.bool false)) E λF j=>W.pick a (.bool true) F λG=>wk G (Q (.bool false) j) ((fk Q j b))
def jw(o:AV)(L:SH)(Q:R):Prop:=sf o L λa g=>aC 0 a g λp=>wb .lss 3 p (.W9 1) λd=>wg d false (W.faddr 0 a) g λq h=>wg d false (wl q h) h λr s=>wg d false (wb .gtr 3 r (.W9 6)) s λt u=>W.pick d (.bool true) t λc=>wg c false (W.faddr 2 a) u λv i=>wg c false (wl v i) i λw j=>W.grd c false (λx=>wc (.fn 60 []) [w] j λy z=>x y z) j λA B=>wg c false (W.un .not A) B λC D=>W.pick c (.bool true) C λe=>wg e false (W.faddr 3 a) D λE k=>wg e false (wl E k) k λF G=>wg e false (wb .lss 3 F (.W9 0)) G λH I=>W.pick e (.bool true) H λb=>wg b false (W.faddr 0 a) I λJ l=>wg b false (wl J l) l λM N=>wg b false (wb .neq 3 M (.W9 1)) N λO P=>bH b false O P λf S=>wg f true (W.faddr 3 a) S λT m=>wg f true (wl T m) m λU V=>wg f true (wb .neq 3 U (.W9 0)) V λX Y=>wg b false (W.pick f X (.bool false)) Y λZ n=>W.pick b (.bool true) Z λa0=>wk a0 (Q (.bool false) n) ((fm Q n a))
theorem qM(t0:AV)(L:SH)(Q:R)(h:jw t0 L Q):ai Tryz.prog 59 [t0] L Q:=
 fs [] [] [(0,[1])] [] Tryz.func59 h
def BU(Q:R)(b:Kn)(c d e:AV)(a:SH):Prop:=W.un .not e λf=>wk f (Q (.bool false) a) (wb .add 3 c (.W9 1) λg=>b [d,g] a)
def BV(Q:R)(b:Kn)(c d e f g:AV)(a:SH):Prop:=W.un .not g λh=>wk h (Q (.bool false) a) (wb .add 3 c (.W9 1) λi=>b [d,e,f,i] a)
def BW(Q:R)(e:Kn)(f g h i:AV)(j:SH):Prop:=W.un .not i λa=>wg a false (W.faddr 3 f) j λk b=>wg a false (wl k b) b λl c=>W.grd a false (λm=>wc (.fn 61 []) [l] c λn o=>m n o) c λp q=>wg a false (W.un .not p) q λr d=>W.pick a (.bool true) r λs=>wk s (Q (.bool false) d) (wb .add 3 g (.W9 1) λt=>e [h,t] d)
def nI(Q:R)(f:Kn)(g:Vs)(a:SH)(h:Kn):Prop:=yO 1 4 5 6 g λd e b c=>aC 2 b a λi=>W.len i λj=>wb .lss 3 c j λk=>wk k (aC 2 b a λl=>wx 1 l c a λm=>wc (.fn 60 []) [m] a (BV Q h c d e b)) (aC 0 b a λn=>wc (.fn 60 []) [n] a (BW Q f b e d))
def BX(Q:R)(d:Kn)(a:SH)(b c:AV):Prop:=aC 1 b a λe=>lE 4 e c a λf=>qn [(.str []),(.W9 0),.nils,.nils] 4 f a λg h=>W.loop (nI Q d) [b,c,g,(.W9 0)] h
def nJ(Q:R)(d:Vs)(a:SH)(e:Kn):Prop:=Pv 1 4 d λb c=>aC 1 b a λf=>W.len f λg=>wb .lss 3 c g λh=>wk h ((BX Q e a b c)) (aC 1 b a λi=>W.len i λj=>wb .gtr 3 j (.W9 0) λk=>Q k a)
def nK(Q:R)(d:Vs)(a:SH)(e:Kn):Prop:=Pv 1 3 d λb c=>aC 0 b a λf=>W.len f λg=>wb .lss 3 c g λh=>wk h (aC 0 b a λi=>lE 6 i c a λj=>wc (.fn 59 []) [j] a (BU Q e c b)) (W.loop (nJ Q) [b,(.W9 0)] a)
def pP(a:AV)(L:SH)(Q:R):Prop:=sf a L λb c=>W.loop (nK Q) [b,(.W9 0)] c
theorem BY(t0:AV)(L:SH)(Q:R)(h:pP t0 L Q):ai Tryz.prog 37 [t0] L Q:=
 fs [] [(2,[1,3]),(11,[1,4,5,6]),(7,[1,4])] [(0,[1]),(9,[5])] [] Tryz.func37 h
def fL(Q:R)(e:Vs)(a:SH)(f:Kn):Prop:=vO 0 1 5 e λc d b=>W.len c λg=>wb .lss 3 b g λh=>wk h (wx 1 c b a λi=>wb .eql 9 i d λj=>wk j (Q b a) (wb .add 3 b (.W9 1) λk=>f [c,d,k] a)) (Q (.W9 (-1)) a)
def m7(a b:AV)(L:SH)(Q:R):Prop:=W.loop (fL Q) [a,b,(.W9 0)] L
theorem pQ(t0 t1:AV)(L:SH)(Q:R)(h:m7 t0 t1 L Q):ai Tryz.prog 64 [t0,t1] L Q:=
 fs [] [(2,[0,1,5])] [] [] Tryz.func64 h
def nL(Q:R)(e:Vs)(a:SH)(f:Kn):Prop:=vO 0 1 5 e λc d b=>W.len c λg=>wb .lss 3 b g λh=>wk h (eE 6 2 c b a λi=>wb .eql 9 i d λj=>wk j (Q b a) (wb .add 3 b (.W9 1) λk=>f [c,d,k] a)) (Q (.W9 (-1)) a)
def pR(a b:AV)(L:SH)(Q:R):Prop:=W.loop (nL Q) [a,b,(.W9 0)] L
theorem BZ(t0 t1:AV)(L:SH)(Q:R)(h:pR t0 t1 L Q):ai Tryz.prog 62 [t0,t1] L Q:=
 fs [] [(2,[0,1,5])] [] [] Tryz.func62 h
def kE(Q:R)(e:Vs)(a:SH)(f:Kn):Prop:=vO 0 1 5 e λc d b=>W.len c λg=>wb .lss 3 b g λh=>wk h (eE 4 0 c b a λi=>wb .eql 9 i d λj=>wk j (Q b a) (wb .add 3 b (.W9 1) λk=>f [c,d,k] a)) (Q (.W9 (-1)) a)
def l7(a b:AV)(L:SH)(Q:R):Prop:=W.loop (kE Q) [a,b,(.W9 0)] L
theorem xD(t0 t1:AV)(L:SH)(Q:R)(h:l7 t0 t1 L Q):ai Tryz.prog 63 [t0,t1] L Q:=
 fs [] [(2,[0,1,5])] [] [] Tryz.func63 h
def B0(Q:R)(b:AV)(a:SH):Prop:=wb .geq 3 b (.W9 0) λc=>wk c (Q (.W9 7) a) (Q (.W9 0) a)
def B1(Q:R)(b:Vs)(a:SH):Prop:=vO 3 7 56 b λc d e=>wk e (aC 0 c a λf=>eE 6 0 f d a λg=>Q g a) (Q (.W9 9) a)
def B2(a:Kn)(b:SH)(c d e:AV):Prop:=wb .eql 3 c (.W9 4) λf=>wk f (a [d,e,f] b) (wb .eql 3 c (.W9 5) λg=>wk g (a [d,e,g] b) (wb .eql 3 c (.W9 6) λh=>a [d,e,h] b))
def B3(Q:R)(a:SH)(b c d:AV):Prop:=wb .eql 3 b (.W9 2) λg=>wk g (Q (.W9 1) a) (W.join (B1 Q) λe=>wb .eql 3 b (.W9 3) λf=>wk f (e [c,d,f] a) ((B2 e a b c d)))
def B4(Q:R)(a:SH)(b c:AV):Prop:=aC 0 b a λe=>eE 6 0 e c a λd=>wb .eql 3 d (.W9 1) λf=>wk f (aC 0 b a λg=>eE 6 3 g c a λh=>wb .neq 3 h (.W9 0) λi=>wk i (Q (.W9 2) a) (Q (.W9 1) a)) ((B3 Q a d b c))
def B5(Q:R)(d b c:AV)(a:SH):Prop:=wb .lss 3 c (.W9 0) λe=>wk e (aC 1 b a λf=>wc (.fn 63 []) [f,d] a (B0 Q)) ((B4 Q a b c))
def pS(l d e:AV)(L:SH)(Q:R):Prop:=sf l L λc m=>wb .geq 3 d (.W9 0) λb=>bH b true d m λn o=>wg b true (W.faddr 1 c) o λp g=>wg b true (wl p g) g λq r=>wg b true (W.len q) r λs t=>wg b true (wb .lss 3 n s) t λu v=>W.pick b u (.bool false) λa=>wg a true (W.faddr 1 c) v λw h=>wg a true (wl w h) h λx y=>bH a true d y λz i=>wg a true (W.idx 4 x z i) i λA B=>wg a true (W.faddr 2 A) B λC j=>wg a true (wl C j) j λD E=>bH a true e E λF k=>W.grd a true (λG=>wc (.fn 64 []) [D,F] k λH I=>G H I) k λJ M=>wg a true (wb .geq 3 J (.W9 0)) M λN f=>W.pick a N (.bool false) λO=>wk O (Q (.W9 8) f) (aC 0 c f λP=>wc (.fn 62 []) [P,e] f (B5 Q e c))
theorem B6(t0 t1 t2:AV)(L:SH)(Q:R)(h:pS t0 t1 t2 L Q):ai Tryz.prog 125 [t0,t1,t2] L Q:=
 fs [(18,[3,7,56])] [] [(0,[3])] [] Tryz.func125 h
def E0(Q:R)(d:SH)(e f b:AV):Prop:=wb .neq 3 b e λa=>bH a true b d λg h=>bH a true f h λi j=>wg a true (wb .neq 3 g i) j λk c=>W.pick a k (.bool false) λl=>wk l (Q (.W9 6) c) (Q (.W9 0) c)
def E1(Q:R)(c d a:AV)(b:SH):Prop:=wb .eql 3 a (.W9 0) λe=>wk e (Q (.W9 5) b) ((E0 Q b c d a))
def m8(b c d e f:AV)(L:SH)(Q:R):Prop:=sf b L λg a=>ca 2 g a λh=>wc (.fn 125 []) [h,c,d] a (E1 Q e f)
theorem sj(t0 t1 t2 t3 t4:AV)(L:SH)(Q:R)(h:m8 t0 t1 t2 t3 t4 L Q):ai Tryz.prog 102 [t0,t1,t2,t3,t4] L Q:=
 fs [] [] [(0,[5])] [] Tryz.func102 h
def Dy(b:Kn)(c d e f a:AV)(g:SH):Prop:=W.ext 0 a λh=>W.ext 1 a λi=>wb .add 3 c h λj=>W.mnx true d i λk=>wb .add 3 e (.W9 1) λl=>b [f,j,k,l] g
def pT(Q:R)(f:Vs)(a:SH)(g:Kn):Prop:=yO 1 4 5 6 f λb d e c=>aC 3 b a λh=>W.len h λi=>wb .lss 3 c i λj=>wk j (aC 3 b a λk=>lE 4 k c a λl=>wc (.fn 126 []) [l] a (Dy g d e c b)) (wb .add 3 e (.W9 1) λm=>Q (.tup [d,m]) a)
def sk(a:AV)(L:SH)(Q:R):Prop:=sf a L λb c=>W.loop (pT Q) [b,(.W9 1),(.W9 0),(.W9 0)] c
theorem Dz(t0:AV)(L:SH)(Q:R)(h:sk t0 L Q):ai Tryz.prog 126 [t0] L Q:=
 fs [] [(3,[1,4,5,6])] [(0,[1])] [] Tryz.func126 h
def DA(a:Kn)(b:SH)(c d e f g:AV)(h:SH)(i:Ns):Prop:=wn [] i [] b.names λk=>wb .add 3 c (.W9 1) λj=>a [d,e,f,g,j] h
def DB(g:Kn)(a:SH)(c d e f:AV):Prop:=(true=true)∧(dr [] 0 2 c a λh b=>aO 3 d [rm 0 b] 3 a λi l=>di [rm 0 b] 5 4 i e a λj m=>dr [rm 0 b] 6 4 j a λk n=>wd [] 7 (.fn 127 []) [h,f,k] a (DA g a e f c d))
def pU(Q:R)(g:Vs)(b:SH)(h:Kn):Prop:=He 1 3 5 7 8 g λi j c d e=>aC 3 c b λk=>W.len k λl=>wb .lss 3 e l λa=>bH a true d b λm n=>wg a true (wb .eql 59 m (.W9 0)) n λo f=>W.pick a o (.bool false) λp=>wk p ((DB h f j c e i)) (Q d f)
def jx(Q:R)(a:Vs)(b:SH):Prop:=yO 1 3 5 7 a λc d e f=>W.loop (pU Q) [c,d,e,f,(.W9 0)] b
def DC(e:Kn)(a:SH)(b f c d:AV):Prop:=wb .eql 3 f (.W9 3) λg=>wk g (ca 2 c a λh=>aC 2 d a λi=>wc (.fn 102 []) [h,b,i,(.W9 2),(.W9 2)] a λj k=>e [b,c,d,j] k) (e [b,c,d,(.W9 0)] a)
def sn(g c h:AV)(L:SH)(Q:R):Prop:=W.box g L λi j=>W.box h j λk l=>W.frz1 i l λd m=>W.frz1 k m λb a=>W.join (jx Q) λe=>aC 0 b a λf=>wb .eql 3 f (.W9 2) λn=>wk n (ca 2 d a λo=>aC 2 b a λp=>wc (.fn 102 []) [o,c,p,(.W9 8),(.W9 1)] a λq r=>e [c,d,b,q] r) ((DC e a c f d b))
theorem DD(t0 t1 t2:AV)(L:SH)(Q:R)(h:sn t0 t1 t2 L Q):ai Tryz.prog 127 [t0,t1,t2] L Q:=
 fs [(6,[1,3,5,7])] [(8,[1,3,5,7,8])] [(0,[3,5])] [(10,[0,0,0,4,0,28,60,127,255])] Tryz.func127 h
def E2(Q:R)(d e f c:AV)(g:SH):Prop:=W.ext 0 c λh=>W.ext 1 c λi=>wb .gtr 3 h (.W9 24) λb=>bH b false i g λj k=>wg b false (wb .gtr 3 j (.W9 6)) k λl a=>W.pick b (.bool true) l λm=>wk m (Q (.W9 2) a) (ca 2 e a λn=>ca 4 f a λo=>wc (.fn 127 []) [n,d,o] a λp q=>Q p q)
def E3(Q:R)(c b d e:AV)(a:SH):Prop:=W.un .not e λf=>wk f (Q (.W9 3) a) (ca 4 b a λg=>wc (.fn 126 []) [g] a (E2 Q c d b))
def xE(c d e:AV)(L:SH)(Q:R):Prop:=W.box c L λf g=>W.box e g λh i=>W.frz1 f i λj k=>W.frz1 h k λa b=>ca 4 a b λl=>wc (.fn 123 []) [l] b (E3 Q d a j)
theorem E4(t0 t1 t2:AV)(L:SH)(Q:R)(h:xE t0 t1 t2 L Q):ai Tryz.prog 103 [t0,t1,t2] L Q:=
 fs [] [] [(0,[3,5])] [] Tryz.func103 h
def nM(a:AV)(L:SH)(Q:R):Prop:=wk a (Q (.W9 7) L) (Q (.W9 0) L)
theorem zS(t0:AV)(L:SH)(Q:R)(h:nM t0 L Q):ai Tryz.prog 104 [t0] L Q:=
 fs [] [] [] [] Tryz.func104 h
def DE(a b:AV)(L:SH)(Q:R):Prop:=wb .neq 59 a (.W9 0) λc=>wk c (Q a L) (Q b L)
theorem Ix(t0 t1:AV)(L:SH)(Q:R)(h:DE t0 t1 L Q):ai Tryz.prog 101 [t0,t1] L Q:=
 fs [] [] [] [] Tryz.func101 h
def DF(a:Kn)(b:SH)(c d e f:AV)(g:SH)(h:Ns):Prop:=wn [] h [] b.names λk=>wb .add 3 c f λi=>wb .add 3 d (.W9 1) λj=>a [e,i,j] g
def DG(g:Kn)(h:SH)(i b c:AV)(d e:Fp)(j:AV)(a:SH)(k:Ns):Prop:=wn [] k [] h.names λf=>wb .add 3 i j λl=>di [rc 6 f,rm 5 d,rm 3 e] 10 11 b c a λm o=>aO 10 m [rc 6 f,rm 5 d,rm 3 e] 12 a λn p=>wd [] 13 (.fn 40 []) [n] a (DF g a l c b)
def pV(Q:R)(e:Vs)(a:SH)(f:Kn):Prop:=vO 0 3 4 e λb d c=>W.len b λg=>wb .lss 3 c g λh=>wk h ((true=true)∧(di [] 3 11 b c a λi j=>aO 9 i [] 5 a λk l=>wd [] 6 (.fn 40 []) [k] a (DG f a d b c l j))) (Q d a)
def ss(a:AV)(L:SH)(Q:R):Prop:=W.len a λb=>W.loop (pV Q) [a,b,(.W9 0)] L
theorem DH(t0:AV)(L:SH)(Q:R)(h:ss t0 L Q):ai Tryz.prog 40 [t0] L Q:=
 fs [] [(3,[0,3,4])] [] [(5,[0,0,0,6,14,30,62,127,0,0,768,1792,3840,8062,16383,32767])] Tryz.func40 h
end
section
set_option maxRecDepth 100000
def gb(c:Int):Bool:=(decide (97≤c)&&decide (c≤122))||(decide (65≤c)&&decide (c≤90))
def zT(c:Int):Bool:=decide (48≤c)&&decide (c≤57)
def gP(c:Int):Bool:=gb c||zT c||decide (c=95)
theorem FR(c:Int):aB Tryz.prog 96 [.int .u8 c] (.bool (gb c)):=by
 refine nH _ _ _ ?_;unfold jr
 repeat' (first|refine st ?_|refine sb λnb_ hnb_=>?_|refine s2 (λh=>?_) λh=>?_|fail)
 all_goals (refine⟨?_,rfl⟩;simp_all[gb]<;>omega)
theorem N1(c:Int):aB Tryz.prog 122 [.int .u8 c] (.bool (zT c)):=by
 refine pL _ _ _ ?_;unfold ly
 repeat' (first|refine st ?_|refine sb λnb_ hnb_=>?_|refine s2 (λh=>?_) λh=>?_|fail)
 all_goals (refine⟨?_,rfl⟩;simp_all[zT]<;>omega)
theorem N2(c:Int):aB Tryz.prog 98 [.int .u8 c] (.bool (gP c)):=by
 refine pM _ _ _ ?_;unfold lz
 repeat' (first|refine st ?_|(refine pf 96 ?_;refine pm (FR _) ?_)|(refine pf 122 ?_;refine pm (N1 _) ?_)|refine sb λnb_ hnb_=>?_|refine s2 (λh=>?_) λh=>?_|fail)
 all_goals (refine⟨?_,rfl⟩;simp_all[gP]<;>omega)
def nN:List bj:=[[118,97,114],[118,111,108,97,116,105,108,101],[109,117,116,101,120],[114,119,108,111,99,107],[99,111,110,100],[102,117,116,117,114,101],[116,104,114,101,97,100],[105,102],[101,108,115,101],[119,104,105,108,101],[108,111,99,107],[114,101,97,100],[119,114,105,116,101],[116,114,97,110,115,97,99,116,105,111,110],[97,116,111,109,105,99],[119,97,105,116],[110,111,116,105,102,121],[110,111,116,105,102,121,97,108,108],[115,112,97,119,110],[106,111,105,110],[115,101,116],[103,101,116]]
theorem PL:aB Tryz.prog 121 [] (.lst (nN.map aw)):=by
 refine ai.fz (kD _ _ ?_);unfold gO
 repeat' (first|refine st ?_|refine sb λnb_ hnb_=>?_|refine s2 (λh=>?_) λh=>?_|fail)
 exact⟨_,[],aI.all (Fz.sls (l:=nN) (f:=aw) rp rfl W8 rfl),rfl,rfl⟩
def GK(s:bj):Bool:=nN.any λx=>decide (x=s)
theorem Sb(s:bj):aB Tryz.prog 97 [.str s] (.bool (GK s)):=by
 refine jt _ _ _ ?_;unfold fZ
 repeat' (first|refine st ?_|(refine pf 121 ?_;refine pm (PL) ?_)|refine sb λnb_ hnb_=>?_|refine s2 (λh=>?_) λh=>?_|fail)
 refine fp nN (λx=>decide (x=s)) (λi=>[.str s,.lst (nN.map aw),.W9 i]) W8 rfl (λi h1 hd hi hno nx hn=>?_) (λi h1 hd hno nx=>?_)
 all_goals unfold fD
 ·have hx:=az (f:=aw) h1
  repeat' (first|refine st ?_|refine sb λnb_ hnb_=>?_|refine s2 (λh=>?_) λh=>?_|fail)
  ·exact⟨by rw[GK,KU h1 h],rfl⟩
  ·exact hn h
 ·repeat' (first|refine st ?_|refine sb λnb_ hnb_=>?_|refine s2 (λh=>?_) λh=>?_|fail)
  exact⟨by rw[GK,Nq hno],rfl⟩
def eh(s:bj):Bool:=decide (1≤(s.length:Int))&&decide ((s.length:Int)≤12)&&gb (s.getD 0 0).toNat&&!GK s&&s.all λc=>gP c.toNat
theorem LR(s:bj)(hs:s.length<2^62):aB Tryz.prog 60 [.str s] (.bool (eh s)):=by
 refine iv _ _ _ ?_;unfold ga;generalize hQ:(λ(u:AV) (K:SH)=>u=AV.bool (eh s)∧K=[])=Q;have hq:Q (.bool (eh s)) []:=by subst hQ;exact⟨rfl,rfl⟩
 clear hQ;by_cases h0:0<s.length
 ·have d1:decide ((s.length:Int)<1)=false:=by simpa using(by omega:(1:Int)≤s.length)
  repeat' (first|refine st ?_|refine KV (i:=0) ?_ h0|(refine pf 96 ?_;refine pm (FR _) ?_)|(refine pf 97 ?_;refine pm (Sb _) ?_)|refine sb λnb_ hnb_=>?_|refine s2 (λh=>?_) λh=>?_|fail)
  all_goals first
   |(refine Eq.mp (congrArg (λb=>Q (AV.bool b) []) ?_) hq;simp_all[eh]<;>omega;done)
   |skip
  refine fp s (λc=>!gP c.toNat) (λi=>[.str s,.W9 i]) hs rfl (λi h1 hd hi hno nx hn=>?_) (λi h1 hd hno nx=>?_)
  all_goals unfold iu
  ·repeat' (first|refine st ?_|refine KV ?_|(refine pf 98 ?_;refine pm (N2 _) ?_)|refine sb λnb_ hnb_=>?_|refine s2 (λh=>?_) λh=>?_|fail)
   ·refine Eq.mp (congrArg (λb=>Q (AV.bool b) []) ?_) hq;have:(s.all λc=>gP c.toNat)=false:=Nr h1 (by simpa[List.getD,h1]using h);simp[eh,this]
   ·exact hn (by simpa[List.getD,h1]using h)
  ·repeat' (first|refine st ?_|refine sb λnb_ hnb_=>?_|refine s2 (λh=>?_) λh=>?_|fail)
   refine Eq.mp (congrArg (λb=>Q (AV.bool b) []) ?_) hq;have:(s.all λc=>gP c.toNat)=true:=VE.2 λx hx=>by simpa using hno x hx
   simp_all[eh]<;>omega
 ·have d1:decide ((s.length:Int)<1)=true:=by simpa using(by omega:(s.length:Int)<1)
  repeat' (first|refine st ?_|refine sb λnb_ hnb_=>?_|refine s2 (λh=>?_) λh=>?_|fail)
  refine Eq.mp (congrArg (λb=>Q (AV.bool b) []) ?_) hq;simp_all[eh]
end
structure DI(c:bb)(l:List bb):Prop where
 lo:1≤c.size
 hi:c.size≤4
 fits:c.size≤l.length
 eq:∀k:Nat,(k:Int)<c.size→l[k]? =some ⟨c.name,k,c.size,false,c.init⟩
inductive dK:List bb→List bj→Prop where
 |nil:dK [] []
 |one (c:bb) (l:List bb) (ns:List bj):c.size=0→c.index=0→dK l ns→dK (c::l) (c.name::ns)
 |arr (c:bb) (l:List bb) (ns:List bj):c.size≠0→DI c (c::l)→dK (l.drop (c.size.toNat-1)) ns→dK (c::l) (c.name::ns)
theorem dK.nil_iff{ns:List bj}:dK [] ns↔ns=[]:=⟨λh=>by cases h;rfl,λh=>by subst h;exact .nil⟩
theorem dK.one_iff{c:bb}{l:List bb}{ns:List bj}(h0:c.size=0):dK (c::l) ns↔c.index=0∧∃n2,ns=c.name::n2∧dK l n2:=by
 constructor
 ·intro h;cases h with
  |one _ _ n2 _ h2 h3=>exact⟨h2,n2,rfl,h3⟩
  |arr _ _ n2 h1=>exact absurd h0 h1
 ·rintro⟨h2,n2,rfl,h3⟩;exact .one _ _ _ h0 h2 h3
theorem dK.arr_iff{c:bb}{l:List bb}{ns:List bj}(h0:c.size≠0):dK (c::l) ns↔DI c (c::l)∧∃n2,ns=c.name::n2∧dK (l.drop (c.size.toNat-1)) n2:=by
 constructor
 ·intro h;cases h with
  |one _ _ n2 h1=>exact absurd h1 h0
  |arr _ _ n2 _ h2 h3=>exact⟨h2,n2,rfl,h3⟩
 ·rintro⟨h2,n2,rfl,h3⟩;exact .arr _ _ _ h0 h2 h3
def gA(l:List bb)(i:Nat)(acc:List bj):Prop:=i≤l.length∧acc.length≤i∧∀ns,dK l ns↔∃n2,ns=acc++n2∧dK (l.drop i) n2
theorem gA.zero(l:List bb):gA l 0 []:=⟨V1 _,Vo _,λns=>by simp⟩
theorem gA.step{l:List bb}{i:Nat}{acc:List bj}(h:gA l i acc)(hi:i<l.length)(h0:l[i].size=0)(h1:l[i].index=0):gA l (i+1) (acc++[l[i].name]):=by
 refine⟨hi,by have:=h.2.1;simp;omega,λns=>?_⟩;rw[h.2.2 ns,WF hi];constructor
 ·rintro⟨n2,rfl,h2⟩;obtain⟨_,n3,rfl,h3⟩:=(dK.one_iff h0).1 h2;exact⟨n3,W7,h3⟩
 ·rintro⟨n3,rfl,h3⟩;exact⟨l[i].name::n3,W7,(dK.one_iff h0).2 ⟨h1,n3,rfl,h3⟩⟩
theorem gA.jump{l:List bb}{i:Nat}{acc:List bj}(h:gA l i acc)(hi:i<l.length)(h0:l[i].size≠0)(hb:DI l[i] (l.drop i)):gA l (i+l[i].size.toNat) (acc++[l[i].name]):=by
 have hl:=hb.lo;have hf:=hb.fits;rw[WS]at hf;refine⟨W4,by have:=h.2.1;simp;omega,λns=>?_⟩;rw[h.2.2 ns];rw[WF hi]at hb ⊢;have e:(l.drop (i+1)).drop (l[i].size.toNat-1)=l.drop (i+l[i].size.toNat):=by rw[List.drop_drop];congr 1;omega
 constructor
 ·rintro⟨n2,rfl,h2⟩;obtain⟨_,n3,rfl,h3⟩:=(dK.arr_iff h0).1 h2;exact⟨n3,W7,e▸h3⟩
 ·rintro⟨n3,rfl,h3⟩;exact⟨l[i].name::n3,W7,(dK.arr_iff h0).2 ⟨hb,n3,rfl,e▸h3⟩⟩
theorem gA.done{l:List bb}{i:Nat}{acc:List bj}(h:gA l i acc)(hi:l.length≤i):dK l acc:=by rw[h.2.2 acc,List.drop_eq_nil_of_le hi];exact⟨[],W7,.nil⟩
theorem gA.no1{l:List bb}{i:Nat}{acc:List bj}(h:gA l i acc)(hi:i<l.length)(h0:l[i].size=0)(h1:l[i].index≠0):∀ns,¬dK l ns:=λns hn=>by rw[h.2.2 ns,WF hi]at hn;obtain⟨n2,_,h2⟩:=hn;exact h1 ((dK.one_iff h0).1 h2).1
theorem gA.no2{l:List bb}{i:Nat}{acc:List bj}(h:gA l i acc)(hi:i<l.length)(h0:l[i].size≠0)(hb:¬DI l[i] (l.drop i)):∀ns,¬dK l ns:=λns hn=>by rw[h.2.2 ns]at hn;rw[WF hi]at hn hb;obtain⟨n2,_,h2⟩:=hn;exact hb ((dK.arr_iff h0).1 h2).1
theorem dK.uniq{l:List bb}{a b:List bj}(h:dK l a):dK l b→a=b:=by
 induction h generalizing b with
 |nil=>intro h2;rw[dK.nil_iff.1 h2]
 |one c l ns h0 h1 _ ih=>intro h2;obtain⟨_,n2,rfl,h3⟩:=(dK.one_iff h0).1 h2;rw[ih h3]
 |arr c l ns h0 h1 _ ih=>intro h2;obtain⟨_,n2,rfl,h3⟩:=(dK.arr_iff h0).1 h2;rw[ih h3]
theorem dK.len{l:List bb}{a:List bj}(h:dK l a):a.length≤l.length:=by
 induction h with
 |nil=>exact Vo _
 |one c l ns h0 h1 _ ih=>simpa using ih
 |arr c l ns h0 h1 _ ih=>rw[WS]at ih;simp only[VL];omega
def nO(w:aN)(ns:List bj):List bj:=ns++w.locks.map cb.name++w.conds.map cX.name++w.futures++w.threads
def E5(n:Nat):Int→Int→List cM→Prop
 |_,_,[]=>True
 |t,x,s::l=>t≤s.thread∧s.thread<n∧s.stmt=(if t<s.thread then 0 else x)∧E5 n s.thread (s.stmt+1) l
structure Iy(w:aN):Prop where
 c12:w.cells.length≤12
 l4:w.locks.length≤4
 d2:w.conds.length≤2
 f2:w.futures.length≤2
 s60:w.sites.length≤60
 t1:1≤w.threads.length
 t4:w.threads.length≤4
 names:∃ns,dK w.cells ns∧(∀s∈nO w ns,eh s=true)∧(nO w ns).Nodup
 mtx:∀c∈w.conds,Ie w c.mutex false=true
 sites:E5 w.threads.length 0 0 w.sites
section
set_option maxRecDepth 100000
set_option maxHeartbeats 1000000
theorem DJ{α:Type}(S:α→List AV×SH)(m:α→Nat)(G:α→Prop){B:List AV→SH→W.Kn→Prop}{vs:List AV}{L:SH}(a0:α)(h0:G a0)(hz:aI vs L (S a0).1 (S a0).2)
  (h:∀a,G a→∀nx:W.Kn,(∀a',G a'→m a'<m a→∀vs' L',aI vs' L' (S a').1 (S a').2→nx vs' L')→B (S a).1 (S a).2 nx):W.loop B vs L:=by
 refine⟨λn vs L=>∃a,G a∧m a=n∧vs=(S a).1∧L=(S a).2,⟨m a0,_,_,hz,a0,h0,rfl,rfl,rfl⟩,?_⟩;rintro n vs L ⟨a,ha,rfl,rfl,rfl⟩;exact h a ha _ λa' g1 g2 vs' L' g3=>⟨m a',_,_,g2,g3,a',g1,rfl,rfl,rfl⟩
theorem PM{K:AV→Prop}(x y:bb)(h:K (.bool (m4 (x≠y)))):W.bin Tryz.prog Fl .neq 58 (.agg x.enc) (.agg y.enc) K:=by
 rw[eZ];refine⟨.bool (m4 (x≠y)),?_,h⟩;have hF:Fl 58=some [9,3,3,4,2]:=by kernel_rfl
 have hi:Tryz.prog.underlying 3=some (.int .i64):=by kernel_rfl
 have hj:Tryz.prog.underlying 2=some (.int .i64):=by kernel_rfl
 have hb:Tryz.prog.underlying 4=some .bool:=by kernel_rfl
 have hs:Tryz.prog.underlying 9=some .string:=by kernel_rfl
 obtain⟨a1,a2,a3,a4,a5⟩:=x;obtain⟨b1,b2,b3,b4,b5⟩:=y;have he:m4 ((⟨a1,a2,a3,a4,a5⟩:bb)≠⟨b1,b2,b3,b4,b5⟩)=!(decide (a1=b1)&&decide (a2=b2)&&decide (a3=b3)&&decide (a4=b4)&&decide (a5=b5)):=by
  cases hd:(decide (a1=b1)&&decide (a2=b2)&&decide (a3=b3)&&decide (a4=b4)&&decide (a5=b5))with
  |true=>exact jp λhh=>hh (by simpa[and_assoc]using hd)
  |false=>
   refine kB λhh=>?_
   rw[bb.mk.injEq]at hh;obtain⟨h1,h2,h3,h4,h5⟩:=hh;simp[h1,h2,h3,h4,h5]at hd
 rw[he];simp only[gX,bb.enc,hF,Wc,F2,AL,hi,hj,hb,hs,if_true];by_cases h1:a1=b1<;>by_cases h2:a2=b2<;>by_cases h3:a3=b3<;>by_cases h4:a4=b4<;>by_cases h5:a5=b5<;>simp[h1,h2,h3,h4,h5]
theorem LS{K:AV→Prop}(x y:bb)(h:K (.bool (m4 (x≠y)))):wb .neq 58 (.agg x.enc) (.agg y.enc) K:=mN (PM x y h)
section
variable {l:List bb} {Q:R} {nm:bj} {sz ini:Int} {i nb bs bw:Nat} {n1:W.Kn} (hl:l.length≤12) (h1:1≤sz) (h4:sz≤4) (hf:sz≤(l.length-i:Nat))
 (hno:¬DI ⟨nm,0,sz,false,ini⟩ (l.drop i)→∀L,Q (.tup [.nils,.bool false]) L) (x:AV) (X Y:Blk)
 (hgo:DI ⟨nm,0,sz,false,ini⟩ (l.drop i)→∀ix,n1 [.lst (l.map bb.enc),x,.W9 ((i+sz.toNat:Nat):Int)] [(nb,X),(bs,Y),(bw,⟨5,[[.str nm,.W9 ix,.W9 sz,.bool false,.W9 ini]]⟩)])
include hl h1 h4 hf hno hgo
theorem T9(ix:Int):W.loop (dW Q n1) [.lst (l.map bb.enc),x,.W9 (i:Int),.ptr bw 0 0,.W9 sz,.W9 0] [(nb,X),(bs,Y),(bw,⟨5,[[.str nm,.W9 ix,.W9 sz,.bool false,.W9 ini]]⟩)]:=by
 obtain⟨m,rfl⟩:=Int.eq_ofNat_of_zero_le (show 0≤sz by omega);refine DJ (α:=Nat×Int) (λa=>([.lst (l.map bb.enc),x,.W9 (i:Int),.ptr bw 0 0,.W9 (m:Int),.W9 (a.1:Int)],[(nb,X),(bs,Y),(bw,⟨5,[[.str nm,.W9 a.2,.W9 (m:Int),.bool false,.W9 ini]]⟩)])) (λa=>m-a.1) (λa=>a.1≤m∧∀j,j<a.1→l[i+j]? =some ⟨nm,j,m,false,ini⟩) (0,ix) ⟨Nat.zero_le _,λj h=>absurd h (Nat.not_lt_zero _)⟩ (.refl _ _) ?_;rintro⟨k,y⟩ ⟨hk,hG⟩ nx hnx;unfold dW;dsimp only at *;rcases Nat.lt_or_ge k m with h|h
 ·have d1:decide ((k:Int)<(m:Int))=true:=bF h;have hw1:IntKind.i64.wrap ((k:Int)+1)=((k+1:Nat):Int):=aE h W4;have hw2:IntKind.i64.wrap ((i:Int)+(k:Int))=((i+k:Nat):Int):=by rw[We _ W4];omega
  have hik:i+k<l.length:=by omega
  have hx:=az (f:=bb.enc) hik;have hxe:l[i+k]? =some l[i+k]:=Vn hik;generalize l[i+k]=c at hx hxe;have hne:m4 (c≠⟨nm,k,m,false,ini⟩)=true→∀L,Q (.tup [.nils,.bool false]) L:=λhd=>hno λhb=>by have h2:=hb.eq k (by show(k:Int)<(m:Int);omega);rw[Wg,hxe]at h2;cases h2;exact kC.1 hd rfl
  have hye:m4 (c≠⟨nm,k,m,false,ini⟩)=false→∀j,j<k+1→l[i+j]? =some ⟨nm,j,m,false,ini⟩:=λhd j hj=>by
   rcases Vt j k with g|g
   ·exact hG j g
   ·have e:j=k:=by omega
    subst e;rw[hxe];by_cases hc:c=⟨nm,j,m,false,ini⟩
    ·rw[hc]
    ·rw[kB hc]at hd;cases hd
  repeat' (first|refine st ?_|refine LS c ⟨nm,k,m,false,ini⟩ ?_|refine sb λnb_ hnb_=>?_|refine s2 (λh=>?_) λh=>?_|fail)
  ·exact hne W5 _
  ·exact hnx (k+1,k) ⟨by dsimp only;omega,hye W5⟩ (by dsimp only;omega) _ _ (.refl _ _)
 ·have d1:decide ((k:Int)<(m:Int))=false:=bM h;have hw2:IntKind.i64.wrap ((i:Int)+(m:Int))=((i+m:Nat):Int):=by rw[We _ W4];omega
  obtain rfl:k=m:=by omega
  repeat' (first|refine st ?_|refine sb λnb_ hnb_=>?_|refine s2 (λh=>?_) λh=>?_|fail)
  exact hgo ⟨h1,h4,by rw[WS];omega,λj hj=>by rw[Wg];exact hG j (by simpa using hj)⟩ y
end
theorem su (l : List bb) (hl : l.length ≤ 12) {Q : R} (hy : ∀ ns L v, dK l ns → Fz L v (.lst (ns.map aw)) → Q (.tup [v, .bool true]) L) (hn : (∀ ns, ¬ dK l ns) → ∀ L, Q (.tup [.nils, .bool false]) L) :
    eI (.lst (l.map bb.enc)) [] Q:=by
  unfold eI;refine DJ (α:=Nat×List bj×Option Nat) (λa=>([.lst (l.map bb.enc),aq a.2.2 a.2.1.length,.W9 (a.1:Int)],ah a.2.2 1 (a.2.1.map aw))) (λa=>l.length-a.1) (λa=>gA l a.1 a.2.1∧(a.2.2=none→a.2.1=[])) (0,[],none) ⟨.zero l,λ_=>rfl⟩ (aI.drop (K:=[]) (.refl _) rfl ((jd.cons (.refl _) (.cons .nile (.cons (.refl _) .nil))).at_.2)) ?_;rintro⟨i,acc,o⟩ ⟨hV,ho⟩ nx hnx;unfold gx;dsimp only at *;have hva:=hV.2.1;rcases Nat.lt_or_ge i l.length with h|h
  · have hx:=az (f:=bb.enc) h
    have d1:decide ((i:Int)<(l.length:Int))=true:=bF h;have hw1:IntKind.i64.wrap ((i:Int)+1)=((i+1:Nat):Int):=aE h W4;have hw2:IntKind.i64.wrap ((l.length:Int)-(i:Int))=((l.length-i:Nat):Int):=by rw[We _ W4];omega
    have hs0:l[i].size=0→l[i].index≠0→∀ns,¬dK l ns:=hV.no1 h;have hs1:l[i].size=0→l[i].index=0→gA l (i+1) (acc++[l[i].name]):=hV.step h;have hs2:l[i].size≠0→¬DI l[i] (l.drop i)→∀ns,¬dK l ns:=hV.no2 h;have hs3:l[i].size≠0→DI l[i] (l.drop i)→gA l (i+l[i].size.toNat) (acc++[l[i].name]):=hV.jump h;have hgo:∀j nb_ L',gA l j (acc++[l[i].name])→i<j→gI L' [(nb_,⟨1,acc.map aw++[[.str l[i].name]]⟩)]→nx [.lst (l.map bb.enc),.sl nb_ 0 (acc.length+1),.W9 (j:Int)] L':=λj nb_ L' h1 h2 h3=>
      hnx (j,acc++[l[i].name],some nb_) ⟨h1,nofun⟩ (by have:=h1.1;dsimp only;omega) _ _ (aI.pickE h3 (by simp[aq]) (by simp[ah,aw]))
    have hxe:(l.drop i)[0]? =some l[i]:=by rw[Wg];exact Vn h
    clear hnx hV;generalize l[i]=c at *;obtain⟨nm,ix,sz,vo,ini⟩:=c;unfold bb.enc at hx;dsimp only at *;have hbe:DI ⟨nm,ix,sz,vo,ini⟩ (l.drop i)→1≤sz∧sz≤4∧vo=false∧sz≤(l.length-i:Nat):=λhb=>by have h1:=hb.lo;have h2:=hb.eq 0 (by show(0:Int)<sz;have:=hb.lo;dsimp only at this;omega);rw[hxe]at h2;cases h2;exact⟨h1,hb.hi,rfl,by have:=hb.fits;rw[List.length_drop]at this;exact this⟩
    have hbq:DI ⟨nm,0,sz,false,ini⟩ (l.drop i)→DI ⟨nm,ix,sz,vo,ini⟩ (l.drop i):=λhb=>by have h2:=hb.eq 0 (by show(0:Int)<sz;have:=hb.lo;dsimp only at this;omega);rw[hxe]at h2;cases h2;exact hb
    repeat' (first|refine st ?_|refine cy mm rp W7 (λe=>by simp[ho e]) W6 W7 (by simp;omega) (by simp;omega) W6 (λnb_ hnb_=>?_)|refine sb λnb_ hnb_=>?_|refine s2 (λh=>?_) λh=>?_|fail)
    all_goals first
      |exact hn (hs0 (of_decide_eq_true W5) (of_decide_eq_true W5)) _
      |(refine hgo (i+1) _ _ (hs1 (of_decide_eq_true W5) ?_) (Nat.lt_succ_self _) rp;clear hgo hn hy hs0 hs1 hs2 hs3 hbe hbq;simp only[ne_eq,decide_eq_false_iff_not,Decidable.not_not]at *;assumption)
      | (refine hn (hs2 (of_decide_eq_false W5) fun hb => ?_) _
         have hb:=hbe hb;clear hgo hn hy hs0 hs1 hs2 hs3 hbe hbq
         (simp only[decide_eq_true_eq,decide_eq_false_iff_not]at *;simp_all<;>omega))
      |skip
    rename_i h1 h2 h3 h4;subst h4;simp only[decide_eq_false_iff_not]at h h1 h2 h3;refine T9 hl W4 W4 W4 (λhb=>hn (hs2 W4 λhc=>hb ?_)) _ _ _ (λhb y=>hgo _ _ _ (hs3 W4 (hbq hb)) (by have:=hb.lo;dsimp only at this;omega) rp) ix;have h5:=hc.eq 0 (by show(0:Int)<sz;omega);rw[hxe]at h5;cases h5;exact hc
  · have d1:decide ((i:Int)<(l.length:Int))=false:=bM h
    repeat' (first|refine st ?_|refine sb λnb_ hnb_=>?_|refine s2 (λh=>?_) λh=>?_|fail)
    exact hy acc _ _ (hV.done h) (Fz.slot rfl (λe=>by simp[ho e]) W8 (λ_ _=>rfl) λ_ _ q a a2 h1 h2=>by rw[h1]at h2;cases h2;exact .refl _)
end
section
set_option maxRecDepth 100000
def oG(e:Kn)(a:SH)(b c f g h:AV):Prop:=lE 2 b c a λi=>qn [(.str []),(.bool false)] 2 i a λj d=>aC 0 j d λk=>W.bslice 1 [(.str [])] 1 [(0,k)] d λl m=>W.append 1 16 f l m λn o=>wb .add 3 c (.W9 1) λp=>e [g,n,b,h,p] o
def oH(e:Kn)(a:SH)(b c f g h:AV):Prop:=lE 2 b c a λi=>qn [(.str []),(.W9 0)] 2 i a λj d=>aC 0 j d λk=>W.bslice 1 [(.str [])] 1 [(0,k)] d λl m=>W.append 1 16 f l m λn o=>wb .add 3 c (.W9 1) λp=>e [g,n,b,h,p] o
def oI(Q:R)(f:Kn)(b c g h i j:AV)(k:SH):Prop:=W.un .not j λa=>bH a false b k λl m=>bH a false c m λn d=>wg a false (W.look (.bool false) false l n d) d λo e=>W.pick a (.bool true) o λp=>wk p (Q (.bool false) e) (W.mup b c (.bool true) e λq=>wb .add 3 g (.W9 1) λr=>f [b,h,i,r] q)
def dX(Q:R)(f:Vs)(a:SH)(g:Kn):Prop:=yO 10 51 52 53 f λh c d b=>wb .lss 3 b d λi=>wk i (wx 1 c b a λe=>wc (.fn 76 []) [e] a (oI Q g h e b c d)) (Q (.bool true) a)
def oJ(Q:R)(a:SH)(b e:AV):Prop:=aC 3 b a λf=>W.append 1 16 e f a λg c=>aC 4 b c λh=>W.append 1 16 g h c λd i=>W.mkmap i λj k=>W.len d λl=>W.loop (dX Q) [j,d,l,(.W9 0)] k
def dY(Q:R)(f:Vs)(a:SH)(g:Kn):Prop:=He 2 5 30 31 32 f λb c h d e=>wb .lss 3 e d λi=>wk i ((oH g a h e c b d)) ((oJ Q a b c))
def dZ(Q:R)(g:Vs)(a:SH)(h:Kn):Prop:=He 2 5 17 18 19 g λb c i d e=>wb .lss 3 e d λj=>wk j ((oG h a i e c b d)) (aC 2 b a λf=>W.len f λk=>W.loop (dY Q) [b,c,f,k,(.W9 0)] a)
def eJ(d e:AV)(L:SH)(Q:R):Prop:=sf d L λa f=>W.append 1 16 .nils e f λg b=>aC 1 a b λc=>W.len c λh=>W.loop (dZ Q) [a,g,c,h,(.W9 0)] b
theorem oK(t0 t1:AV)(L:SH)(Q:R)(h:eJ t0 t1 L Q):ai Tryz.prog 47 [t0,t1] L Q:=
 fs [] [(4,[2,5,17,18,19]),(9,[2,5,30,31,32]),(17,[10,51,52,53])] [(0,[2]),(5,[7]),(10,[9])] [] Tryz.func47 h
def B7(Q:R)(f:Kn)(g:SH)(h c i:AV):Prop:=wb .gtr 3 h (.W9 0) λa=>bH a true c g λj k=>wg a true (wb .eql 21 j (.int .i32 95)) k λl m=>bH a true l m λb n=>bH b false c n λo p=>wg b false (wb .leq 21 (.int .i32 48) o) p λq r=>bH b false q r λd s=>bH d true c s λt u=>wg d true (wb .leq 21 t (.int .i32 57)) u λv w=>wg b false (W.pick d v (.bool false)) w λx y=>wg a true (W.pick b (.bool true) x) y λz e=>W.pick a z (.bool false) λA=>wk A (f [i] e) (Q (.bool false) e)
def B8(Q:R)(e:Kn)(i:SH)(f g:AV):Prop:=W.ext 1 f λj=>W.ext 2 f λa=>wb .leq 21 (.int .i32 97) a λc=>bH c true a i λk l=>wg c true (wb .leq 21 k (.int .i32 122)) l λm n=>W.pick c m (.bool false) λb=>bH b false a n λo p=>wg b false (wb .leq 21 (.int .i32 65) o) p λq r=>bH b false q r λd s=>bH d true a s λt u=>wg d true (wb .leq 21 t (.int .i32 90)) u λv w=>wg b false (W.pick d v (.bool false)) w λx h=>W.pick b (.bool true) x λy=>wk y (e [g] h) ((B7 Q e h j a g))
def nP(Q:R)(d:Vs)(e:SH)(f:Kn):Prop:=U5 18 d λa=>W.nxt a e λb c=>W.ext 0 b λg=>wk g ((B8 Q f c b a)) (Q (.bool true) c)
def pW(a:AV)(L:SH)(Q:R):Prop:=W.lenS a λf=>wb .lss 3 f (.W9 1) λb=>bH b false a L λg h=>wg b false (W.lenS g) h λi j=>wg b false (wb .gtr 3 i (.W9 12)) j λk l=>W.pick b (.bool true) k λc=>bH c false a l λm d=>W.grd c false (λn=>wc (.fn 106 []) [m] d λo p=>n o p) d λq e=>W.pick c (.bool true) q λr=>wk r (Q (.bool false) e) (W.rngS a e λs t=>W.loop (nP Q) [s] t)
theorem B9(t0:AV)(L:SH)(Q:R)(h:pW t0 L Q):ai Tryz.prog 76 [t0] L Q:=
 fs [] [(4,[18])] [] [] Tryz.func76 h
def jy(Q:R)(e:Vs)(a:SH)(f:Kn):Prop:=vO 0 5 6 e λc d b=>wb .lss 3 b (.W9 22) λg=>wk g (W.ixA false 22 1 d b λh=>wb .eql 9 c h λi=>wk i (Q (.bool true) a) (wb .add 3 b (.W9 1) λj=>f [c,d,j] a)) (Q (.bool false) a)
def kF(a:AV)(L:SH)(Q:R):Prop:=ca 22 (OY 1) L λb=>W.loop (jy Q) [a,b,(.W9 0)] L
theorem sW(t0:AV)(L:SH)(Q:R)(h:kF t0 L Q):ai Tryz.prog 106 [t0] L Q:=
 fs [] [(2,[0,5,6])] [] [] Tryz.func106 h
end
section
set_option maxRecDepth 100000
set_option maxHeartbeats 1000000
set_option linter.unusedSimpArgs false
theorem N3:OY 1=.pptr [nN.map .str] 0 0:=rfl
theorem Sc{i:Nat}(h:i<nN.length):W0.rowLd false 1 (nN.map .str) ((i:Int).toNat*1)=some (.str nN[i]):=by unfold W0.rowLd;simp[h]
theorem QN(s:bj):aB Tryz.prog 106 [.str s] (.bool (GK s)):=by
 refine sW _ _ _ ?_;unfold kF;rw[N3];have hk:GK s=nN.any λx=>decide (s=x):=by simp only[GK,eq_comm]
 repeat' (first|refine st ?_|refine sb λnb_ hnb_=>?_|refine s2 (λh=>?_) λh=>?_|fail)
 refine fp nN (λx=>decide (s=x)) (λi=>[.str s,.agg (nN.map .str),.W9 i]) W8 rfl (λi h1 hd hi hno nx hn=>?_) (λi h1 hd hno nx=>?_)
 all_goals unfold jy
 ·have hx:=Sc h1;have hd2:decide ((i:Int)<22)=true:=hd;have h22:(i:Int).toNat<22:=h1
  repeat' (first|refine st ?_|refine Tv (Int.natCast_nonneg _) h22 hx ?_|refine sb λnb_ hnb_=>?_|refine s2 (λh=>?_) λh=>?_|fail)
  ·exact⟨by rw[hk,KU h1 h],rfl⟩
  ·exact hn h
 ·have hd2:decide ((i:Int)<22)=false:=hd
  repeat' (first|refine st ?_|refine sb λnb_ hnb_=>?_|refine s2 (λh=>?_) λh=>?_|fail)
  exact⟨by rw[hk,Nq hno],rfl⟩
theorem Ua{s:bj}{i:Nat}(h:i<s.length):(⟨s.toArray⟩:ByteArray).get! i=s[i]:=by show s.toArray[i]! =s[i];simp[h]
theorem Ub{s:bj}{i:Nat}(h:i<s.length):∃c wd,Utf8.decode ⟨s.toArray⟩ i=(c,wd)∧((c=s[i].toNat∧wd=1∧c<128)∨(128≤c∧128≤s[i].toNat)):=by
 refine⟨(Utf8.decode ⟨s.toArray⟩ i).1,(Utf8.decode ⟨s.toArray⟩ i).2,rfl,?_⟩;unfold Utf8.decode;simp only[WN,Ua h];by_cases hb:s[i].toNat<128
 ·rw[if_pos hb];exact .inl ⟨rfl,rfl,hb⟩
 ·rw[if_neg hb];refine .inr ⟨?_,W4⟩;have h0:128≤Utf8.runeError:=by decide
  repeat' split
  all_goals first
   |exact h0
   |(simp only[ge_iff_le,VS,decide_eq_true_eq]at *;omega)
theorem K9(s:bj):aB Tryz.prog 76 [.str s] (.bool (eh s)):=by
 refine ai.fz (B9 _ _ _ ?_);unfold pW;generalize hQ:(λ(v:AV) (L:SH)=>∃v2 L2,aI [v] L [v2] L2∧v2=AV.bool (eh s)∧L2=[])=Q;have hq:∀b L,eh s=b→Q (.bool b) L:=λb L h=>by subst hQ;exact⟨_,[],aI.all (.refl _),by rw[h],rfl⟩
 clear hQ;by_cases h0:1≤s.length∧s.length≤12∧GK s=false
 ·obtain⟨h1,h12,hk⟩:=h0;have hkk:=QN s;rw[hk]at hkk;have d1:decide ((s.length:Int)<1)=false:=decide_eq_false W4;have d2:decide ((s.length:Int) > 12)=false:=decide_eq_false W4;have hno:∀i (h:i<s.length),¬(gP s[i].toNat=true∧(i=0→gb s[i].toNat=true))→eh s=false:=λi h hb=>by
   cases hn:eh s with
   |false=>rfl
   |true=>exfalso;unfold eh at hn;simp only[VS,VE]at hn;refine hb ⟨hn.2 _ (VI h),λe=>?_⟩;subst e;have:=hn.1.1.2;simpa[List.getD,h]using this
  repeat' (first|refine st ?_|(refine pf 106 ?_;refine pm (hkk) ?_)|refine R6 (λnb_ hnb_=>?_)|refine sb λnb_ hnb_=>?_|refine s2 (λh=>?_) λh=>?_|fail)
  refine Du (λi:Nat=>([.it nb_],[(nb_,⟨0,[[.str s,.W9 (i:Int)]]⟩)])) (λi=>s.length-i) (λi=>i≤s.length∧∀j (h:j<s.length),j<i→gP s[j].toNat=true∧(j=0→gb s[j].toNat=true)) 0 ⟨Nat.zero_le _,λj h h2=>absurd h2 (Nat.not_lt_zero _)⟩ rfl rfl (λi hG nx hn=>?_);obtain⟨hi,hG⟩:=hG;unfold nP;dsimp only;rcases Nat.lt_or_ge i s.length with h|h
  ·obtain⟨c,wd,hd,hc⟩:=Ub h;replace hno:=hno i h;have hgo:gP s[i].toNat=true∧(i=0→gb s[i].toNat=true)→nx [.it nb_] [(nb_,⟨0,[[.str s,.W9 ((i+1:Nat):Int)]]⟩)]:=λhb=>hn (i+1) ⟨h,λj hj hji=>by
    rcases Vt j i with g|g
    ·exact hG j hj g
    ·have e:j=i:=by omega
     subst e;exact hb⟩ W4
   clear hn hG
   repeat' (first|refine st ?_|refine sb λnb_ hnb_=>?_|refine s2 (λh=>?_) λh=>?_|fail)
   refine T7 (.head _) h (.here _) ?_;simp only[hd];clear hd;rcases hc with⟨rfl,rfl,hc⟩|⟨hc,hb⟩
   ·generalize s[i].toNat=x at *
    repeat' (first|refine st ?_|refine sb λnb_ hnb_=>?_|refine s2 (λh=>?_) λh=>?_|fail)
    all_goals first
     |(refine hgo ?_;clear hgo hno hq;simp only[gP,gb,zT,WW,VS,decide_eq_true_eq,decide_eq_false_iff_not]at *;omega)
     |(refine hq _ _ (hno ?_);clear hgo hno hq;simp only[gP,gb,zT,WW,VS,decide_eq_true_eq,decide_eq_false_iff_not]at *;omega)
   ·generalize s[i].toNat=x at *;have e1:decide ((c:Int)≤122)=false:=decide_eq_false W4;have e2:decide ((c:Int)≤90)=false:=decide_eq_false W4;have e3:decide ((c:Int)≤57)=false:=decide_eq_false W4;have e4:decide ((c:Int)=95)=false:=decide_eq_false W4
    repeat' (first|refine st ?_|refine sb λnb_ hnb_=>?_|refine s2 (λh=>?_) λh=>?_|fail)
    all_goals first
     |(refine hq _ _ (hno ?_);clear hgo hno hq;simp only[gP,gb,zT,WW,VS,decide_eq_true_eq,decide_eq_false_iff_not]at *;omega)
  ·repeat' (first|refine st ?_|refine sb λnb_ hnb_=>?_|refine s2 (λh=>?_) λh=>?_|fail)
   refine LP (.head _) W4 ?_
   repeat' (first|refine st ?_|refine sb λnb_ hnb_=>?_|refine s2 (λh=>?_) λh=>?_|fail)
   refine hq _ _ ?_;unfold eh;have e1:(s.all λc=>gP c.toNat)=true:=VE.2 λx hx=>by obtain⟨j,hj,rfl⟩:=Wq hx;exact(hG j hj W4).1
   have e2:gb ((s.getD 0 0).toNat:Nat)=true:=by have:=(hG 0 W4 W4).2 rfl;simpa[List.getD,show 0<s.length by omega]using this
   rw[e1,e2,hk];simp;omega
 ·have hkk:=QN s;have hf:eh s=false:=by
   cases hn:eh s with
   |false=>rfl
   |true=>exfalso;refine h0 ?_;unfold eh at hn;simp only[VS,decide_eq_true_eq,Bool.not_eq_true']at hn;exact⟨W4,W4,hn.1.2⟩
  cases hk:GK s with
  |true=>
   rw[hk]at hkk
   repeat' (first|refine st ?_|(refine pf 106 ?_;refine pm (hkk) ?_)|refine sb λnb_ hnb_=>?_|refine s2 (λh=>?_) λh=>?_|fail)
   all_goals exact hq _ _ hf
  |false=>
   rw[hk]at hkk
   repeat' (first|refine st ?_|(refine pf 106 ?_;refine pm (hkk) ?_)|refine sb λnb_ hnb_=>?_|refine s2 (λh=>?_) λh=>?_|fail)
   all_goals first
    |exact hq _ _ hf
    |(exfalso;refine h0 ⟨?_,?_,hk⟩<;>simp only[decide_eq_true_eq,decide_eq_false_iff_not]at * <;>omega)
end
section
set_option maxRecDepth 100000
set_option maxHeartbeats 1000000
def DK(A:List bj):Prop:=(∀s∈A,eh s=true)∧A.Nodup
def l8(l:List bj):List (List AV):=l.map λs=>[.str s,.bool true]
theorem JO(l:List bj):(l8 l).all vR=true:=by
 induction l with
 |nil=>rfl
 |cons s l ih=>simp only[l8,Vp,List.all_cons]at *;rw[ih];rfl
theorem qr{s:bj}:∀{l:List bj} {k:Nat},(s∉l→gu s (l8 l) k=none)∧(s∈l→∃j,gu s (l8 l) k=some (j,.bool true))
 |[],k=>⟨λ_=>rfl,λh=>by simp at h⟩
 | x::l,k=>by
  have ih:=qr (s:=s) (l:=l) (k:=k+1);have e:gu s (l8 (x::l)) k=if s==x then some (k,.bool true)else gu s (l8 l) (k+1):=rfl
  rw[e];by_cases h:s=x
  ·subst h;exact⟨λh=>by simp at h,λ_=>⟨k,W7⟩⟩
  ·have:(s==x)=false:=by simpa using h
   rw[this];exact⟨λh2=>ih.1 (by simp at h2;exact h2.2),λh2=>ih.2 (by simpa[h]using h2)⟩
theorem PN{s:bj}{l:List bj}(h:s∉l):W0.found (.bool false) false (gu s (l8 l) 0)=.bool false:=by rw[qr.1 h];rfl
theorem N4{s:bj}{l:List bj}(h:s∈l):W0.found (.bool false) false (gu s (l8 l) 0)=.bool true:=by obtain⟨j,hj⟩:=(qr (k:=0)).2 h;rw[hj];rfl
theorem N5{s:bj}{l:List bj}(h:s∉l):W0.putR s (.bool true) (l8 l)=l8 (l++[s]):=by unfold W0.putR;rw[qr.1 h];simp[l8]
theorem La{o:Option Nat}{k:Nat}{K:AV→Prop}(h:K (.W9 (k:Int)))(h0:o=none→k=0):W.len (aq o k) K:=by
 cases o with
 |none=>rw[h0 rfl]at h;exact Gm h
 |some b=>exact Gj h
theorem N6{α:Type}{f:α→List AV}{l:List α}{n by_:Nat}{L:SH}{KL:AV→SH→Prop}(hn:∀x,(f x).length=n)(h2:2*l.length*by_≤2^48)(h3:2*l.length≤2^62)(h4:∀x,(f x).all AV.one=true)
  (h:l=[]→KL .nils L) (h':∀b,b∉L.names→KL (.sl b 0 l.length) ((b,⟨n,l.map f⟩)::L)):W.append n by_ .nils (.lst (l.map f)) L KL:=by
 have h4':((l.map f).all λr=>r.all AV.one)=true:=by rw[VE];intro r hr;obtain⟨x,_,rfl⟩:=V0.1 hr;exact h4 x
 refine⟨[],l.map f,rfl,wu hn,by simpa using h2,by simpa using h3,h4',λe=>?_,λe b hb=>?_⟩
 ·exact h (by simpa using e)
 ·have:=h' b hb;simpa using this
theorem Uc{A:List bj}(hA:A.length<2^40){Q:R}(hq:∀b L,m4 (DK A)=b→Q (.bool b) L){vs:List AV}{L:SH}{bm:Nat}(hz:aI vs L [.mp bm,.lst (A.map aw),.W9 A.length,.W9 0] [(bm,⟨0,[]⟩)]):W.loop (dX Q) vs L:=by
 refine DJ (α:=Nat) (λi=>([.mp bm,.lst (A.map aw),.W9 A.length,.W9 (i:Int)],[(bm,⟨0,l8 (A.take i)⟩)])) (λi=>A.length-i) (λi=>i≤A.length∧DK (A.take i)) 0 ⟨Nat.zero_le _,by simp[DK]⟩ hz ?_;rintro i ⟨hi,hG⟩ nx hnx;unfold dX;dsimp only;rcases Nat.lt_or_ge i A.length with h|h
 ·have d1:decide ((i:Int)<(A.length:Int))=true:=bF h;have hw1:IntKind.i64.wrap ((i:Int)+1)=((i+1:Nat):Int):=aE h W4;have hx:=az (f:=aw) h;have hok:=K9 A[i];have ht:=Vw h;have hno:¬DK (A.take (i+1))→∀L,Q (.bool false) L:=λhb L=>hq _ _ (jp λhN=>hb ⟨λs hs=>hN.1 s (List.mem_of_mem_take hs),hN.2.sublist (List.take_sublist _ _)⟩)
  have hgo:DK (A.take (i+1))→nx [.mp bm,.lst (A.map aw),.W9 A.length,.W9 ((i+1:Nat):Int)] [(bm,⟨0,l8 (A.take (i+1))⟩)]:=λhb=>hnx (i+1) ⟨h,hb⟩ W4 _ _ (.refl _ _)
  rw[ht]at hno hgo;clear hq hnx ht hz;generalize A[i]=s at *;generalize A.take i=l at *;have hk:=JO l;cases hnm:eh s with
  |false=>
   rw[hnm]at hok;have hb:¬DK (l++[s]):=λhb=>by have:=hb.1 s W7;rw[hnm]at this;cases this
   repeat' (first|refine st ?_|(refine pf 76 ?_;refine pm (hok) ?_)|refine sb λnb_ hnb_=>?_|refine s2 (λh=>?_) λh=>?_|fail)
   all_goals exact hno hb _
  |true=>
   rw[hnm]at hok;by_cases hm:s∈l
   ·have hf:=N4 hm;have hb:¬DK (l++[s]):=λhb=>by have:=(WY.1 hb.2).2.2 s hm s W7;exact this rfl
    repeat' (first|refine st ?_|(refine pf 76 ?_;refine pm (hok) ?_)|refine NV (.head _) hk hf ?_|refine sb λnb_ hnb_=>?_|refine s2 (λh=>?_) λh=>?_|fail)
    all_goals exact hno hb _
   ·have hf:=PN hm;have hp:=N5 hm;have hb:DK (l++[s]):=⟨λx hx=>by
     rcases VC.1 hx with h|h
     ·exact hG.1 x h
     ·rw[Vv.1 h];exact hnm,WY.2 ⟨hG.2,W7,λa ha b hb=>by rw[Vv.1 hb];rintro rfl;exact hm ha⟩⟩
    repeat' (first|refine st ?_|(refine pf 76 ?_;refine pm (hok) ?_)|refine NV (.head _) hk hf ?_|refine T6 (.here _) hk rfl hp ?_|refine sb λnb_ hnb_=>?_|refine s2 (λh=>?_) λh=>?_|fail)
    all_goals exact hgo hb
 ·have d1:decide ((i:Int)<(A.length:Int))=false:=bM h;rw[Wb h]at hG
  repeat' (first|refine st ?_|refine sb λnb_ hnb_=>?_|refine s2 (λh=>?_) λh=>?_|fail)
  exact hq _ _ (kB hG)
section
variable {w:aN} {Q:R} {ns:List bj} (hns:ns.length≤12) (h4:w.locks.length≤4) (h2:w.conds.length≤2) (hf2:w.futures.length≤2) (ht4:w.threads.length≤4) (hq:∀b L,m4 (DK (nO w ns))=b→Q (.bool b) L)
include hns h4 h2 hf2 ht4 hq
theorem Ud{vs:List AV}{L:SH}(o:Option Nat)(ho:o=none→ns++w.locks.map cb.name=[])(hz:aI vs L [.pptr [w.enc] 0 0,aq o (ns++w.locks.map cb.name).length,.lst (w.conds.map cX.enc),.W9 w.conds.length,.W9 0] (ah o 1 ((ns++w.locks.map cb.name).map aw))):W.loop (dY Q) vs L:=by
 obtain⟨S,hS⟩:∃S:Nat→List bj,S=λi=>ns++w.locks.map cb.name++(w.conds.take i).map cX.name:=⟨_,rfl⟩
 have hS0:S 0=ns++w.locks.map cb.name:=by subst hS;simp
 have hSl:S w.conds.length++w.futures++w.threads=nO w ns:=by subst hS;simp[nO]
 have hSs:∀i (h:i<w.conds.length),S (i+1)=S i++[w.conds[i].name]:=λi h=>by subst hS;simp only[Vw h,Vr,V4,Vp,V9]
 have hSn:∀i,(S i).length≤18:=λi=>by subst hS;rw[Vy,Vy,Wv,Wv,VR];omega
 rw[←hS0]at hz ho;clear hS0 hS;refine DJ (α:=Nat×Option Nat) (λa=>([.pptr [w.enc] 0 0,aq a.2 (S a.1).length,.lst (w.conds.map cX.enc),.W9 w.conds.length,.W9 (a.1:Int)],ah a.2 1 ((S a.1).map aw))) (λa=>w.conds.length-a.1) (λa=>a.1≤w.conds.length∧(a.2=none→S a.1=[])) (0,o) ⟨Nat.zero_le _,ho⟩ hz ?_;rintro⟨i,o⟩ ⟨hi,ho⟩ nx hnx;unfold dY;dsimp only at *;have hA:=hSn i;rcases Nat.lt_or_ge i w.conds.length with h|h
 ·have d1:decide ((i:Int)<(w.conds.length:Int))=true:=bF h;have hw1:IntKind.i64.wrap ((i:Int)+1)=((i+1:Nat):Int):=aE h W4;have hx:=az (f:=cX.enc) h;have hgo:∀nb_ L',gI L' [(nb_,⟨1,(S i).map aw++[[.str w.conds[i].name]]⟩)]→nx [.pptr [w.enc] 0 0,.sl nb_ 0 ((S i).length+1),.lst (w.conds.map cX.enc),.W9 w.conds.length,.W9 ((i+1:Nat):Int)] L':=λnb_ L' h3=>
   hnx (i+1,some nb_) ⟨h,nofun⟩ (by dsimp only;omega) _ _ (aI.pickE h3 (by simp[aq,hSs i h]) (by simp[ah,aw,hSs i h]))
  clear hnx hSs hSl hSn hz;generalize w.conds[i]=c at *;generalize S i=C at *;obtain⟨nm,mx⟩:=c;unfold cX.enc at hx;dsimp only at *
  repeat' (first|refine st ?_|refine cy mm rp W7 (λe=>by simp[ho e]) W6 W7 (by simp;omega) (by simp;omega) W6 (λnb_ hnb_=>?_)|refine sb λnb_ hnb_=>?_|refine s2 (λh=>?_) λh=>?_|fail)
  exact hgo _ _ rp
 ·have d1:decide ((i:Int)<(w.conds.length:Int))=false:=bM h;obtain rfl:i=w.conds.length:=by omega
  repeat' (first|refine st ?_|refine sb λnb_ hnb_=>?_|refine s2 (λh=>?_) λh=>?_|fail)
  refine C6 rp (λ_=>rfl) W7 (λe=>by simp[ho e]) W4 W4 (λ_=>rfl) (λo1 ho1=>?_)
  repeat' (first|refine st ?_|refine sb λnb_ hnb_=>?_|refine s2 (λh=>?_) λh=>?_|fail)
  refine C6 rp (λ_=>rfl) W7 (λe=>ho1 e) W4 W4 (λ_=>rfl) (λo2 ho2=>?_);refine PK λbm hbm=>?_
  refine La ?_ (λe=>by have:=ho2 e;simp only[List.append_eq_nil_iff,List.map_eq_nil_iff]at this;simp[this]);have e1:(S w.conds.length).map aw++w.futures.map aw++w.threads.map aw=(nO w ns).map aw:=by rw[←hSl];simp
  have e2:(S w.conds.length).length+w.futures.length+w.threads.length=(nO w ns).length:=by rw[←hSl];simp;omega
  have e3:(nO w ns).length≤30:=by rw[←e2];omega
  rw[e1]at ho2 ⊢;rw[e2];refine Uc (A:=nO w ns) W4 hq (bm:=bm) (aI.drop (K:=ah o2 1 ((nO w ns).map aw)) (R:=[(bm,⟨0,[]⟩)]) (by rw[V5];exact(List.perm_append_singleton _ _).symm) rfl ((jd.cons (.refl _) (.cons (Fz.slot rfl ho2 W8 (λ_ _=>rfl) λ_ _ q a a2 h1 h2=>by rw[h1]at h2;cases h2;exact .refl _) (.cons (.refl _) (.cons (.refl _) .nil)))).at_.2))
theorem Ue{vs:List AV}{L:SH}(o:Option Nat)(ho:o=none→ns=[])(hz:aI vs L [.pptr [w.enc] 0 0,aq o ns.length,.lst (w.locks.map cb.enc),.W9 w.locks.length,.W9 0] (ah o 1 (ns.map aw))):W.loop (dZ Q) vs L:=by
 have hl2:=λvs L o ho hz=>Ud hns h4 h2 hf2 ht4 hq (vs:=vs) (L:=L) o ho hz
 obtain⟨S,hS⟩:∃S:Nat→List bj,S=λi=>ns++(w.locks.take i).map cb.name:=⟨_,rfl⟩
 have hS0:S 0=ns:=by subst hS;simp
 have hSl:S w.locks.length=ns++w.locks.map cb.name:=by subst hS;simp
 have hSs:∀i (h:i<w.locks.length),S (i+1)=S i++[w.locks[i].name]:=λi h=>by subst hS;simp only[Vw h,Vr,V4,Vp,V9]
 have hSn:∀i,(S i).length≤18:=λi=>by subst hS;rw[Vy,Wv,VR];omega
 rw[←hSl]at hl2;rw[←hS0]at hz ho;clear hS0 hS hq;refine DJ (α:=Nat×Option Nat) (λa=>([.pptr [w.enc] 0 0,aq a.2 (S a.1).length,.lst (w.locks.map cb.enc),.W9 w.locks.length,.W9 (a.1:Int)],ah a.2 1 ((S a.1).map aw))) (λa=>w.locks.length-a.1) (λa=>a.1≤w.locks.length∧(a.2=none→S a.1=[])) (0,o) ⟨Nat.zero_le _,ho⟩ hz ?_;rintro⟨i,o⟩ ⟨hi,ho⟩ nx hnx;unfold dZ;dsimp only at *;have hA:=hSn i;rcases Nat.lt_or_ge i w.locks.length with h|h
 ·have d1:decide ((i:Int)<(w.locks.length:Int))=true:=bF h;have hw1:IntKind.i64.wrap ((i:Int)+1)=((i+1:Nat):Int):=aE h W4;have hx:=az (f:=cb.enc) h;have hgo:∀nb_ L',gI L' [(nb_,⟨1,(S i).map aw++[[.str w.locks[i].name]]⟩)]→nx [.pptr [w.enc] 0 0,.sl nb_ 0 ((S i).length+1),.lst (w.locks.map cb.enc),.W9 w.locks.length,.W9 ((i+1:Nat):Int)] L':=λnb_ L' h3=>
   hnx (i+1,some nb_) ⟨h,nofun⟩ (by dsimp only;omega) _ _ (aI.pickE h3 (by simp[aq,hSs i h]) (by simp[ah,aw,hSs i h]))
  clear hnx hSs hSl hSn hz hl2;generalize w.locks[i]=c at *;generalize S i=C at *;obtain⟨nm,mx⟩:=c;unfold cb.enc at hx;dsimp only at *
  repeat' (first|refine st ?_|refine cy mm rp W7 (λe=>by simp[ho e]) W6 W7 (by simp;omega) (by simp;omega) W6 (λnb_ hnb_=>?_)|refine sb λnb_ hnb_=>?_|refine s2 (λh=>?_) λh=>?_|fail)
  exact hgo _ _ rp
 ·have d1:decide ((i:Int)<(w.locks.length:Int))=false:=bM h;obtain rfl:i=w.locks.length:=by omega
  repeat' (first|refine st ?_|refine sb λnb_ hnb_=>?_|refine s2 (λh=>?_) λh=>?_|fail)
  exact hl2 _ _ o ho (.refl _ _)
theorem Vb:eJ (.agg w.enc) (.lst (ns.map aw)) [] Q:=by
 have hl3:=λvs L o ho hz=>Ue hns h4 h2 hf2 ht4 hq (vs:=vs) (L:=L) o ho hz
 clear hq;unfold eJ
 repeat' (first|refine st ?_|refine sb λnb_ hnb_=>?_|refine s2 (λh=>?_) λh=>?_|fail)
 refine N6 (λ_=>rfl) W4 W4 (λ_=>rfl) (λe=>?_) (λnb_ hnb_=>?_)
 ·subst e
  repeat' (first|refine st ?_|refine sb λnb_ hnb_=>?_|refine s2 (λh=>?_) λh=>?_|fail)
  exact hl3 _ _ none (λ_=>rfl) (aI.drop (K:=[]) (.refl _) rfl ((jd.cons (.refl _) (.cons .nile (.cons (.refl _) (.cons (.refl _) (.cons (.refl _) .nil))))).at_.2))
 ·repeat' (first|refine st ?_|refine sb λnb_ hnb_=>?_|refine s2 (λh=>?_) λh=>?_|fail)
  exact hl3 _ _ (some nb_) nofun (.refl _ _)
end
theorem LT(w:aN){ns:List bj}(hns:ns.length≤12)(h4:w.locks.length≤4)(h2:w.conds.length≤2)(hf2:w.futures.length≤2)(ht4:w.threads.length≤4):aB Tryz.prog 47 [.agg w.enc,.lst (ns.map aw)] (.bool (m4 (DK (nO w ns)))):=
 ai.fz (oK _ _ _ _ (Vb hns h4 h2 hf2 ht4 λb L h=>⟨_,[],aI.all (.refl _),by rw[h],rfl⟩))
theorem JP{l:List bb}(hl:l.length≤12){ns:List bj}(h:dK l ns):aB Tryz.prog 46 [.lst (l.map bb.enc)] (.tup [.lst (ns.map aw),.bool true]):=
 ai.fz (gy _ _ _ (su l hl (λns' L v h1 h2=>⟨_,[],aI.all (.tups (.cons h2 (.cons (.refl _) .nil))),by rw[h.uniq h1],rfl⟩) λh2=>absurd h (h2 ns)))
theorem LU{l:List bb}(hl:l.length≤12)(h:∀ns,¬dK l ns):aB Tryz.prog 46 [.lst (l.map bb.enc)] (.tup [.nils,.bool false]):=
 ai.fz (gy _ _ _ (su l hl (λns' L v h1 h2=>absurd h1 (h ns')) λ_ L=>⟨_,[],aI.all (.refl _),rfl,rfl⟩))
end
section
set_option maxRecDepth 100000
set_option maxHeartbeats 1000000
theorem Sd{n:Nat}{t x:Int}{s:cM}{l:List cM}:E5 n t x (s::l)↔t≤s.thread∧s.thread<n∧s.stmt=(if t<s.thread then 0 else x)∧E5 n s.thread (s.stmt+1) l:=Iff.rfl
theorem E6(w:aN)(h60:w.sites.length≤60):aB Tryz.prog 49 [.agg w.enc] (.bool (m4 (E5 w.threads.length 0 0 w.sites))):=by
  refine oF _ _ _ ?_;unfold hY;generalize hQ:(λ(u:AV) (K:SH)=>u=AV.bool (m4 (E5 w.threads.length 0 0 w.sites))∧K=[])=Q;have hq:∀b,m4 (E5 w.threads.length 0 0 w.sites)=b→Q (.bool b) []:=λb hb=>by subst hQ;exact⟨by rw[hb],rfl⟩
  clear hQ
  repeat' (first|refine st ?_|refine sb λnb_ hnb_=>?_|refine s2 (λh=>?_) λh=>?_|fail)
  refine Du (α:=Nat×Int×Nat) (λa=>([.pptr [w.enc] 0 0,.W9 a.2.1,.W9 (a.2.2:Int),.lst (w.sites.map cM.enc),.W9 w.sites.length,.W9 (a.1:Int)],[])) (λa=>w.sites.length-a.1) (λa=>a.1≤w.sites.length∧a.2.2≤a.1∧(E5 w.threads.length 0 0 w.sites↔E5 w.threads.length a.2.1 a.2.2 (w.sites.drop a.1))) (0,0,0) ⟨Nat.zero_le _,Nat.le_refl _,W7⟩ rfl rfl ?_;rintro⟨i,t,x⟩ ⟨hi,hx0,hG⟩ nx hnx;unfold gz;dsimp only at *;rcases Nat.lt_or_ge i w.sites.length with h|h
  · have d1:decide ((i:Int)<(w.sites.length:Int))=true:=bF h
    have hw1:IntKind.i64.wrap ((i:Int)+1)=((i+1:Nat):Int):=aE h W4;have hw2:IntKind.i64.wrap ((x:Int)+1)=((x+1:Nat):Int):=by rw[We _ W4];omega
    have hw3:IntKind.i64.wrap (0+1)=((0+1:Nat):Int):=rfl;have hx:=az (f:=cM.enc) h;rw[WF h]at hG;generalize w.sites[i]=s at *;rw[Sd]at hG;have hno:¬(t≤s.thread∧s.thread<w.threads.length∧s.stmt=if t<s.thread then 0 else(x:Int))→Q (.bool false) []:=λhb=>hq _ (jp λh2=>hb (by have:=hG.1 h2;exact⟨this.1,this.2.1,this.2.2.1⟩))
    have hgo:∀y:Nat,y≤i→(t≤s.thread∧s.thread<w.threads.length∧s.stmt=if t<s.thread then 0 else(x:Int))→s.stmt=(y:Int)→nx [.pptr [w.enc] 0 0,.W9 s.thread,.W9 ((y+1:Nat):Int),.lst (w.sites.map cM.enc),.W9 w.sites.length,.W9 ((i+1:Nat):Int)] []:=λy hy hb hs=>
      hnx (i+1,s.thread,y+1) ⟨h,by dsimp only;omega,by
        rw[hG];dsimp only;have e:s.stmt+1=((y+1:Nat):Int):=by omega
        rw[e];exact⟨λh=>h.2.2.2,λh=>⟨hb.1,hb.2.1,hb.2.2,h⟩⟩⟩ (by dsimp only;omega)
    clear hnx hG;obtain⟨th,sm,ln⟩:=s;unfold cM.enc at hx;dsimp only at *
    repeat' (first|refine st ?_|refine sb λnb_ hnb_=>?_|refine s2 (λh=>?_) λh=>?_|fail)
    all_goals first
      |(refine hno λh2=>?_;have h3:=h2.1;have h4:=h2.2.1;have h5:=h2.2.2;clear h2 hno hgo;split at h5<;>simp only[decide_eq_true_eq,decide_eq_false_iff_not,ge_iff_le,ne_eq,Decidable.not_not]at * <;>omega)
      |(refine hgo 0 (V1 _) ?_ ?_<;>clear hno hgo<;>simp only[decide_eq_true_eq,decide_eq_false_iff_not,ge_iff_le,ne_eq,Decidable.not_not]at * <;>first|omega|(refine⟨W4,W4,?_⟩;rw[if_pos W4];omega))
      | (simp only [decide_eq_true_eq, decide_eq_false_iff_not, ge_iff_le, ne_eq, Decidable.not_not] at *
         obtain rfl:t=th:=by omega
         refine hgo x hx0 ?_ ?_<;>clear hno hgo<;>first|omega|(refine⟨W4,W4,?_⟩;rw[if_neg W4];omega))
  · have d1:decide ((i:Int)<(w.sites.length:Int))=false:=bM h
    rw[List.drop_eq_nil_of_le h]at hG
    repeat' (first|refine st ?_|refine sb λnb_ hnb_=>?_|refine s2 (λh=>?_) λh=>?_|fail)
    exact hq _ (kB (hG.2 trivial))
theorem LV(w:aN):aB Tryz.prog 27 [.agg w.enc] (.bool (m4 (Iy w))):=by
 refine oq _ _ _ ?_;unfold hO;generalize hQ:(λ(u:AV) (K:SH)=>u=AV.bool (m4 (Iy w))∧K=[])=Q;have hq:∀b,m4 (Iy w)=b→Q (.bool b) []:=λb hb=>by subst hQ;exact⟨by rw[hb],rfl⟩
 clear hQ;by_cases h0:w.cells.length≤12∧w.locks.length≤4∧w.conds.length≤2∧w.futures.length≤2∧w.sites.length≤60∧1≤w.threads.length∧w.threads.length≤4
 ·obtain⟨c12,l4,d2,f2,s60,t1,t4⟩:=h0;have e1:decide ((w.cells.length:Int) > 12)=false:=decide_eq_false W4;have e2:decide ((w.locks.length:Int) > 4)=false:=decide_eq_false W4;have e3:decide ((w.conds.length:Int) > 2)=false:=decide_eq_false W4;have e4:decide ((w.futures.length:Int) > 2)=false:=decide_eq_false W4;have e5:decide ((w.sites.length:Int) > 60)=false:=decide_eq_false W4;have e6:decide ((w.threads.length:Int)<1)=false:=decide_eq_false W4;have e7:decide ((w.threads.length:Int) > 4)=false:=decide_eq_false W4;by_cases hv:∃ns,dK w.cells ns
  ·obtain⟨ns,hv⟩:=hv;have hvc:=JP c12 hv;have hns:ns.length≤12:=by have:=hv.len;omega
   have hvn:=LT w hns l4 d2 f2 t4;have hvs:=E6 w s60;cases hN:m4 (DK (nO w ns))with
   |false=>
    rw[hN]at hvn;have hb:m4 (Iy w)=false:=jp λh=>by obtain⟨n2,h1,h2⟩:=h.names;obtain rfl:=hv.uniq h1;rw[kB ⟨h2.1,h2.2⟩]at hN;cases hN
    repeat' (first|refine st ?_|(refine pf 46 ?_;refine pm (hvc) ?_)|(refine pf 47 ?_;refine pm (hvn) ?_)|refine sb λnb_ hnb_=>?_|refine s2 (λh=>?_) λh=>?_|fail)
    all_goals exact hq _ hb
   |true=>
    rw[hN]at hvn
    repeat' (first|refine st ?_|(refine pf 46 ?_;refine pm (hvc) ?_)|(refine pf 47 ?_;refine pm (hvn) ?_)|refine sb λnb_ hnb_=>?_|refine s2 (λh=>?_) λh=>?_|fail)
    refine fp w.conds (λc=>!Ie w c.mutex false) (λi=>[.pptr [w.enc] 0 0,.lst (w.conds.map cX.enc),.W9 w.conds.length,.W9 (i:Int)]) W4 rfl (λi h1 hd hi hno nx hn=>?_) (λi h1 hd hno nx=>?_)
    all_goals unfold gw
    ·have hx:=az (f:=cX.enc) h1;have hlk:=FQ w w.conds[i].mutex false;have hbad:Ie w w.conds[i].mutex false=false→m4 (Iy w)=false:=λh=>jp λh2=>by rw[h2.mtx _ (VI h1)]at h;cases h
     generalize w.conds[i]=c at *;obtain⟨nm,mx⟩:=c;unfold cX.enc at hx;dsimp only at *;cases hl:Ie w mx false with
     |false=>
      rw[hl]at hlk
      repeat' (first|refine st ?_|(refine pf 48 ?_;refine pm (hlk) ?_)|refine sb λnb_ hnb_=>?_|refine s2 (λh=>?_) λh=>?_|fail)
      exact hq _ (hbad hl)
     |true=>
      rw[hl]at hlk
      repeat' (first|refine st ?_|(refine pf 48 ?_;refine pm (hlk) ?_)|refine sb λnb_ hnb_=>?_|refine s2 (λh=>?_) λh=>?_|fail)
      exact hn (by rw[hl];rfl)
    ·repeat' (first|refine st ?_|(refine pf 49 ?_;refine pm (hvs) ?_)|refine sb λnb_ hnb_=>?_|refine s2 (λh=>?_) λh=>?_|fail)
     refine hq _ ?_;cases hs:m4 (E5 w.threads.length 0 0 w.sites)with
     |false=>exact jp λh=>by rw[kB h.sites]at hs;cases hs
     |true=>have hN:=kC.1 hN;exact kB ⟨c12,l4,d2,f2,s60,t1,t4,⟨ns,hv,hN.1,hN.2⟩,λc hc=>by simpa using hno c hc,kC.1 hs⟩
  ·have hvc:=LU c12 λns h=>hv ⟨ns,h⟩
   repeat' (first|refine st ?_|(refine pf 46 ?_;refine pm (hvc) ?_)|refine sb λnb_ hnb_=>?_|refine s2 (λh=>?_) λh=>?_|fail)
   all_goals exact hq _ (jp λh=>by obtain⟨ns,h1,_⟩:=h.names;exact hv ⟨ns,h1⟩)
 ·have hb:m4 (Iy w)=false:=jp λh=>h0 ⟨h.c12,h.l4,h.d2,h.f2,h.s60,h.t1,h.t4⟩
  repeat' (first|refine st ?_|refine sb λnb_ hnb_=>?_|refine s2 (λh=>?_) λh=>?_|fail)
  all_goals first
   |exact hq _ hb
   |(exfalso;refine h0 ?_;clear hq hb h0;simp only[decide_eq_true_eq,decide_eq_false_iff_not]at *;omega)
structure DL(c:bP):Prop where
 world:Iy c.w
 len:c.ts.length=c.w.threads.length
 thr:∀i (h:i<c.ts.length),Iw c.w i c.ts[i]
theorem N7(c:bP)(hl:∀t∈c.ts,t.ins.length<2^48):aB Tryz.prog 13 [.agg c.enc] (.bool (m4 (DL c))):=by
 have hw:=LV c.w;have ht:=λi (h:i<c.ts.length)=>Dv c.w i c.ts[i] (hl _ (VI h))
 obtain⟨w,ts⟩:=c;dsimp only at *;refine zR _ _ _ ?_;unfold nF;generalize hQ:(λ(u:AV) (K:SH)=>u=AV.bool (m4 (DL ⟨w,ts⟩))∧K=[])=Q;have hq:∀b,m4 (DL ⟨w,ts⟩)=b→Q (.bool b) []:=λb hb=>by subst hQ;exact⟨by rw[hb],rfl⟩
 clear hQ;cases hW:m4 (Iy w)with
 |false=>
  rw[hW]at hw
  repeat' (first|refine st ?_|(refine pf 27 ?_;refine pm (hw) ?_)|refine sb λnb_ hnb_=>?_|refine s2 (λh=>?_) λh=>?_|fail)
  all_goals exact hq _ (jp λh=>by have:=h.world;rw[kB this]at hW;cases hW)
 |true=>
  rw[hW]at hw;have hW:=kC.1 hW;by_cases hlen:ts.length=w.threads.length
  ·have e1:decide ((ts.length:Int)≠(w.threads.length:Int))=false:=by simp[hlen]
   have h4:=hW.t4
   repeat' (first|refine st ?_|(refine pf 27 ?_;refine pm (hw) ?_)|refine sb λnb_ hnb_=>?_|refine s2 (λh=>?_) λh=>?_|fail)
   refine pq ts.length (λk=>∀j (h:j<ts.length),j<k→Iw w j ts[j]) (λk=>[.pptr [(⟨w,ts⟩:bP).enc] 0 0,.lst (ts.map iD.enc),.W9 ts.length,.W9 k]) W4 (λj h hj=>absurd hj (Nat.not_lt_zero _)) rfl (λk hk hd hi hG nx hn=>?_) (λk hk hd hG nx=>?_)
   all_goals unfold lY
   ·have hx:=az (f:=iD.enc) hk;have hok:=ht k hk;have hbad:¬Iw w k ts[k]→Q (.bool false) []:=λh=>hq _ (jp λh2=>h (h2.thr k hk))
    have hgo:Iw w k ts[k]→nx [.pptr [(⟨w,ts⟩:bP).enc] 0 0,.lst (ts.map iD.enc),.W9 ts.length,.W9 ((k+1:Nat):Int)] []:=λh=>hn λj hj hjk=>by
     rcases Vt j k with g|g
     ·exact hG j hj g
     ·have e:j=k:=by omega
      subst e;exact h
    clear hn hG;generalize ts[k]=c at *;obtain⟨rg,ins⟩:=c;cases hT:m4 (Iw w k ⟨rg,ins⟩)with
    |false=>
     rw[hT]at hok
     repeat' (first|refine st ?_|(refine pf 28 ?_;refine pm (hok) ?_)|refine sb λnb_ hnb_=>?_|refine s2 (λh=>?_) λh=>?_|fail)
     exact hbad λh=>by rw[kB h]at hT;cases hT
    |true=>
     rw[hT]at hok
     repeat' (first|refine st ?_|(refine pf 28 ?_;refine pm (hok) ?_)|refine sb λnb_ hnb_=>?_|refine s2 (λh=>?_) λh=>?_|fail)
     exact hgo (kC.1 hT)
   ·repeat' (first|refine st ?_|refine sb λnb_ hnb_=>?_|refine s2 (λh=>?_) λh=>?_|fail)
    exact hq _ (kB ⟨hW,hlen,λj h=>hG j h (by have:j<ts.length:=h;omega)⟩)
  ·have e1:decide ((ts.length:Int)≠(w.threads.length:Int))=true:=by simp;omega
   repeat' (first|refine st ?_|(refine pf 27 ?_;refine pm (hw) ?_)|refine sb λnb_ hnb_=>?_|refine s2 (λh=>?_) λh=>?_|fail)
   all_goals exact hq _ (jp λh=>hlen h.len)
end
structure cI where
 thread:Int
 kind:Int
 obj:Int
 value:Int
 site:Int
 deps:List Int
 frm:List Int
def cI.enc(e:cI):List AV:=[.W9 e.thread,.W9 e.kind,.W9 e.obj,.W9 e.value,.W9 e.site,.lst (e.deps.map ao),.lst (e.frm.map ao)]
structure el where
 sync:SyncD
 cells:List Int
 futures:List Int
 threads:List aW
def el.enc(s:el):List AV:=[.lst (s.sync.locks.map LockD.enc),.W9 s.sync.tx,.lst (s.sync.done.map aV),.lst (s.sync.threads.map ThrD.enc),.lst (s.cells.map ao),.lst (s.futures.map ao),.lst (s.threads.map aW.enc)]
def pX(op:Int):Int:=kS.getD op.toNat 0
def ixS(i n:Int):Int:=if n<1 then 0 else if i.tmod n<0 then IntKind.i64.wrap (i.tmod n+n)else i.tmod n
def l9(i:bn)(s:aW)(t:Int):cI:=
 let e:cI:=⟨t,pX i.op,i.a,0,i.site,[],[]⟩
 if i.op=6∨i.op=27 then {e with obj:=i.b}
 else if i.op=7 then {e with obj:=IntKind.i64.wrap (i.b+ixS (s.reg i.c) i.n),deps:=s.tnt i.c}
 else if i.op=8∨i.op=26 then {e with frm:=s.tnt i.b}
 else if i.op=9 then {e with obj:=IntKind.i64.wrap (i.a+ixS (s.reg i.c) i.n),deps:=s.tnt i.c,frm:=s.tnt i.b}
 else if i.op=10 then {e with obj:=-1,deps:=s.tnt i.a}
 else if i.op=28∨i.op=17∨i.op=18∨i.op=19∨i.op=20 then {e with obj:=-1}
 else e
def aD(c:bP)(t:Int):iD:=c.ts.getD t.toNat ⟨0,[]⟩
def bG(s:el)(t:Int):aW:=s.threads.getD t.toNat aW.zero
def de(c:iD)(k:Int):bn:=c.ins.getD k.toNat default
def jz(c:bP)(s:el)(t:Int):Bool:=
 inB t c.ts.length&&inB t s.threads.length&&inB t s.sync.threads.length&&inB (bG s t).pc (aD c t).ins.length&&decide (((bG s t).regs.length:Int)=(aD c t).regs)&&decide (((bG s t).taint.length:Int)=(aD c t).regs)
def ie(c:bP)(s:el)(t:Int):Option cI:=
 if jz c s t then
  let i:=de (aD c t) (bG s t).pc
  if(cm s.sync t).status=1 then some ⟨t,1,-1,0,-1,[],[]⟩
  else if(cm s.sync t).status=4 then some ⟨t,17,(cm s.sync t).cond,0,i.site,[],[]⟩
  else if(cm s.sync t).status=2 then(if pX i.op≠0 then some (l9 i (bG s t) t)else none)
  else none
 else none
structure Se where
 value:Int
 cells:List Int
 futures:List Int
 thread:aW
def iw(l:List Int)(o:Int):Int:=l.getD o.toNat 0
def cL(i:bn)(e:cI)(s:el)(th:aW)(sv:Int):Se:=
 let nx:Int:=IntKind.i64.wrap (th.pc+1)
 let ev:Int:=IntKind.i64.wrap (th.ev+1)
 if e.kind=3 then⟨iw s.cells e.obj,s.cells,s.futures,⟨nx,th.regs.set i.a.toNat (iw s.cells e.obj),th.taint.set i.a.toNat [th.ev],ev⟩⟩
 else if e.kind=23 then⟨iw s.futures e.obj,s.cells,s.futures,⟨nx,th.regs.set i.a.toNat (iw s.futures e.obj),th.taint.set i.a.toNat [th.ev],ev⟩⟩
 else if e.kind=4 then⟨th.reg i.b,s.cells.set e.obj.toNat (th.reg i.b),s.futures,⟨nx,th.regs,th.taint,ev⟩⟩
 else if e.kind=22 then⟨th.reg i.b,s.cells,s.futures.set e.obj.toNat (th.reg i.b),⟨nx,th.regs,th.taint,ev⟩⟩
 else if e.kind=5 then(if th.reg i.a≠0 then⟨1,s.cells,s.futures,⟨nx,th.regs,th.taint,ev⟩⟩else⟨e.value,s.cells,s.futures,⟨i.b,th.regs,th.taint,ev⟩⟩)
 else if e.kind=18∨e.kind=19 then⟨sv,s.cells,s.futures,⟨nx,th.regs,th.taint,ev⟩⟩
 else if e.kind=1∨e.kind=16∨e.kind=2 then⟨e.value,s.cells,s.futures,⟨th.pc,th.regs,th.taint,ev⟩⟩
 else⟨e.value,s.cells,s.futures,⟨nx,th.regs,th.taint,ev⟩⟩
def AZ(c:bP)(s:el)(t wake:Int):Option (el×cI):=
 match ie c s t with
 |none=>none
 |some e=>
  if s.cells.length=c.w.cells.length∧s.futures.length=c.w.futures.length then
   let r:=gt c.w s.sync t e.kind e.obj wake
   if r.2.2 then
    let a:=cL (de (aD c t) (bG s t).pc) e s (bG s t) r.2.1
    let e':={e with value:=a.value}
    if e.kind≠16∧e.kind≠2 then
     let z:=bY (aD c t) a.thread
     if z.2 then some (⟨r.1,a.cells,a.futures,s.threads.set t.toNat z.1⟩,e')else none
    else some (⟨r.1,a.cells,a.futures,s.threads.set t.toNat a.thread⟩,e')
   else none
  else none
def cR(c:bP):el:=⟨dk c.w,c.w.cells.map bb.init,List.replicate c.w.futures.length 0,c.ts.map λt=>⟨0,List.replicate t.regs.toNat 0,List.replicate t.regs.toNat [],0⟩⟩
def Jc(c:bP)(p:List cI×el)(ch:dH):List cI×el:=
 if 400≤p.1.length then p else match AZ c p.2 ch.thread ch.wake with
  |none=>p
  |some (n,e)=>(p.1++[e],n)
def iT(c:bP)(l:List dH):List cI×el:=l.foldl (Jc c) ([],cR c)
end Go.Proofs.YtenbpcngcicamaaGreatDoor.Am
