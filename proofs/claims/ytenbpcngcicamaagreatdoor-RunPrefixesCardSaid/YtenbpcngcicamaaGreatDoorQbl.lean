/- A part of the proof; the statement is proved in the last part. -/
import Derived.Test.YtenbpcngcicamaaGreatDoorQbk
set_option linter.unusedSimpArgs false
set_option linter.unusedVariables false
namespace Go.Proofs.YtenbpcngcicamaaGreatDoor.Am
section
set_option maxRecDepth 100000
set_option maxHeartbeats 1000000
set_option linter.unusedSectionVars false
structure E3(w:aM)(t n:Nat)(regs:Int)(k:Nat)(i:bj):Prop where
 lo:1≤i.op
 hi:i.op≤28
 last:i.op=28↔k+1=n
 fin:i.op=28→i.site=-1
 sin:i.op≠28→inB i.site w.sites.length=true
 sth:i.op≠28→(w.sites.getD i.site.toNat default).thread=t
 regs:∀r∈bS i,0≤r∧r<regs
 obj:JG w i=true
 jmp:Iy n i=true
structure IC(w:aM)(t:Nat)(c:iy):Prop where
 r0:0≤c.regs
 r32:c.regs≤32
 ne:0<c.ins.length
 ins:∀(k:Nat) (h:k<c.ins.length),E3 w t c.ins.length c.regs k c.ins[k]
 lans:∀k,k<c.ins.length→pi c.ins k
theorem E3.fit{w:aM}{t:Nat}{c:iy}(hl:c.ins.length<2^48)(h:∀(k:Nat) (h:k<c.ins.length),E3 w t c.ins.length c.regs k c.ins[k]):N1 c.ins where
 len:=hl
 jmp:=λi hi h5=>by obtain⟨k,hk,rfl⟩:=List.mem_iff_getElem.1 hi;have:=(h k hk).jmp;unfold Iy at this;rw[if_pos h5]at this;exact ax.1 this
 last:=λk i hi=>by obtain⟨hk,rfl⟩:=V4.1 hi;exact(h k hk).last
theorem L5(i:bj):(bS i).length≤3:=by
 unfold bS
 repeat' split
 all_goals simp
section
variable {w:aM} {t:Nat} {c:iy} {k:Nat} {i:bj} (h0:0≤c.regs) (Q:R) (n45:W.Kn)
 (hno:¬E3 w t c.ins.length c.regs k i→Q (.bool false) [])
 (hgo:(∀r∈bS i,0≤r∧r<c.regs)→JG w i=true→Iy c.ins.length i=true→n45 [.W6 t,.pptr [w.enc] 0 0,.pptr [c.enc] 0 0,.lst (c.ins.map bj.enc),.W6 c.ins.length,.W6 (k+1:Nat)] [])
 (hl:c.ins.length<2^48) (hk:k<c.ins.length)
include h0 hno hgo hl hk
theorem R7(x:AV):dM Q n45 [.W6 t,.pptr [w.enc] 0 0,.pptr [c.enc] 0 0,x,.pptr [i.enc] 0 0,.lst (c.ins.map bj.enc),.W6 c.ins.length,.W6 k] []:=by
 have hr:=GM i;have ho:=GL w c.ins.length i;obtain⟨rg,hrg⟩:=WH h0;have hwr:IntKind.i64.wrap ((k:Int)+1)=((k+1:Nat):Int):=aD hk W1;unfold dM
 repeat' (first|refine st ?_|(refine pf 51 ?_;refine pm (hr) ?_)|refine sb λnb_ hnb_=>?_|refine s2 (λh=>?_) λh=>?_|fail)
 refine np (bS i).length (λj=>∀r∈(bS i).take j,0≤r∧r<c.regs) (λj=>[.W6 t,.pptr [w.enc] 0 0,.pptr [c.enc] 0 0,.pptr [i.enc] 0 0,.lst (c.ins.map bj.enc),.W6 c.ins.length,.W6 k,.lst ((bS i).map aj),.W6 (bS i).length,.W6 j]) (by have:=L5 i;omega) W4 W4 (λj hj hd hi hG nx hn=>?_) (λj hj hd hG nx=>?_)
 all_goals unfold fS
 ·have hx:=aw (f:=aj) hj;have hw:=dD (bS i)[j] rg;rw[←hrg]at hw;cases hb:inB (bS i)[j] rg with
  |false=>
   rw[hb]at hw;have:¬E3 w t c.ins.length c.regs k i:=λh=>by have:=h.regs _ (VF hj);rw[hrg,←ax,hb]at this;cases this
   repeat' (first|refine st ?_|(refine pf 50 ?_;refine pm (hw) ?_)|refine sb λnb_ hnb_=>?_|refine s2 (λh=>?_) λh=>?_|fail)
   exact hno this
  |true=>
   rw[hb]at hw
   repeat' (first|refine st ?_|(refine pf 50 ?_;refine pm (hw) ?_)|refine sb λnb_ hnb_=>?_|refine s2 (λh=>?_) λh=>?_|fail)
   refine hn (Ij hj hG ?_);rw[hrg];exact ax.1 hb
 ·subst hj;rw[List.take_length]at hG;cases hb:(JG w i&&Iy c.ins.length i)with
  |false=>
   rw[hb]at ho;have:¬E3 w t c.ins.length c.regs k i:=λh=>by rw[h.obj,h.jmp]at hb;cases hb
   repeat' (first|refine st ?_|(refine pf 52 ?_;refine pm (ho) ?_)|refine sb λnb_ hnb_=>?_|refine s2 (λh=>?_) λh=>?_|fail)
   exact hno this
  |true=>
   rw[hb]at ho;rw[VP]at hb
   repeat' (first|refine st ?_|(refine pf 52 ?_;refine pm (ho) ?_)|refine sb λnb_ hnb_=>?_|refine s2 (λh=>?_) λh=>?_|fail)
   exact hgo hG hb.1 hb.2
end
theorem Dx(w:aM)(t:Nat)(c:iy)(hl:c.ins.length<2^48):az Tryz.prog 28 [.agg w.enc,.W6 t,.agg c.enc] (.bool (mU (IC w t c))):=by
  refine mT _ _ _ _ _ ?_;unfold gm;generalize hQ:(λ(u:AV) (K:SH)=>u=AV.bool (mU (IC w t c))∧K=[])=Q;have hq:∀b,mU (IC w t c)=b→Q (.bool b) []:=λb hb=>by subst hQ;exact⟨by rw[hb],rfl⟩
  clear hQ;by_cases h0:0≤c.regs∧c.regs≤32∧0<c.ins.length
  · obtain⟨h0,h32,hn0⟩:=h0
    have d1:decide (c.regs<0)=false:=by simpa using h0
    have d2:decide (c.regs > 32)=false:=by simpa using h32
    have d3:decide ((c.ins.length:Int)=0)=false:=decide_eq_false W1
    repeat' (first|refine st ?_|refine sb λnb_ hnb_=>?_|refine s2 (λh=>?_) λh=>?_|fail)
    refine np c.ins.length (λk=>∀j (h:j<c.ins.length),j<k→E3 w t c.ins.length c.regs j c.ins[j]) (λk=>[.W6 t,.pptr [w.enc] 0 0,.pptr [c.enc] 0 0,.lst (c.ins.map bj.enc),.W6 c.ins.length,.W6 k]) W1 (λj h hj=>absurd hj (Nat.not_lt_zero _)) W4 (λk hk hd hi hG nx hn=>?_) (λk hk hd hG nx=>?_)
    all_goals unfold fT
    · have hx:=aw (f:=bj.enc) hk
      have hno:¬E3 w t c.ins.length c.regs k c.ins[k]→Q (.bool false) []:=λh=>hq _ (jk λh2=>h (h2.ins k hk))
      have hgo:E3 w t c.ins.length c.regs k c.ins[k]→nx [.W6 t,.pptr [w.enc] 0 0,.pptr [c.enc] 0 0,.lst (c.ins.map bj.enc),.W6 c.ins.length,.W6 (k+1:Nat)] []:=λh=>hn λj hj hjk=>by
        rcases Vp j k with g|g
        · exact hG j hj g
        · have e:j=k:=by omega
          subst e;exact h
      generalize c.ins[k]=i at hx hno hgo;have hj4:=λhgo x=>R7 (i:=i) (w:=w) (t:=t) (k:=k) h0 Q nx hno hgo hl hk x
      have hs1:IntKind.i64.wrap ((c.ins.length:Int)-1)=((c.ins.length-1:Nat):Int):=by rw[V9 _ W1];omega
      have hw:=dD i.site w.sites.length;obtain⟨op,ia,ib,ic,m,site⟩:=i;have he:bj.enc ⟨op,ia,ib,ic,m,site⟩=[.W6 op,.W6 ia,.W6 ib,.W6 ic,.W6 m,.W6 site]:=rfl;rw[he]at hx hj4;clear he;cases hb:inB site w.sites.length with
      |false=>
        rw[hb]at hw
        repeat' (first|with_reducible refine hj4 (λr1 r2 r3=>?_) _|refine st ?_|(refine pf 50 ?_;refine pm (hw) ?_)|refine sb λnb_ hnb_=>?_|refine s2 (λh=>?_) λh=>?_|fail)
        all_goals first
        | (refine hno fun h9 => ?_
           have g1:=h9.lo;have g2:=h9.hi;have g3:=h9.last;have g4:=h9.fin;have g5:=h9.sin;have g6:=h9.sth
           clear h9 hno hgo hn hG hj4 hq
           (simp only[hb,VN,decide_eq_true_eq,decide_eq_false_iff_not,ne_eq,Decidable.not_not,decide_eq_decide,imp_false]at *)
           omega)
        | (refine hgo ⟨?_, ?_, ?_, ?_, fun h9 => ?_, fun h9 => ?_, r1, r2, r3⟩
           all_goals clear hno hgo hn hG hj4 hq r1 r2 r3
           all_goals (simp only[hb,VN,decide_eq_true_eq,decide_eq_false_iff_not,ne_eq,Decidable.not_not,decide_eq_decide,imp_false]at *)
           all_goals omega)
        |trace_state
      |true=>
        rw[hb]at hw;obtain⟨ks,rfl⟩:=WH (fw hb);have hks:ks<w.sites.length:=by have:=(ax.1 hb).2;omega
        have hx2:=aw (f:=cI.enc) hks;unfold cI.enc at hx2
        repeat' (first|with_reducible refine hj4 (λr1 r2 r3=>?_) _|refine st ?_|(refine pf 50 ?_;refine pm (hw) ?_)|refine sb λnb_ hnb_=>?_|refine s2 (λh=>?_) λh=>?_|fail)
        all_goals first
        | (refine hno fun h9 => ?_
           have g1:=h9.lo;have g2:=h9.hi;have g3:=h9.last;have g4:=h9.fin;have g5:=h9.sin;have g6:=h9.sth
           clear h9 hno hgo hn hG hj4 hq
           (simp only[Wy,WM,Vk hks,WY,hb,imp_true_iff,decide_eq_true_eq,decide_eq_false_iff_not,ne_eq,Decidable.not_not,decide_eq_decide,imp_false]at *)
           omega)
        | (refine hgo ⟨?_, ?_, ?_, ?_, fun h9 => hb, fun h9 => ?_, r1, r2, r3⟩
           all_goals clear hno hgo hn hG hj4 hq r1 r2 r3
           all_goals (simp only[Wy,WM,Vk hks,WY,hb,imp_true_iff,decide_eq_true_eq,decide_eq_false_iff_not,ne_eq,Decidable.not_not,decide_eq_decide,imp_false]at *)
           all_goals omega)
        |trace_state
    · have ha:=IB (E3.fit hl λj h=>hG j h W1)
      repeat' (first|refine st ?_|(refine pf 53 ?_;refine pm (ha) ?_)|refine sb λnb_ hnb_=>?_|refine s2 (λh=>?_) λh=>?_|fail)
      refine hq _ ?_;cases hb:mU (∀k,k<c.ins.length→pi c.ins k)with
      |true=>exact kh ⟨h0,h32,hn0,λj h=>hG j h W1,ki.1 hb⟩
      |false=>exact jk λh=>by rw[kh h.lans]at hb;cases hb
  · have hno:=hq _ (jk λh=>h0 ⟨h.r0,h.r32,h.ne⟩)
    repeat' (first|refine st ?_|refine sb λnb_ hnb_=>?_|refine s2 (λh=>?_) λh=>?_|fail)
    all_goals first
      |exact hno
      |(exfalso;refine h0 ?_;simp only[decide_eq_true_eq,decide_eq_false_iff_not]at *;omega)
end
section
set_option maxRecDepth 100000
def jm(b:AV)(L:SH)(Q:R):Prop:=wb .geq 5 b (.int .u8 97) λc=>bD c true b L λe f=>wg c true (wb .leq 5 e (.int .u8 122)) f λg h=>W.pick c g (.bool false) λa=>bD a false b h λi j=>wg a false (wb .geq 5 i (.int .u8 65)) j λk l=>bD a false k l λd m=>bD d true b m λn o=>wg d true (wb .leq 5 n (.int .u8 90)) o λp q=>wg a false (W.pick d p (.bool false)) q λr s=>W.pick a (.bool true) r λt=>Q t s
theorem nA(t0:AV)(L:SH)(Q:R)(h:jm t0 L Q):af Tryz.prog 96 [t0] L Q:=
 fs [] [] [] [] Tryz.func96 h
def lh(b:AV)(L:SH)(Q:R):Prop:=wb .geq 5 b (.int .u8 48) λa=>bD a true b L λc d=>wg a true (wb .leq 5 c (.int .u8 57)) d λe f=>W.pick a e (.bool false) λg=>Q g f
theorem pD(t0:AV)(L:SH)(Q:R)(h:lh t0 L Q):af Tryz.prog 122 [t0] L Q:=
 fs [] [] [] [] Tryz.func122 h
def Dy(Q:R)(c a:AV)(e:SH):Prop:=bD a false c e λf d=>W.grd a false (λg=>wc (.fn 122 []) [f] d λh i=>g h i) d λj k=>W.pick a (.bool true) j λb=>bD b false c k λl m=>wg b false (wb .eql 5 l (.int .u8 95)) m λn o=>W.pick b (.bool true) n λp=>Q p o
def lj(a:AV)(L:SH)(Q:R):Prop:=wc (.fn 96 []) [a] L (Dy Q a)
theorem pE(t0:AV)(L:SH)(Q:R)(h:lj t0 L Q):af Tryz.prog 98 [t0] L Q:=
 fs [] [] [] [] Tryz.func98 h
def gJ(L:SH)(Q:R):Prop:=W.bslice 1 [(.str [])] 22 [(0,(.str [118,97,114])),(1,(.str [118,111,108,97,116,105,108,101])),(2,(.str [109,117,116,101,120])),(3,(.str [114,119,108,111,99,107])),(4,(.str [99,111,110,100])),(5,(.str [102,117,116,117,114,101])),(6,(.str [116,104,114,101,97,100])),(7,(.str [105,102])),(8,(.str [101,108,115,101])),(9,(.str [119,104,105,108,101])),(10,(.str [108,111,99,107])),(11,(.str [114,101,97,100])),(12,(.str [119,114,105,116,101])),(13,(.str [116,114,97,110,115,97,99,116,105,111,110])),(14,(.str [97,116,111,109,105,99])),(15,(.str [119,97,105,116])),(16,(.str [110,111,116,105,102,121])),(17,(.str [110,111,116,105,102,121,97,108,108])),(18,(.str [115,112,97,119,110])),(19,(.str [106,111,105,110])),(20,(.str [115,101,116])),(21,(.str [103,101,116]))] L λa b=>Q a b
theorem kj(L:SH)(Q:R)(h:gJ L Q):af Tryz.prog 121 [] L Q:=
 fs [] [] [] [] Tryz.func121 h
def fy(Q:R)(e:Vs)(a:SH)(f:Kn):Prop:=sg 0 3 4 e λd b c=>W.len b λg=>wb .lss 3 c g λh=>wk h (wv 1 b c a λi=>wb .eql 9 i d λj=>wk j (Q (.bool true) a) (wb .add 3 c (.W6 1) λk=>f [d,b,k] a)) (Q (.bool false) a)
def sV(Q:R)(a b:AV)(c:SH):Prop:=W.loop (fy Q) [a,b,(.W6 0)] c
def fU(a:AV)(L:SH)(Q:R):Prop:=wc (.fn 121 []) [] L (sV Q a)
theorem jo(t0:AV)(L:SH)(Q:R)(h:fU t0 L Q):af Tryz.prog 97 [t0] L Q:=
 fs [] [(3,[0,3,4])] [] [] Tryz.func97 h
def BU(Q:R)(b:Kn)(c d e:AV)(a:SH):Prop:=W.un .not e λf=>wk f (Q (.bool false) a) (wb .add 3 c (.W6 1) λg=>b [d,g] a)
def io(Q:R)(d:Vs)(c:SH)(e:Kn):Prop:=Pw 0 3 d λa b=>W.lenS a λf=>wb .lss 3 b f λg=>wk g (W.ixS a b λh=>wc (.fn 98 []) [h] c (BU Q e b a)) (Q (.bool true) c)
def fV(a:AV)(L:SH)(Q:R):Prop:=W.lenS a λh=>wb .lss 3 h (.W6 1) λc=>bD c false a L λi j=>wg c false (W.lenS i) j λk l=>wg c false (wb .gtr 3 k (.W6 12)) l λm n=>W.pick c (.bool true) m λb=>bD b false a n λo p=>wg b false (W.ixS o (.W6 0)) p λq e=>W.grd b false (λr=>wc (.fn 96 []) [q] e λs t=>r s t) e λu v=>wg b false (W.un .not u) v λw x=>W.pick b (.bool true) w λd=>bD d false a x λy f=>W.grd d false (λz=>wc (.fn 97 []) [y] f λA B=>z A B) f λC g=>W.pick d (.bool true) C λD=>wk D (Q (.bool false) g) (W.loop (io Q) [a,(.W6 0)] g)
theorem ip(t0:AV)(L:SH)(Q:R)(h:fV t0 L Q):af Tryz.prog 60 [t0] L Q:=
 fs [] [(4,[0,3])] [] [] Tryz.func60 h
def xz(Q:R)(d:SH)(b:AV):Prop:=wb .geq 3 b (.W6 6) λa=>bD a true b d λe f=>wg a true (wb .leq 3 e (.W6 18)) f λg c=>W.pick a g (.bool false) λh=>wk h (Q (.W6 2) c) (Q (.W6 (-1)) c)
def xA(Q:R)(d:SH)(a:AV):Prop:=wb .geq 3 a (.W6 3) λb=>bD b true a d λe f=>wg b true (wb .leq 3 e (.W6 5)) f λg c=>W.pick b g (.bool false) λh=>wk h (Q (.W6 1) c) ((xz Q c a))
def lT(a:AV)(L:SH)(Q:R):Prop:=wb .eql 3 a (.W6 1) λb=>bD b false a L λd e=>wg b false (wb .eql 3 d (.W6 2)) e λf c=>W.pick b (.bool true) f λg=>wk g (Q (.W6 0) c) ((xA Q c a))
theorem xB(t0:AV)(L:SH)(Q:R)(h:lT t0 L Q):af Tryz.prog 140 [t0] L Q:=
 fs [] [] [] [] Tryz.func140 h
def qF(Q:R)(b:Kn)(c d e:AV)(a:SH):Prop:=W.un .not e λf=>wk f (Q (.bool false) a) (wb .add 3 c (.W6 1) λg=>b [d,g] a)
def iC(Q:R)(d:Vs)(a:SH)(e:Kn):Prop:=Pw 1 4 d λb c=>aA 3 b a λf=>W.len f λg=>wb .lss 3 c g λh=>wk h (aA 3 b a λi=>lG 4 i c a λj=>wc (.fn 123 []) [j] a (qF Q e c b)) (Q (.bool true) a)
def qG(Q:R)(G:SH)(a o:AV)(H:Fp)(I:AV)(h:SH)(J:Ns):Prop:=wn [] J [] G.names λM=>aL 3 a [rc 2 M,rm 1 H] 4 h λN g4=>W.len N λO=>wb .neq 3 I O λb=>W.dgrd b false (λP=>P o h rz) h λS p g5=>W.dgrd b false (λT=>W.faddr 2 a λU=>T U p rz) p λV i g6=>W.dgrd b false (λX=>dl [] 10 V i λY Z=>X Y i Z) i λa0 q g7=>W.dgrd b false (λa1=>wb .neq 9 a0 (.str []) λa2=>a1 a2 q rz) q λa3 r g8=>W.dgrd b false (λa4=>wb .neq 4 S a3 λa5=>a4 a5 r rz) r λa6 s g9=>W.pick b (.bool true) a6 λe=>W.dgrd e false (λa7=>a7 o s rz) s λa8 t h0=>W.dgrd e false (λa9=>a9 a8 t rz) t λd u h1=>W.dgrd d true (λb0=>W.faddr 2 a λb1=>b0 b1 u rz) u λb2 j h2=>W.dgrd d true (λb3=>dl [] 18 b2 j λb4 b5=>b3 b4 j b5) j λb6 k h3=>W.dgrd d true (λb7=>wd [] 19 (.fn 60 []) [b6] k λb8 b9 c0=>wn [] c0 [] k.names λc1=>b7 b8 b9 c1) k λc2 v h4=>W.dgrd d true (λc3=>W.un .not c2 λc4=>c3 c4 v rz) v λc5 w h5=>W.dgrd e false (λc6=>W.pick d c5 (.bool false) λc7=>c6 c7 w rz) w λc8 x h6=>W.pick e (.bool true) c8 λf=>W.dgrd f false (λc9=>W.faddr 1 a λd0=>c9 d0 x rz) x λd1 l h7=>W.dgrd f false (λd2=>dl [] 25 d1 l λd3 d4=>d2 d3 l d4) l λd5 y h8=>W.dgrd f false (λd6=>wb .lss 2 d5 (.W6 0) λd7=>d6 d7 y rz) y λd8 z h9=>W.pick f (.bool true) d8 λc=>W.dgrd c false (λd9=>W.faddr 0 a λe0=>d9 e0 z rz) z λe1 m i0=>W.dgrd c false (λe2=>dl [] 30 e1 m λe3 e4=>e2 e3 m e4) m λe5 A i1=>W.dgrd c false (λe6=>wb .neq 3 e5 (.W6 1) λe7=>e6 e7 A rz) A λe8 B i2=>W.dgrd c false (λe9=>e9 e8 B rz) B λg C i3=>W.dgrd g true (λf0=>W.faddr 1 a λf1=>f0 f1 C rz) C λf2 n i4=>W.dgrd g true (λf3=>dl [] 34 f2 n λf4 f5=>f3 f4 n f5) n λf6 D i5=>W.dgrd g true (λf7=>wb .neq 2 f6 (.W6 0) λf8=>f7 f8 D rz) D λf9 E i6=>W.dgrd c false (λg0=>W.pick g f9 (.bool false) λg1=>g0 g1 E rz) E λg2 F i7=>W.pick c (.bool true) g2 λg3=>wk g3 (Q (.bool false) F) (W.loop (iC Q) [a,(.W6 0)] F)
def jp(f:AV)(L:SH)(Q:R):Prop:=sf f L λa d=>aA 0 a d λg=>wb .eql 3 g (.W6 2) λb=>wg b false (W.faddr 0 a) d λh e=>wg b false (wl h e) e λi j=>wg b false (wb .eql 3 i (.W6 3)) j λk c=>W.pick b (.bool true) k λl=>(true=true)∧(aL 0 a [] 1 c λm n=>wd [] 2 (.fn 140 []) [m] c (qG Q c a l n))
theorem qH(t0:AV)(L:SH)(Q:R)(h:jp t0 L Q):af Tryz.prog 123 [t0] L Q:=
 fs [] [(5,[1,4])] [(0,[1])] [(2,[0,1,3,0,8,24,63,127,255,255,767,1791,4095,8191,16383,32767,65535,131071,262143,524287,1048575,2097151,4194303,8388607,16777215,33554431,67108863,134217727,268435455,536870911,1073741823,2147483647,4294967295,8589934591,17179869183,34359738367,68719476735,137438953471])] Tryz.func123 h
def sj(i:AV)(L:SH)(Q:R):Prop:=sf i L λb e=>aA 0 b e λj=>wb .eql 3 j (.W6 0) λc=>wg c true (W.faddr 1 b) e λk f=>wg c true (wl k f) f λl m=>wg c true (wb .eql 2 l (.W6 0)) m λn o=>W.pick c n (.bool false) λd=>wg d true (W.faddr 2 b) o λp g=>wg d true (wl p g) g λq r=>wg d true (wb .eql 9 q (.str [])) r λs t=>W.pick d s (.bool false) λa=>wg a true (W.faddr 3 b) t λu h=>wg a true (wl u h) h λv w=>wg a true (W.len v) w λx y=>wg a true (wb .eql 3 x (.W6 0)) y λz A=>W.pick a z (.bool false) λB=>Q B A
theorem Dz(t0:AV)(L:SH)(Q:R)(h:sj t0 L Q):af Tryz.prog 124 [t0] L Q:=
 fs [] [] [(0,[1])] [] Tryz.func124 h
def qI(Q:R)(d a:AV)(e:SH):Prop:=wg a true (W.faddr 10 d) e λf b=>wg a true (wl f b) b λg c=>W.grd a true (λh=>wc (.fn 61 []) [g] c λi j=>h i j) c λk l=>W.pick a k (.bool false) λm=>Q m l
def fa(Q:R)(g:SH)(a:AV):Prop:=aA 0 a g λl=>wb .geq 3 l (.W6 2) λe=>wg e true (W.faddr 0 a) g λm h=>wg e true (wl m h) h λn o=>wg e true (wb .leq 3 n (.W6 8)) o λp q=>W.pick e p (.bool false) λr=>W.un .not r λc=>wg c true (W.faddr 9 a) q λs i=>wg c true (wl s i) i λt u=>wg c true (W.len t) u λv w=>wg c true (wb .gtr 3 v (.W6 0)) w λx y=>W.pick c x (.bool false) λb=>wg b false (W.faddr 0 a) y λz j=>wg b false (wl z j) j λA B=>wg b false (wb .neq 3 A (.W6 2)) B λC D=>bD b false C D λd E=>wg d true (W.faddr 10 a) E λF k=>wg d true (wl F k) k λG H=>wg d true (W.len G) H λI J=>wg d true (wb .gtr 3 I (.W6 0)) J λM N=>wg b false (W.pick d M (.bool false)) N λO f=>W.pick b (.bool true) O λP=>wk P (Q (.bool false) f) (aA 9 a f λS=>wc (.fn 61 []) [S] f (qI Q a))
def fb(Q:R)(h:SH)(a:AV):Prop:=aA 0 a h λq=>wb .eql 3 q (.W6 1) λe=>wg e false (W.faddr 0 a) h λr i=>wg e false (wl r i) i λs t=>wg e false (wb .eql 3 s (.W6 2)) t λu v=>W.pick e (.bool true) u λf=>wg f false (W.faddr 0 a) v λw j=>wg f false (wl w j) j λx y=>wg f false (wb .eql 3 x (.W6 3)) y λz A=>W.pick f (.bool true) z λg=>wg g false (W.faddr 0 a) A λB k=>wg g false (wl B k) k λC D=>wg g false (wb .eql 3 C (.W6 14)) D λE F=>W.pick g (.bool true) E λb=>wg b true (W.faddr 5 a) F λG l=>wg b true (bY 4 G l) l λH m=>W.grd b true (λI=>wc (.fn 123 []) [H] m λJ M=>I J M) m λN O=>wg b true (W.un .not N) O λP S=>W.pick b P (.bool false) λc=>bD c false b S λT U=>wg c false (W.un .not T) U λV X=>bD c false V X λd Y=>wg d true (W.faddr 5 a) Y λZ n=>wg d true (bY 4 Z n) n λa0 o=>W.grd d true (λa1=>wc (.fn 124 []) [a0] o λa2 a3=>a1 a2 a3) o λa4 a5=>wg d true (W.un .not a4) a5 λa6 a7=>wg c false (W.pick d a6 (.bool false)) a7 λa8 p=>W.pick c (.bool true) a8 λa9=>wk a9 (Q (.bool false) p) ((fa Q p a))
def fe(Q:R)(f:SH)(c:AV):Prop:=aA 4 c f λo=>W.len o λp=>wb .gtr 3 p (.W6 1) λd=>wg d false (W.faddr 0 c) f λq g=>wg d false (wl q g) g λr s=>wg d false (wb .neq 3 r (.W6 1)) s λt u=>bD d false t u λe v=>wg e true (W.faddr 4 c) v λw h=>wg e true (wl w h) h λx y=>wg e true (W.len x) y λz A=>wg e true (wb .gtr 3 z (.W6 0)) A λB C=>wg d false (W.pick e B (.bool false)) C λD E=>W.pick d (.bool true) D λa=>wg a false (W.faddr 4 c) E λF i=>wg a false (wl F i) i λG H=>wg a false (W.len G) H λI J=>wg a false (wb .eql 3 I (.W6 1)) J λM N=>bD a false M N λb O=>wg b true (W.faddr 4 c) O λP j=>wg b true (wl P j) j λS k=>wg b true (W.idx 4 S (.W6 0) k) k λT l=>wg b true (bY 4 T l) l λU m=>W.grd b true (λV=>wc (.fn 123 []) [U] m λX Y=>V X Y) m λZ a0=>wg b true (W.un .not Z) a0 λa1 a2=>wg a false (W.pick b a1 (.bool false)) a2 λa3 n=>W.pick a (.bool true) a3 λa4=>wk a4 (Q (.bool false) n) ((fb Q n c))
def ff(Q:R)(e:SH)(b:AV):Prop:=aA 0 b e λk=>wb .eql 3 k (.W6 15) λc=>wg c true (W.faddr 3 b) e λl f=>wg c true (wl l f) f λm g=>W.grd c true (λn=>wc (.fn 60 []) [m] g λo p=>n o p) g λq r=>wg c true (W.un .not q) r λs t=>W.pick c s (.bool false) λa=>wg a false (W.faddr 0 b) t λu h=>wg a false (wl u h) h λv w=>wg a false (wb .neq 3 v (.W6 15)) w λx y=>bD a false x y λd z=>wg d true (W.faddr 3 b) z λA i=>wg d true (wl A i) i λB C=>wg d true (wb .neq 9 B (.str [])) C λD E=>wg a false (W.pick d D (.bool false)) E λF j=>W.pick a (.bool true) F λG=>wk G (Q (.bool false) j) ((fe Q j b))
def fg(Q:R)(h:SH)(a:AV):Prop:=aA 0 a h λp=>wb .eql 3 p (.W6 2) λe=>wg e false (W.faddr 0 a) h λq i=>wg e false (wl q i) i λr s=>wg e false (wb .eql 3 r (.W6 3)) s λt u=>W.pick e (.bool true) t λf=>wg f false (W.faddr 0 a) u λv j=>wg f false (wl v j) j λw x=>wg f false (wb .eql 3 w (.W6 7)) x λy z=>W.pick f (.bool true) y λg=>wg g false (W.faddr 0 a) z λA k=>wg g false (wl A k) k λB C=>wg g false (wb .eql 3 B (.W6 8)) C λD E=>W.pick g (.bool true) D λb=>wg b true (W.faddr 2 a) E λF l=>wg b true (wl F l) l λG H=>wg b true (wb .neq 9 G (.str [])) H λI J=>W.pick b I (.bool false) λc=>bD c false b J λM N=>wg c false (W.un .not M) N λO P=>bD c false O P λd S=>wg d true (W.faddr 2 a) S λT m=>wg d true (wl T m) m λU n=>W.grd d true (λV=>wc (.fn 60 []) [U] n λX Y=>V X Y) n λZ a0=>wg d true (W.un .not Z) a0 λa1 a2=>wg c false (W.pick d a1 (.bool false)) a2 λa3 o=>W.pick c (.bool true) a3 λa4=>wk a4 (Q (.bool false) o) ((ff Q o a))
def jq(f:AV)(L:SH)(Q:R):Prop:=sf f L λb c=>aA 0 b c λg=>wb .lss 3 g (.W6 1) λa=>wg a false (W.faddr 0 b) c λh d=>wg a false (wl h d) d λi j=>wg a false (wb .gtr 3 i (.W6 15)) j λk e=>W.pick a (.bool true) k λl=>wk l (Q (.bool false) e) ((fg Q e b))
theorem qJ(t0:AV)(L:SH)(Q:R)(h:jq t0 L Q):af Tryz.prog 99 [t0] L Q:=
 fs [] [] [(0,[1])] [] Tryz.func99 h
def pF(Q:R)(b:Kn)(c d e:AV)(a:SH):Prop:=W.un .not e λf=>wk f (Q (.bool false) a) (wb .add 3 c (.W6 1) λg=>b [d,g] a)
def hD(Q:R)(d:Vs)(a:SH)(e:Kn):Prop:=Pw 0 3 d λb c=>W.len b λf=>wb .lss 3 c f λg=>wk g (lG 11 b c a λh=>wc (.fn 99 []) [h] a (pF Q e c b)) (Q (.bool true) a)
def iD(a:AV)(L:SH)(Q:R):Prop:=W.loop (hD Q) [a,(.W6 0)] L
theorem pG(t0:AV)(L:SH)(Q:R)(h:iD t0 L Q):af Tryz.prog 61 [t0] L Q:=
 fs [] [(2,[0,3])] [] [] Tryz.func61 h
def fh(Q:R)(e:SH)(b:AV):Prop:=aA 4 b e λi=>wb .gtr 2 i (.W6 (-9223372036854775808)) λa=>wg a true (W.faddr 4 b) e λj f=>wg a true (wl j f) f λk l=>wg a true (wb .eql 2 k (.W6 0)) l λm n=>bD a true m n λc o=>wg c false (W.faddr 0 b) o λp g=>wg c false (wl p g) g λq r=>wg c false (wb .eql 3 q (.W6 1)) r λs t=>wg a true (W.pick c (.bool true) s) t λu v=>bD a true u v λd w=>wg d false (W.faddr 0 b) w λx h=>wg d false (wl x h) h λy z=>wg d false (wb .eql 3 y (.W6 2)) z λA B=>wg a true (W.pick d (.bool true) A) B λC D=>W.pick a C (.bool false) λE=>Q E D
def fi(Q:R)(e:SH)(b:AV):Prop:=aA 0 b e λk=>wb .eql 3 k (.W6 5) λc=>wg c true (W.faddr 5 b) e λl f=>wg c true (wl l f) f λm g=>W.grd c true (λn=>wc (.fn 60 []) [m] g λo p=>n o p) g λq r=>wg c true (W.un .not q) r λs t=>W.pick c s (.bool false) λa=>wg a false (W.faddr 0 b) t λu h=>wg a false (wl u h) h λv w=>wg a false (wb .neq 3 v (.W6 5)) w λx y=>bD a false x y λd z=>wg d true (W.faddr 5 b) z λA i=>wg d true (wl A i) i λB C=>wg d true (wb .neq 9 B (.str [])) C λD E=>wg a false (W.pick d D (.bool false)) E λF j=>W.pick a (.bool true) F λG=>wk G (Q (.bool false) j) ((fh Q j b))
def jr(o:AV)(L:SH)(Q:R):Prop:=sf o L λa g=>aA 0 a g λp=>wb .lss 3 p (.W6 1) λd=>wg d false (W.faddr 0 a) g λq h=>wg d false (wl q h) h λr s=>wg d false (wb .gtr 3 r (.W6 6)) s λt u=>W.pick d (.bool true) t λc=>wg c false (W.faddr 2 a) u λv i=>wg c false (wl v i) i λw j=>W.grd c false (λx=>wc (.fn 60 []) [w] j λy z=>x y z) j λA B=>wg c false (W.un .not A) B λC D=>W.pick c (.bool true) C λe=>wg e false (W.faddr 3 a) D λE k=>wg e false (wl E k) k λF G=>wg e false (wb .lss 3 F (.W6 0)) G λH I=>W.pick e (.bool true) H λb=>wg b false (W.faddr 0 a) I λJ l=>wg b false (wl J l) l λM N=>wg b false (wb .neq 3 M (.W6 1)) N λO P=>bD b false O P λf S=>wg f true (W.faddr 3 a) S λT m=>wg f true (wl T m) m λU V=>wg f true (wb .neq 3 U (.W6 0)) V λX Y=>wg b false (W.pick f X (.bool false)) Y λZ n=>W.pick b (.bool true) Z λa0=>wk a0 (Q (.bool false) n) ((fi Q n a))
theorem qK(t0:AV)(L:SH)(Q:R)(h:jr t0 L Q):af Tryz.prog 59 [t0] L Q:=
 fs [] [] [(0,[1])] [] Tryz.func59 h
def BV(Q:R)(b:Kn)(c d e:AV)(a:SH):Prop:=W.un .not e λf=>wk f (Q (.bool false) a) (wb .add 3 c (.W6 1) λg=>b [d,g] a)
def BW(Q:R)(b:Kn)(c d e f g:AV)(a:SH):Prop:=W.un .not g λh=>wk h (Q (.bool false) a) (wb .add 3 c (.W6 1) λi=>b [d,e,f,i] a)
def BX(Q:R)(e:Kn)(f g h i:AV)(j:SH):Prop:=W.un .not i λa=>wg a false (W.faddr 3 f) j λk b=>wg a false (wl k b) b λl c=>W.grd a false (λm=>wc (.fn 61 []) [l] c λn o=>m n o) c λp q=>wg a false (W.un .not p) q λr d=>W.pick a (.bool true) r λs=>wk s (Q (.bool false) d) (wb .add 3 g (.W6 1) λt=>e [h,t] d)
def nB(Q:R)(f:Kn)(g:Vs)(a:SH)(h:Kn):Prop:=yP 1 4 5 6 g λd e b c=>aA 2 b a λi=>W.len i λj=>wb .lss 3 c j λk=>wk k (aA 2 b a λl=>wv 1 l c a λm=>wc (.fn 60 []) [m] a (BW Q h c d e b)) (aA 0 b a λn=>wc (.fn 60 []) [n] a (BX Q f b e d))
def BY(Q:R)(d:Kn)(a:SH)(b c:AV):Prop:=aA 1 b a λe=>lG 4 e c a λf=>qr [(.str []),(.W6 0),.nils,.nils] 4 f a λg h=>W.loop (nB Q d) [b,c,g,(.W6 0)] h
def nC(Q:R)(d:Vs)(a:SH)(e:Kn):Prop:=Pw 1 4 d λb c=>aA 1 b a λf=>W.len f λg=>wb .lss 3 c g λh=>wk h ((BY Q e a b c)) (aA 1 b a λi=>W.len i λj=>wb .gtr 3 j (.W6 0) λk=>Q k a)
def nD(Q:R)(d:Vs)(a:SH)(e:Kn):Prop:=Pw 1 3 d λb c=>aA 0 b a λf=>W.len f λg=>wb .lss 3 c g λh=>wk h (aA 0 b a λi=>lG 6 i c a λj=>wc (.fn 59 []) [j] a (BV Q e c b)) (W.loop (nC Q) [b,(.W6 0)] a)
def pH(a:AV)(L:SH)(Q:R):Prop:=sf a L λb c=>W.loop (nD Q) [b,(.W6 0)] c
theorem BZ(t0:AV)(L:SH)(Q:R)(h:pH t0 L Q):af Tryz.prog 37 [t0] L Q:=
 fs [] [(2,[1,3]),(11,[1,4,5,6]),(7,[1,4])] [(0,[1]),(9,[5])] [] Tryz.func37 h
def fH(Q:R)(e:Vs)(a:SH)(f:Kn):Prop:=sg 0 1 5 e λc d b=>W.len c λg=>wb .lss 3 b g λh=>wk h (wv 1 c b a λi=>wb .eql 9 i d λj=>wk j (Q b a) (wb .add 3 b (.W6 1) λk=>f [c,d,k] a)) (Q (.W6 (-1)) a)
def mX(a b:AV)(L:SH)(Q:R):Prop:=W.loop (fH Q) [a,b,(.W6 0)] L
theorem pI(t0 t1:AV)(L:SH)(Q:R)(h:mX t0 t1 L Q):af Tryz.prog 64 [t0,t1] L Q:=
 fs [] [(2,[0,1,5])] [] [] Tryz.func64 h
def nE(Q:R)(e:Vs)(a:SH)(f:Kn):Prop:=sg 0 1 5 e λc d b=>W.len c λg=>wb .lss 3 b g λh=>wk h (eW 6 2 c b a λi=>wb .eql 9 i d λj=>wk j (Q b a) (wb .add 3 b (.W6 1) λk=>f [c,d,k] a)) (Q (.W6 (-1)) a)
def pJ(a b:AV)(L:SH)(Q:R):Prop:=W.loop (nE Q) [a,b,(.W6 0)] L
theorem B0(t0 t1:AV)(L:SH)(Q:R)(h:pJ t0 t1 L Q):af Tryz.prog 62 [t0,t1] L Q:=
 fs [] [(2,[0,1,5])] [] [] Tryz.func62 h
def km(Q:R)(e:Vs)(a:SH)(f:Kn):Prop:=sg 0 1 5 e λc d b=>W.len c λg=>wb .lss 3 b g λh=>wk h (eW 4 0 c b a λi=>wb .eql 9 i d λj=>wk j (Q b a) (wb .add 3 b (.W6 1) λk=>f [c,d,k] a)) (Q (.W6 (-1)) a)
def lU(a b:AV)(L:SH)(Q:R):Prop:=W.loop (km Q) [a,b,(.W6 0)] L
theorem xC(t0 t1:AV)(L:SH)(Q:R)(h:lU t0 t1 L Q):af Tryz.prog 63 [t0,t1] L Q:=
 fs [] [(2,[0,1,5])] [] [] Tryz.func63 h
def B1(Q:R)(b:AV)(a:SH):Prop:=wb .geq 3 b (.W6 0) λc=>wk c (Q (.W6 7) a) (Q (.W6 0) a)
def B2(Q:R)(b:Vs)(a:SH):Prop:=sg 3 7 56 b λc d e=>wk e (aA 0 c a λf=>eW 6 0 f d a λg=>Q g a) (Q (.W6 9) a)
def B3(a:Kn)(b:SH)(c d e:AV):Prop:=wb .eql 3 c (.W6 4) λf=>wk f (a [d,e,f] b) (wb .eql 3 c (.W6 5) λg=>wk g (a [d,e,g] b) (wb .eql 3 c (.W6 6) λh=>a [d,e,h] b))
def B4(Q:R)(a:SH)(b c d:AV):Prop:=wb .eql 3 b (.W6 2) λg=>wk g (Q (.W6 1) a) (W.join (B2 Q) λe=>wb .eql 3 b (.W6 3) λf=>wk f (e [c,d,f] a) ((B3 e a b c d)))
def B5(Q:R)(a:SH)(b c:AV):Prop:=aA 0 b a λe=>eW 6 0 e c a λd=>wb .eql 3 d (.W6 1) λf=>wk f (aA 0 b a λg=>eW 6 3 g c a λh=>wb .neq 3 h (.W6 0) λi=>wk i (Q (.W6 2) a) (Q (.W6 1) a)) ((B4 Q a d b c))
def B6(Q:R)(d b c:AV)(a:SH):Prop:=wb .lss 3 c (.W6 0) λe=>wk e (aA 1 b a λf=>wc (.fn 63 []) [f,d] a (B1 Q)) ((B5 Q a b c))
def pK(l d e:AV)(L:SH)(Q:R):Prop:=sf l L λc m=>wb .geq 3 d (.W6 0) λb=>bD b true d m λn o=>wg b true (W.faddr 1 c) o λp g=>wg b true (wl p g) g λq r=>wg b true (W.len q) r λs t=>wg b true (wb .lss 3 n s) t λu v=>W.pick b u (.bool false) λa=>wg a true (W.faddr 1 c) v λw h=>wg a true (wl w h) h λx y=>bD a true d y λz i=>wg a true (W.idx 4 x z i) i λA B=>wg a true (W.faddr 2 A) B λC j=>wg a true (wl C j) j λD E=>bD a true e E λF k=>W.grd a true (λG=>wc (.fn 64 []) [D,F] k λH I=>G H I) k λJ M=>wg a true (wb .geq 3 J (.W6 0)) M λN f=>W.pick a N (.bool false) λO=>wk O (Q (.W6 8) f) (aA 0 c f λP=>wc (.fn 62 []) [P,e] f (B6 Q e c))
theorem B7(t0 t1 t2:AV)(L:SH)(Q:R)(h:pK t0 t1 t2 L Q):af Tryz.prog 125 [t0,t1,t2] L Q:=
 fs [(18,[3,7,56])] [] [(0,[3])] [] Tryz.func125 h
def E4(Q:R)(d:SH)(e f b:AV):Prop:=wb .neq 3 b e λa=>bD a true b d λg h=>bD a true f h λi j=>wg a true (wb .neq 3 g i) j λk c=>W.pick a k (.bool false) λl=>wk l (Q (.W6 6) c) (Q (.W6 0) c)
def E5(Q:R)(c d a:AV)(b:SH):Prop:=wb .eql 3 a (.W6 0) λe=>wk e (Q (.W6 5) b) ((E4 Q b c d a))
def mY(b c d e f:AV)(L:SH)(Q:R):Prop:=sf b L λg a=>bY 2 g a λh=>wc (.fn 125 []) [h,c,d] a (E5 Q e f)
theorem sk(t0 t1 t2 t3 t4:AV)(L:SH)(Q:R)(h:mY t0 t1 t2 t3 t4 L Q):af Tryz.prog 102 [t0,t1,t2,t3,t4] L Q:=
 fs [] [] [(0,[5])] [] Tryz.func102 h
def DA(b:Kn)(c d e f a:AV)(g:SH):Prop:=W.ext 0 a λh=>W.ext 1 a λi=>wb .add 3 c h λj=>W.mnx true d i λk=>wb .add 3 e (.W6 1) λl=>b [f,j,k,l] g
def pL(Q:R)(f:Vs)(a:SH)(g:Kn):Prop:=yP 1 4 5 6 f λb d e c=>aA 3 b a λh=>W.len h λi=>wb .lss 3 c i λj=>wk j (aA 3 b a λk=>lG 4 k c a λl=>wc (.fn 126 []) [l] a (DA g d e c b)) (wb .add 3 e (.W6 1) λm=>Q (.tup [d,m]) a)
def sn(a:AV)(L:SH)(Q:R):Prop:=sf a L λb c=>W.loop (pL Q) [b,(.W6 1),(.W6 0),(.W6 0)] c
theorem DB(t0:AV)(L:SH)(Q:R)(h:sn t0 L Q):af Tryz.prog 126 [t0] L Q:=
 fs [] [(3,[1,4,5,6])] [(0,[1])] [] Tryz.func126 h
def DC(a:Kn)(b:SH)(c d e f g:AV)(h:SH)(i:Ns):Prop:=wn [] i [] b.names λk=>wb .add 3 c (.W6 1) λj=>a [d,e,f,g,j] h
def DD(g:Kn)(a:SH)(c d e f:AV):Prop:=(true=true)∧(dr [] 0 2 c a λh b=>aL 3 d [rm 0 b] 3 a λi l=>di [rm 0 b] 5 4 i e a λj m=>dr [rm 0 b] 6 4 j a λk n=>wd [] 7 (.fn 127 []) [h,f,k] a (DC g a e f c d))
def pM(Q:R)(g:Vs)(b:SH)(h:Kn):Prop:=Hl 1 3 5 7 8 g λi j c d e=>aA 3 c b λk=>W.len k λl=>wb .lss 3 e l λa=>bD a true d b λm n=>wg a true (wb .eql 59 m (.W6 0)) n λo f=>W.pick a o (.bool false) λp=>wk p ((DD h f j c e i)) (Q d f)
def jt(Q:R)(a:Vs)(b:SH):Prop:=yP 1 3 5 7 a λc d e f=>W.loop (pM Q) [c,d,e,f,(.W6 0)] b
def DE(e:Kn)(a:SH)(b f c d:AV):Prop:=wb .eql 3 f (.W6 3) λg=>wk g (bY 2 c a λh=>aA 2 d a λi=>wc (.fn 102 []) [h,b,i,(.W6 2),(.W6 2)] a λj k=>e [b,c,d,j] k) (e [b,c,d,(.W6 0)] a)
def ss(g c h:AV)(L:SH)(Q:R):Prop:=W.box g L λi j=>W.box h j λk l=>W.frz1 i l λd m=>W.frz1 k m λb a=>W.join (jt Q) λe=>aA 0 b a λf=>wb .eql 3 f (.W6 2) λn=>wk n (bY 2 d a λo=>aA 2 b a λp=>wc (.fn 102 []) [o,c,p,(.W6 8),(.W6 1)] a λq r=>e [c,d,b,q] r) ((DE e a c f d b))
theorem DF(t0 t1 t2:AV)(L:SH)(Q:R)(h:ss t0 t1 t2 L Q):af Tryz.prog 127 [t0,t1,t2] L Q:=
 fs [(6,[1,3,5,7])] [(8,[1,3,5,7,8])] [(0,[3,5])] [(10,[0,0,0,4,0,28,60,127,255])] Tryz.func127 h
def E6(Q:R)(d e f c:AV)(g:SH):Prop:=W.ext 0 c λh=>W.ext 1 c λi=>wb .gtr 3 h (.W6 24) λb=>bD b false i g λj k=>wg b false (wb .gtr 3 j (.W6 6)) k λl a=>W.pick b (.bool true) l λm=>wk m (Q (.W6 2) a) (bY 2 e a λn=>bY 4 f a λo=>wc (.fn 127 []) [n,d,o] a λp q=>Q p q)
def E7(Q:R)(c b d e:AV)(a:SH):Prop:=W.un .not e λf=>wk f (Q (.W6 3) a) (bY 4 b a λg=>wc (.fn 126 []) [g] a (E6 Q c d b))
def xD(c d e:AV)(L:SH)(Q:R):Prop:=W.box c L λf g=>W.box e g λh i=>W.frz1 f i λj k=>W.frz1 h k λa b=>bY 4 a b λl=>wc (.fn 123 []) [l] b (E7 Q d a j)
theorem E8(t0 t1 t2:AV)(L:SH)(Q:R)(h:xD t0 t1 t2 L Q):af Tryz.prog 103 [t0,t1,t2] L Q:=
 fs [] [] [(0,[3,5])] [] Tryz.func103 h
def nF(a:AV)(L:SH)(Q:R):Prop:=wk a (Q (.W6 7) L) (Q (.W6 0) L)
theorem zU(t0:AV)(L:SH)(Q:R)(h:nF t0 L Q):af Tryz.prog 104 [t0] L Q:=
 fs [] [] [] [] Tryz.func104 h
def DG(a b:AV)(L:SH)(Q:R):Prop:=wb .neq 59 a (.W6 0) λc=>wk c (Q a L) (Q b L)
theorem ID(t0 t1:AV)(L:SH)(Q:R)(h:DG t0 t1 L Q):af Tryz.prog 101 [t0,t1] L Q:=
 fs [] [] [] [] Tryz.func101 h
def DH(a:Kn)(b:SH)(c d e f:AV)(g:SH)(h:Ns):Prop:=wn [] h [] b.names λk=>wb .add 3 c f λi=>wb .add 3 d (.W6 1) λj=>a [e,i,j] g
def DI(g:Kn)(h:SH)(i b c:AV)(d e:Fp)(j:AV)(a:SH)(k:Ns):Prop:=wn [] k [] h.names λf=>wb .add 3 i j λl=>di [rc 6 f,rm 5 d,rm 3 e] 10 11 b c a λm o=>aL 10 m [rc 6 f,rm 5 d,rm 3 e] 12 a λn p=>wd [] 13 (.fn 40 []) [n] a (DH g a l c b)
def pN(Q:R)(e:Vs)(a:SH)(f:Kn):Prop:=sg 0 3 4 e λb d c=>W.len b λg=>wb .lss 3 c g λh=>wk h ((true=true)∧(di [] 3 11 b c a λi j=>aL 9 i [] 5 a λk l=>wd [] 6 (.fn 40 []) [k] a (DI f a d b c l j))) (Q d a)
def su(a:AV)(L:SH)(Q:R):Prop:=W.len a λb=>W.loop (pN Q) [a,b,(.W6 0)] L
theorem DJ(t0:AV)(L:SH)(Q:R)(h:su t0 L Q):af Tryz.prog 40 [t0] L Q:=
 fs [] [(3,[0,3,4])] [] [(5,[0,0,0,6,14,30,62,127,0,0,768,1792,3840,8062,16383,32767])] Tryz.func40 h
end
section
set_option maxRecDepth 100000
def fW(c:Int):Bool:=(decide (97≤c)&&decide (c≤122))||(decide (65≤c)&&decide (c≤90))
def zV(c:Int):Bool:=decide (48≤c)&&decide (c≤57)
def gK(c:Int):Bool:=fW c||zV c||decide (c=95)
theorem FW(c:Int):az Tryz.prog 96 [.int .u8 c] (.bool (fW c)):=by
 refine nA _ _ _ ?_;unfold jm
 repeat' (first|refine st ?_|refine sb λnb_ hnb_=>?_|refine s2 (λh=>?_) λh=>?_|fail)
 all_goals (refine⟨?_,rfl⟩;simp_all[fW]<;>omega)
theorem N6(c:Int):az Tryz.prog 122 [.int .u8 c] (.bool (zV c)):=by
 refine pD _ _ _ ?_;unfold lh
 repeat' (first|refine st ?_|refine sb λnb_ hnb_=>?_|refine s2 (λh=>?_) λh=>?_|fail)
 all_goals (refine⟨?_,rfl⟩;simp_all[zV]<;>omega)
theorem N7(c:Int):az Tryz.prog 98 [.int .u8 c] (.bool (gK c)):=by
 refine pE _ _ _ ?_;unfold lj
 repeat' (first|refine st ?_|(refine pf 96 ?_;refine pm (FW _) ?_)|(refine pf 122 ?_;refine pm (N6 _) ?_)|refine sb λnb_ hnb_=>?_|refine s2 (λh=>?_) λh=>?_|fail)
 all_goals (refine⟨?_,rfl⟩;simp_all[gK]<;>omega)
def nG:List aZ:=[[118,97,114],[118,111,108,97,116,105,108,101],[109,117,116,101,120],[114,119,108,111,99,107],[99,111,110,100],[102,117,116,117,114,101],[116,104,114,101,97,100],[105,102],[101,108,115,101],[119,104,105,108,101],[108,111,99,107],[114,101,97,100],[119,114,105,116,101],[116,114,97,110,115,97,99,116,105,111,110],[97,116,111,109,105,99],[119,97,105,116],[110,111,116,105,102,121],[110,111,116,105,102,121,97,108,108],[115,112,97,119,110],[106,111,105,110],[115,101,116],[103,101,116]]
theorem PM:az Tryz.prog 121 [] (.lst (nG.map au)):=by
 refine af.fz (kj _ _ ?_);unfold gJ
 repeat' (first|refine st ?_|refine sb λnb_ hnb_=>?_|refine s2 (λh=>?_) λh=>?_|fail)
 exact⟨_,[],aG.all (Fz.sls (l:=nG) (f:=au) rp rfl W5 rfl),rfl,rfl⟩
def GQ(s:aZ):Bool:=nG.any λx=>decide (x=s)
theorem R8(s:aZ):az Tryz.prog 97 [.str s] (.bool (GQ s)):=by
 refine jo _ _ _ ?_;unfold fU
 repeat' (first|refine st ?_|(refine pf 121 ?_;refine pm (PM) ?_)|refine sb λnb_ hnb_=>?_|refine s2 (λh=>?_) λh=>?_|fail)
 refine ez nG (λx=>decide (x=s)) (λi=>[.str s,.lst (nG.map au),.W6 i]) W5 rfl (λi h1 hd hi hno nx hn=>?_) (λi h1 hd hno nx=>?_)
 all_goals unfold fy
 ·have hx:=aw (f:=au) h1
  repeat' (first|refine st ?_|refine sb λnb_ hnb_=>?_|refine s2 (λh=>?_) λh=>?_|fail)
  ·exact⟨by rw[GQ,K6 h1 h],rfl⟩
  ·exact hn h
 ·repeat' (first|refine st ?_|refine sb λnb_ hnb_=>?_|refine s2 (λh=>?_) λh=>?_|fail)
  exact⟨by rw[GQ,Nw hno],rfl⟩
def eb(s:aZ):Bool:=decide (1≤(s.length:Int))&&decide ((s.length:Int)≤12)&&fW (s.getD 0 0).toNat&&!GQ s&&s.all λc=>gK c.toNat
theorem L6(s:aZ)(hs:s.length<2^62):az Tryz.prog 60 [.str s] (.bool (eb s)):=by
 refine ip _ _ _ ?_;unfold fV;generalize hQ:(λ(u:AV) (K:SH)=>u=AV.bool (eb s)∧K=[])=Q;have hq:Q (.bool (eb s)) []:=by subst hQ;exact⟨rfl,rfl⟩
 clear hQ;by_cases h0:0<s.length
 ·have d1:decide ((s.length:Int)<1)=false:=by simpa using(by omega:(1:Int)≤s.length)
  repeat' (first|refine st ?_|refine K7 (i:=0) ?_ h0|(refine pf 96 ?_;refine pm (FW _) ?_)|(refine pf 97 ?_;refine pm (R8 _) ?_)|refine sb λnb_ hnb_=>?_|refine s2 (λh=>?_) λh=>?_|fail)
  all_goals first
   |(refine Eq.mp (congrArg (λb=>Q (AV.bool b) []) ?_) hq;simp_all[eb]<;>omega;done)
   |skip
  refine ez s (λc=>!gK c.toNat) (λi=>[.str s,.W6 i]) hs rfl (λi h1 hd hi hno nx hn=>?_) (λi h1 hd hno nx=>?_)
  all_goals unfold io
  ·repeat' (first|refine st ?_|refine K7 ?_|(refine pf 98 ?_;refine pm (N7 _) ?_)|refine sb λnb_ hnb_=>?_|refine s2 (λh=>?_) λh=>?_|fail)
   ·refine Eq.mp (congrArg (λb=>Q (AV.bool b) []) ?_) hq;have:(s.all λc=>gK c.toNat)=false:=Nx h1 (by simpa[List.getD,h1]using h);simp[eb,this]
   ·exact hn (by simpa[List.getD,h1]using h)
  ·repeat' (first|refine st ?_|refine sb λnb_ hnb_=>?_|refine s2 (λh=>?_) λh=>?_|fail)
   refine Eq.mp (congrArg (λb=>Q (AV.bool b) []) ?_) hq;have:(s.all λc=>gK c.toNat)=true:=VB.2 λx hx=>by simpa using hno x hx
   simp_all[eb]<;>omega
 ·have d1:decide ((s.length:Int)<1)=true:=by simpa using(by omega:(s.length:Int)<1)
  repeat' (first|refine st ?_|refine sb λnb_ hnb_=>?_|refine s2 (λh=>?_) λh=>?_|fail)
  refine Eq.mp (congrArg (λb=>Q (AV.bool b) []) ?_) hq;simp_all[eb]
end
structure DK(c:aY)(l:List aY):Prop where
 lo:1≤c.size
 hi:c.size≤4
 fits:c.size≤l.length
 eq:∀k:Nat,(k:Int)<c.size→l[k]? =some ⟨c.name,k,c.size,false,c.init⟩
inductive dF:List aY→List aZ→Prop where
 |nil:dF [] []
 |one (c:aY) (l:List aY) (ns:List aZ):c.size=0→c.index=0→dF l ns→dF (c::l) (c.name::ns)
 |arr (c:aY) (l:List aY) (ns:List aZ):c.size≠0→DK c (c::l)→dF (l.drop (c.size.toNat-1)) ns→dF (c::l) (c.name::ns)
theorem dF.nil_iff{ns:List aZ}:dF [] ns↔ns=[]:=⟨λh=>by cases h;rfl,λh=>by subst h;exact .nil⟩
theorem dF.one_iff{c:aY}{l:List aY}{ns:List aZ}(h0:c.size=0):dF (c::l) ns↔c.index=0∧∃n2,ns=c.name::n2∧dF l n2:=by
 constructor
 ·intro h;cases h with
  |one _ _ n2 _ h2 h3=>exact⟨h2,n2,rfl,h3⟩
  |arr _ _ n2 h1=>exact absurd h0 h1
 ·rintro⟨h2,n2,rfl,h3⟩;exact .one _ _ _ h0 h2 h3
theorem dF.arr_iff{c:aY}{l:List aY}{ns:List aZ}(h0:c.size≠0):dF (c::l) ns↔DK c (c::l)∧∃n2,ns=c.name::n2∧dF (l.drop (c.size.toNat-1)) n2:=by
 constructor
 ·intro h;cases h with
  |one _ _ n2 h1=>exact absurd h1 h0
  |arr _ _ n2 _ h2 h3=>exact⟨h2,n2,rfl,h3⟩
 ·rintro⟨h2,n2,rfl,h3⟩;exact .arr _ _ _ h0 h2 h3
def gu(l:List aY)(i:Nat)(acc:List aZ):Prop:=i≤l.length∧acc.length≤i∧∀ns,dF l ns↔∃n2,ns=acc++n2∧dF (l.drop i) n2
theorem gu.zero(l:List aY):gu l 0 []:=⟨VX _,Vl _,λns=>by simp⟩
theorem gu.step{l:List aY}{i:Nat}{acc:List aZ}(h:gu l i acc)(hi:i<l.length)(h0:l[i].size=0)(h1:l[i].index=0):gu l (i+1) (acc++[l[i].name]):=by
 refine⟨hi,by have:=h.2.1;simp;omega,λns=>?_⟩;rw[h.2.2 ns,WB hi];constructor
 ·rintro⟨n2,rfl,h2⟩;obtain⟨_,n3,rfl,h3⟩:=(dF.one_iff h0).1 h2;exact⟨n3,W4,h3⟩
 ·rintro⟨n3,rfl,h3⟩;exact⟨l[i].name::n3,W4,(dF.one_iff h0).2 ⟨h1,n3,rfl,h3⟩⟩
theorem gu.jump{l:List aY}{i:Nat}{acc:List aZ}(h:gu l i acc)(hi:i<l.length)(h0:l[i].size≠0)(hb:DK l[i] (l.drop i)):gu l (i+l[i].size.toNat) (acc++[l[i].name]):=by
 have hl:=hb.lo;have hf:=hb.fits;rw[WN]at hf;refine⟨W1,by have:=h.2.1;simp;omega,λns=>?_⟩;rw[h.2.2 ns];rw[WB hi]at hb ⊢;have e:(l.drop (i+1)).drop (l[i].size.toNat-1)=l.drop (i+l[i].size.toNat):=by rw[List.drop_drop];congr 1;omega
 constructor
 ·rintro⟨n2,rfl,h2⟩;obtain⟨_,n3,rfl,h3⟩:=(dF.arr_iff h0).1 h2;exact⟨n3,W4,e▸h3⟩
 ·rintro⟨n3,rfl,h3⟩;exact⟨l[i].name::n3,W4,(dF.arr_iff h0).2 ⟨hb,n3,rfl,e▸h3⟩⟩
theorem gu.done{l:List aY}{i:Nat}{acc:List aZ}(h:gu l i acc)(hi:l.length≤i):dF l acc:=by rw[h.2.2 acc,List.drop_eq_nil_of_le hi];exact⟨[],W4,.nil⟩
theorem gu.no1{l:List aY}{i:Nat}{acc:List aZ}(h:gu l i acc)(hi:i<l.length)(h0:l[i].size=0)(h1:l[i].index≠0):∀ns,¬dF l ns:=λns hn=>by rw[h.2.2 ns,WB hi]at hn;obtain⟨n2,_,h2⟩:=hn;exact h1 ((dF.one_iff h0).1 h2).1
theorem gu.no2{l:List aY}{i:Nat}{acc:List aZ}(h:gu l i acc)(hi:i<l.length)(h0:l[i].size≠0)(hb:¬DK l[i] (l.drop i)):∀ns,¬dF l ns:=λns hn=>by rw[h.2.2 ns]at hn;rw[WB hi]at hn hb;obtain⟨n2,_,h2⟩:=hn;exact hb ((dF.arr_iff h0).1 h2).1
theorem dF.uniq{l:List aY}{a b:List aZ}(h:dF l a):dF l b→a=b:=by
 induction h generalizing b with
 |nil=>intro h2;rw[dF.nil_iff.1 h2]
 |one c l ns h0 h1 _ ih=>intro h2;obtain⟨_,n2,rfl,h3⟩:=(dF.one_iff h0).1 h2;rw[ih h3]
 |arr c l ns h0 h1 _ ih=>intro h2;obtain⟨_,n2,rfl,h3⟩:=(dF.arr_iff h0).1 h2;rw[ih h3]
theorem dF.len{l:List aY}{a:List aZ}(h:dF l a):a.length≤l.length:=by
 induction h with
 |nil=>exact Vl _
 |one c l ns h0 h1 _ ih=>simpa using ih
 |arr c l ns h0 h1 _ ih=>rw[WN]at ih;simp only[VI];omega
def nH(w:aM)(ns:List aZ):List aZ:=ns++w.locks.map bZ.name++w.conds.map cS.name++w.futures++w.threads
def E9(n:Nat):Int→Int→List cI→Prop
 |_,_,[]=>True
 |t,x,s::l=>t≤s.thread∧s.thread<n∧s.stmt=(if t<s.thread then 0 else x)∧E9 n s.thread (s.stmt+1) l
structure IE(w:aM):Prop where
 c12:w.cells.length≤12
 l4:w.locks.length≤4
 d2:w.conds.length≤2
 f2:w.futures.length≤2
 s60:w.sites.length≤60
 t1:1≤w.threads.length
 t4:w.threads.length≤4
 names:∃ns,dF w.cells ns∧(∀s∈nH w ns,eb s=true)∧(nH w ns).Nodup
 mtx:∀c∈w.conds,Ik w c.mutex false=true
 sites:E9 w.threads.length 0 0 w.sites
section
set_option maxRecDepth 100000
set_option maxHeartbeats 1000000
theorem DL{α:Type}(S:α→List AV×SH)(m:α→Nat)(G:α→Prop){B:List AV→SH→W.Kn→Prop}{vs:List AV}{L:SH}(a0:α)(h0:G a0)(hz:aG vs L (S a0).1 (S a0).2)
  (h:∀a,G a→∀nx:W.Kn,(∀a',G a'→m a'<m a→∀vs' L',aG vs' L' (S a').1 (S a').2→nx vs' L')→B (S a).1 (S a).2 nx):W.loop B vs L:=by
 refine⟨λn vs L=>∃a,G a∧m a=n∧vs=(S a).1∧L=(S a).2,⟨m a0,_,_,hz,a0,h0,rfl,rfl,rfl⟩,?_⟩;rintro n vs L ⟨a,ha,rfl,rfl,rfl⟩;exact h a ha _ λa' g1 g2 vs' L' g3=>⟨m a',_,_,g2,g3,a',g1,rfl,rfl,rfl⟩
theorem PN{K:AV→Prop}(x y:aY)(h:K (.bool (mU (x≠y)))):W.bin Tryz.prog Fl .neq 58 (.agg x.enc) (.agg y.enc) K:=by
 rw[eV];refine⟨.bool (mU (x≠y)),?_,h⟩;have hF:Fl 58=some [9,3,3,4,2]:=by kernel_rfl
 have hi:Tryz.prog.underlying 3=some (.int .i64):=by kernel_rfl
 have hj:Tryz.prog.underlying 2=some (.int .i64):=by kernel_rfl
 have hb:Tryz.prog.underlying 4=some .bool:=by kernel_rfl
 have hs:Tryz.prog.underlying 9=some .string:=by kernel_rfl
 obtain⟨a1,a2,a3,a4,a5⟩:=x;obtain⟨b1,b2,b3,b4,b5⟩:=y;have he:mU ((⟨a1,a2,a3,a4,a5⟩:aY)≠⟨b1,b2,b3,b4,b5⟩)=!(decide (a1=b1)&&decide (a2=b2)&&decide (a3=b3)&&decide (a4=b4)&&decide (a5=b5)):=by
  cases hd:(decide (a1=b1)&&decide (a2=b2)&&decide (a3=b3)&&decide (a4=b4)&&decide (a5=b5))with
  |true=>exact jk λhh=>hh (by simpa[and_assoc]using hd)
  |false=>
   refine kh λhh=>?_
   rw[aY.mk.injEq]at hh;obtain⟨h1,h2,h3,h4,h5⟩:=hh;simp[h1,h2,h3,h4,h5]at hd
 rw[he];simp only[gS,aY.enc,hF,Wa,F8,AN,hi,hj,hb,hs,if_true];by_cases h1:a1=b1<;>by_cases h2:a2=b2<;>by_cases h3:a3=b3<;>by_cases h4:a4=b4<;>by_cases h5:a5=b5<;>simp[h1,h2,h3,h4,h5]
theorem L7{K:AV→Prop}(x y:aY)(h:K (.bool (mU (x≠y)))):wb .neq 58 (.agg x.enc) (.agg y.enc) K:=lH (PN x y h)
section
variable {l:List aY} {Q:R} {nm:aZ} {sz ini:Int} {i nb bs bw:Nat} {n1:W.Kn} (hl:l.length≤12) (h1:1≤sz) (h4:sz≤4) (hf:sz≤(l.length-i:Nat))
 (hno:¬DK ⟨nm,0,sz,false,ini⟩ (l.drop i)→∀L,Q (.tup [.nils,.bool false]) L) (x:AV) (X Y:Blk)
 (hgo:DK ⟨nm,0,sz,false,ini⟩ (l.drop i)→∀ix,n1 [.lst (l.map aY.enc),x,.W6 ((i+sz.toNat:Nat):Int)] [(nb,X),(bs,Y),(bw,⟨5,[[.str nm,.W6 ix,.W6 sz,.bool false,.W6 ini]]⟩)])
include hl h1 h4 hf hno hgo
theorem T7(ix:Int):W.loop (dR Q n1) [.lst (l.map aY.enc),x,.W6 (i:Int),.ptr bw 0 0,.W6 sz,.W6 0] [(nb,X),(bs,Y),(bw,⟨5,[[.str nm,.W6 ix,.W6 sz,.bool false,.W6 ini]]⟩)]:=by
 obtain⟨m,rfl⟩:=Int.eq_ofNat_of_zero_le (show 0≤sz by omega);refine DL (α:=Nat×Int) (λa=>([.lst (l.map aY.enc),x,.W6 (i:Int),.ptr bw 0 0,.W6 (m:Int),.W6 (a.1:Int)],[(nb,X),(bs,Y),(bw,⟨5,[[.str nm,.W6 a.2,.W6 (m:Int),.bool false,.W6 ini]]⟩)])) (λa=>m-a.1) (λa=>a.1≤m∧∀j,j<a.1→l[i+j]? =some ⟨nm,j,m,false,ini⟩) (0,ix) ⟨Nat.zero_le _,λj h=>absurd h (Nat.not_lt_zero _)⟩ (.refl _ _) ?_;rintro⟨k,y⟩ ⟨hk,hG⟩ nx hnx;unfold dR;dsimp only at *;rcases Nat.lt_or_ge k m with h|h
 ·have d1:decide ((k:Int)<(m:Int))=true:=bI h;have hw1:IntKind.i64.wrap ((k:Int)+1)=((k+1:Nat):Int):=aD h W1;have hw2:IntKind.i64.wrap ((i:Int)+(k:Int))=((i+k:Nat):Int):=by rw[V9 _ W1];omega
  have hik:i+k<l.length:=by omega
  have hx:=aw (f:=aY.enc) hik;have hxe:l[i+k]? =some l[i+k]:=Vk hik;generalize l[i+k]=c at hx hxe;have hne:mU (c≠⟨nm,k,m,false,ini⟩)=true→∀L,Q (.tup [.nils,.bool false]) L:=λhd=>hno λhb=>by have h2:=hb.eq k (by show(k:Int)<(m:Int);omega);rw[Wc,hxe]at h2;cases h2;exact ki.1 hd rfl
  have hye:mU (c≠⟨nm,k,m,false,ini⟩)=false→∀j,j<k+1→l[i+j]? =some ⟨nm,j,m,false,ini⟩:=λhd j hj=>by
   rcases Vp j k with g|g
   ·exact hG j g
   ·have e:j=k:=by omega
    subst e;rw[hxe];by_cases hc:c=⟨nm,j,m,false,ini⟩
    ·rw[hc]
    ·rw[kh hc]at hd;cases hd
  repeat' (first|refine st ?_|refine L7 c ⟨nm,k,m,false,ini⟩ ?_|refine sb λnb_ hnb_=>?_|refine s2 (λh=>?_) λh=>?_|fail)
  ·exact hne W2 _
  ·exact hnx (k+1,k) ⟨by dsimp only;omega,hye W2⟩ (by dsimp only;omega) _ _ (.refl _ _)
 ·have d1:decide ((k:Int)<(m:Int))=false:=bO h;have hw2:IntKind.i64.wrap ((i:Int)+(m:Int))=((i+m:Nat):Int):=by rw[V9 _ W1];omega
  obtain rfl:k=m:=by omega
  repeat' (first|refine st ?_|refine sb λnb_ hnb_=>?_|refine s2 (λh=>?_) λh=>?_|fail)
  exact hgo ⟨h1,h4,by rw[WN];omega,λj hj=>by rw[Wc];exact hG j (by simpa using hj)⟩ y
end
theorem sw (l : List aY) (hl : l.length ≤ 12) {Q : R} (hy : ∀ ns L v, dF l ns → Fz L v (.lst (ns.map au)) → Q (.tup [v, .bool true]) L) (hn : (∀ ns, ¬ dF l ns) → ∀ L, Q (.tup [.nils, .bool false]) L) :
    eD (.lst (l.map aY.enc)) [] Q:=by
  unfold eD;refine DL (α:=Nat×List aZ×Option Nat) (λa=>([.lst (l.map aY.enc),am a.2.2 a.2.1.length,.W6 (a.1:Int)],ae a.2.2 1 (a.2.1.map au))) (λa=>l.length-a.1) (λa=>gu l a.1 a.2.1∧(a.2.2=none→a.2.1=[])) (0,[],none) ⟨.zero l,λ_=>rfl⟩ (aG.drop (K:=[]) (.refl _) rfl ((i9.cons (.refl _) (.cons .nile (.cons (.refl _) .nil))).at_.2)) ?_;rintro⟨i,acc,o⟩ ⟨hV,ho⟩ nx hnx;unfold gq;dsimp only at *;have hva:=hV.2.1;rcases Nat.lt_or_ge i l.length with h|h
  · have hx:=aw (f:=aY.enc) h
    have d1:decide ((i:Int)<(l.length:Int))=true:=bI h;have hw1:IntKind.i64.wrap ((i:Int)+1)=((i+1:Nat):Int):=aD h W1;have hw2:IntKind.i64.wrap ((l.length:Int)-(i:Int))=((l.length-i:Nat):Int):=by rw[V9 _ W1];omega
    have hs0:l[i].size=0→l[i].index≠0→∀ns,¬dF l ns:=hV.no1 h;have hs1:l[i].size=0→l[i].index=0→gu l (i+1) (acc++[l[i].name]):=hV.step h;have hs2:l[i].size≠0→¬DK l[i] (l.drop i)→∀ns,¬dF l ns:=hV.no2 h;have hs3:l[i].size≠0→DK l[i] (l.drop i)→gu l (i+l[i].size.toNat) (acc++[l[i].name]):=hV.jump h;have hgo:∀j nb_ L',gu l j (acc++[l[i].name])→i<j→gD L' [(nb_,⟨1,acc.map au++[[.str l[i].name]]⟩)]→nx [.lst (l.map aY.enc),.sl nb_ 0 (acc.length+1),.W6 (j:Int)] L':=λj nb_ L' h1 h2 h3=>
      hnx (j,acc++[l[i].name],some nb_) ⟨h1,nofun⟩ (by have:=h1.1;dsimp only;omega) _ _ (aG.pickE h3 (by simp[am]) (by simp[ae,au]))
    have hxe:(l.drop i)[0]? =some l[i]:=by rw[Wc];exact Vk h
    clear hnx hV;generalize l[i]=c at *;obtain⟨nm,ix,sz,vo,ini⟩:=c;unfold aY.enc at hx;dsimp only at *;have hbe:DK ⟨nm,ix,sz,vo,ini⟩ (l.drop i)→1≤sz∧sz≤4∧vo=false∧sz≤(l.length-i:Nat):=λhb=>by have h1:=hb.lo;have h2:=hb.eq 0 (by show(0:Int)<sz;have:=hb.lo;dsimp only at this;omega);rw[hxe]at h2;cases h2;exact⟨h1,hb.hi,rfl,by have:=hb.fits;rw[List.length_drop]at this;exact this⟩
    have hbq:DK ⟨nm,0,sz,false,ini⟩ (l.drop i)→DK ⟨nm,ix,sz,vo,ini⟩ (l.drop i):=λhb=>by have h2:=hb.eq 0 (by show(0:Int)<sz;have:=hb.lo;dsimp only at this;omega);rw[hxe]at h2;cases h2;exact hb
    repeat' (first|refine st ?_|refine cx mm rp W4 (λe=>by simp[ho e]) W3 W4 (by simp;omega) (by simp;omega) W3 (λnb_ hnb_=>?_)|refine sb λnb_ hnb_=>?_|refine s2 (λh=>?_) λh=>?_|fail)
    all_goals first
      |exact hn (hs0 (of_decide_eq_true W2) (of_decide_eq_true W2)) _
      |(refine hgo (i+1) _ _ (hs1 (of_decide_eq_true W2) ?_) (Nat.lt_succ_self _) rp;clear hgo hn hy hs0 hs1 hs2 hs3 hbe hbq;simp only[ne_eq,decide_eq_false_iff_not,Decidable.not_not]at *;assumption)
      | (refine hn (hs2 (of_decide_eq_false W2) fun hb => ?_) _
         have hb:=hbe hb;clear hgo hn hy hs0 hs1 hs2 hs3 hbe hbq
         (simp only[decide_eq_true_eq,decide_eq_false_iff_not]at *;simp_all<;>omega))
      |skip
    rename_i h1 h2 h3 h4;subst h4;simp only[decide_eq_false_iff_not]at h h1 h2 h3;refine T7 hl W1 W1 W1 (λhb=>hn (hs2 W1 λhc=>hb ?_)) _ _ _ (λhb y=>hgo _ _ _ (hs3 W1 (hbq hb)) (by have:=hb.lo;dsimp only at this;omega) rp) ix;have h5:=hc.eq 0 (by show(0:Int)<sz;omega);rw[hxe]at h5;cases h5;exact hc
  · have d1:decide ((i:Int)<(l.length:Int))=false:=bO h
    repeat' (first|refine st ?_|refine sb λnb_ hnb_=>?_|refine s2 (λh=>?_) λh=>?_|fail)
    exact hy acc _ _ (hV.done h) (Fz.slot rfl (λe=>by simp[ho e]) W5 (λ_ _=>rfl) λ_ _ q a a2 h1 h2=>by rw[h1]at h2;cases h2;exact .refl _)
end
section
set_option maxRecDepth 100000
def ov(e:Kn)(a:SH)(b c f g h:AV):Prop:=lG 2 b c a λi=>qr [(.str []),(.bool false)] 2 i a λj d=>aA 0 j d λk=>W.bslice 1 [(.str [])] 1 [(0,k)] d λl m=>W.append 1 16 f l m λn o=>wb .add 3 c (.W6 1) λp=>e [g,n,b,h,p] o
def oz(e:Kn)(a:SH)(b c f g h:AV):Prop:=lG 2 b c a λi=>qr [(.str []),(.W6 0)] 2 i a λj d=>aA 0 j d λk=>W.bslice 1 [(.str [])] 1 [(0,k)] d λl m=>W.append 1 16 f l m λn o=>wb .add 3 c (.W6 1) λp=>e [g,n,b,h,p] o
def oA(Q:R)(f:Kn)(b c g h i j:AV)(k:SH):Prop:=W.un .not j λa=>bD a false b k λl m=>bD a false c m λn d=>wg a false (W.look (.bool false) false l n d) d λo e=>W.pick a (.bool true) o λp=>wk p (Q (.bool false) e) (W.mup b c (.bool true) e λq=>wb .add 3 g (.W6 1) λr=>f [b,h,i,r] q)
def dS(Q:R)(f:Vs)(a:SH)(g:Kn):Prop:=yP 10 51 52 53 f λh c d b=>wb .lss 3 b d λi=>wk i (wv 1 c b a λe=>wc (.fn 76 []) [e] a (oA Q g h e b c d)) (Q (.bool true) a)
def oC(Q:R)(a:SH)(b e:AV):Prop:=aA 3 b a λf=>W.append 1 16 e f a λg c=>aA 4 b c λh=>W.append 1 16 g h c λd i=>W.mkmap i λj k=>W.len d λl=>W.loop (dS Q) [j,d,l,(.W6 0)] k
def dT(Q:R)(f:Vs)(a:SH)(g:Kn):Prop:=Hl 2 5 30 31 32 f λb c h d e=>wb .lss 3 e d λi=>wk i ((oz g a h e c b d)) ((oC Q a b c))
def dU(Q:R)(g:Vs)(a:SH)(h:Kn):Prop:=Hl 2 5 17 18 19 g λb c i d e=>wb .lss 3 e d λj=>wk j ((ov h a i e c b d)) (aA 2 b a λf=>W.len f λk=>W.loop (dT Q) [b,c,f,k,(.W6 0)] a)
def eE(d e:AV)(L:SH)(Q:R):Prop:=sf d L λa f=>W.append 1 16 .nils e f λg b=>aA 1 a b λc=>W.len c λh=>W.loop (dU Q) [a,g,c,h,(.W6 0)] b
theorem oD(t0 t1:AV)(L:SH)(Q:R)(h:eE t0 t1 L Q):af Tryz.prog 47 [t0,t1] L Q:=
 fs [] [(4,[2,5,17,18,19]),(9,[2,5,30,31,32]),(17,[10,51,52,53])] [(0,[2]),(5,[7]),(10,[9])] [] Tryz.func47 h
def B8(Q:R)(f:Kn)(g:SH)(h c i:AV):Prop:=wb .gtr 3 h (.W6 0) λa=>bD a true c g λj k=>wg a true (wb .eql 21 j (.int .i32 95)) k λl m=>bD a true l m λb n=>bD b false c n λo p=>wg b false (wb .leq 21 (.int .i32 48) o) p λq r=>bD b false q r λd s=>bD d true c s λt u=>wg d true (wb .leq 21 t (.int .i32 57)) u λv w=>wg b false (W.pick d v (.bool false)) w λx y=>wg a true (W.pick b (.bool true) x) y λz e=>W.pick a z (.bool false) λA=>wk A (f [i] e) (Q (.bool false) e)
def B9(Q:R)(e:Kn)(i:SH)(f g:AV):Prop:=W.ext 1 f λj=>W.ext 2 f λa=>wb .leq 21 (.int .i32 97) a λc=>bD c true a i λk l=>wg c true (wb .leq 21 k (.int .i32 122)) l λm n=>W.pick c m (.bool false) λb=>bD b false a n λo p=>wg b false (wb .leq 21 (.int .i32 65) o) p λq r=>bD b false q r λd s=>bD d true a s λt u=>wg d true (wb .leq 21 t (.int .i32 90)) u λv w=>wg b false (W.pick d v (.bool false)) w λx h=>W.pick b (.bool true) x λy=>wk y (e [g] h) ((B8 Q e h j a g))
def nI(Q:R)(d:Vs)(e:SH)(f:Kn):Prop:=U2 18 d λa=>W.nxt a e λb c=>W.ext 0 b λg=>wk g ((B9 Q f c b a)) (Q (.bool true) c)
def pO(a:AV)(L:SH)(Q:R):Prop:=W.lenS a λf=>wb .lss 3 f (.W6 1) λb=>bD b false a L λg h=>wg b false (W.lenS g) h λi j=>wg b false (wb .gtr 3 i (.W6 12)) j λk l=>W.pick b (.bool true) k λc=>bD c false a l λm d=>W.grd c false (λn=>wc (.fn 106 []) [m] d λo p=>n o p) d λq e=>W.pick c (.bool true) q λr=>wk r (Q (.bool false) e) (W.rngS a e λs t=>W.loop (nI Q) [s] t)
theorem Ca(t0:AV)(L:SH)(Q:R)(h:pO t0 L Q):af Tryz.prog 76 [t0] L Q:=
 fs [] [(4,[18])] [] [] Tryz.func76 h
def ju(Q:R)(e:Vs)(a:SH)(f:Kn):Prop:=sg 0 5 6 e λc d b=>wb .lss 3 b (.W6 22) λg=>wk g (W.ixA false 22 1 d b λh=>wb .eql 9 c h λi=>wk i (Q (.bool true) a) (wb .add 3 b (.W6 1) λj=>f [c,d,j] a)) (Q (.bool false) a)
def ko(a:AV)(L:SH)(Q:R):Prop:=bY 22 (O0 1) L λb=>W.loop (ju Q) [a,b,(.W6 0)] L
theorem sW(t0:AV)(L:SH)(Q:R)(h:ko t0 L Q):af Tryz.prog 106 [t0] L Q:=
 fs [] [(2,[0,5,6])] [] [] Tryz.func106 h
end
section
set_option maxRecDepth 100000
set_option maxHeartbeats 1000000
set_option linter.unusedSimpArgs false
theorem N8:O0 1=.pptr [nG.map .str] 0 0:=rfl
theorem R9{i:Nat}(h:i<nG.length):W0.rowLd false 1 (nG.map .str) ((i:Int).toNat*1)=some (.str nG[i]):=by unfold W0.rowLd;simp[h]
theorem QL(s:aZ):az Tryz.prog 106 [.str s] (.bool (GQ s)):=by
 refine sW _ _ _ ?_;unfold ko;rw[N8];have hk:GQ s=nG.any λx=>decide (s=x):=by simp only[GQ,eq_comm]
 repeat' (first|refine st ?_|refine sb λnb_ hnb_=>?_|refine s2 (λh=>?_) λh=>?_|fail)
 refine ez nG (λx=>decide (s=x)) (λi=>[.str s,.agg (nG.map .str),.W6 i]) W5 rfl (λi h1 hd hi hno nx hn=>?_) (λi h1 hd hno nx=>?_)
 all_goals unfold ju
 ·have hx:=R9 h1;have hd2:decide ((i:Int)<22)=true:=hd;have h22:(i:Int).toNat<22:=h1
  repeat' (first|refine st ?_|refine Tt (Int.natCast_nonneg _) h22 hx ?_|refine sb λnb_ hnb_=>?_|refine s2 (λh=>?_) λh=>?_|fail)
  ·exact⟨by rw[hk,K6 h1 h],rfl⟩
  ·exact hn h
 ·have hd2:decide ((i:Int)<22)=false:=hd
  repeat' (first|refine st ?_|refine sb λnb_ hnb_=>?_|refine s2 (λh=>?_) λh=>?_|fail)
  exact⟨by rw[hk,Nw hno],rfl⟩
theorem T8{s:aZ}{i:Nat}(h:i<s.length):(⟨s.toArray⟩:ByteArray).get! i=s[i]:=by show s.toArray[i]! =s[i];simp[h]
theorem T9{s:aZ}{i:Nat}(h:i<s.length):∃c wd,Utf8.decode ⟨s.toArray⟩ i=(c,wd)∧((c=s[i].toNat∧wd=1∧c<128)∨(128≤c∧128≤s[i].toNat)):=by
 refine⟨(Utf8.decode ⟨s.toArray⟩ i).1,(Utf8.decode ⟨s.toArray⟩ i).2,rfl,?_⟩;unfold Utf8.decode;simp only[WJ,T8 h];by_cases hb:s[i].toNat<128
 ·rw[if_pos hb];exact .inl ⟨rfl,rfl,hb⟩
 ·rw[if_neg hb];refine .inr ⟨?_,W1⟩;have h0:128≤Utf8.runeError:=by decide
  repeat' split
  all_goals first
   |exact h0
   |(simp only[ge_iff_le,VP,decide_eq_true_eq]at *;omega)
theorem Lj(s:aZ):az Tryz.prog 76 [.str s] (.bool (eb s)):=by
 refine af.fz (Ca _ _ _ ?_);unfold pO;generalize hQ:(λ(v:AV) (L:SH)=>∃v2 L2,aG [v] L [v2] L2∧v2=AV.bool (eb s)∧L2=[])=Q;have hq:∀b L,eb s=b→Q (.bool b) L:=λb L h=>by subst hQ;exact⟨_,[],aG.all (.refl _),by rw[h],rfl⟩
 clear hQ;by_cases h0:1≤s.length∧s.length≤12∧GQ s=false
 ·obtain⟨h1,h12,hk⟩:=h0;have hkk:=QL s;rw[hk]at hkk;have d1:decide ((s.length:Int)<1)=false:=decide_eq_false W1;have d2:decide ((s.length:Int) > 12)=false:=decide_eq_false W1;have hno:∀i (h:i<s.length),¬(gK s[i].toNat=true∧(i=0→fW s[i].toNat=true))→eb s=false:=λi h hb=>by
   cases hn:eb s with
   |false=>rfl
   |true=>exfalso;unfold eb at hn;simp only[VP,VB]at hn;refine hb ⟨hn.2 _ (VF h),λe=>?_⟩;subst e;have:=hn.1.1.2;simpa[List.getD,h]using this
  repeat' (first|refine st ?_|(refine pf 106 ?_;refine pm (hkk) ?_)|refine R3 (λnb_ hnb_=>?_)|refine sb λnb_ hnb_=>?_|refine s2 (λh=>?_) λh=>?_|fail)
  refine Dw (λi:Nat=>([.it nb_],[(nb_,⟨0,[[.str s,.W6 (i:Int)]]⟩)])) (λi=>s.length-i) (λi=>i≤s.length∧∀j (h:j<s.length),j<i→gK s[j].toNat=true∧(j=0→fW s[j].toNat=true)) 0 ⟨Nat.zero_le _,λj h h2=>absurd h2 (Nat.not_lt_zero _)⟩ rfl rfl (λi hG nx hn=>?_);obtain⟨hi,hG⟩:=hG;unfold nI;dsimp only;rcases Nat.lt_or_ge i s.length with h|h
  ·obtain⟨c,wd,hd,hc⟩:=T9 h;replace hno:=hno i h;have hgo:gK s[i].toNat=true∧(i=0→fW s[i].toNat=true)→nx [.it nb_] [(nb_,⟨0,[[.str s,.W6 ((i+1:Nat):Int)]]⟩)]:=λhb=>hn (i+1) ⟨h,λj hj hji=>by
    rcases Vp j i with g|g
    ·exact hG j hj g
    ·have e:j=i:=by omega
     subst e;exact hb⟩ W1
   clear hn hG
   repeat' (first|refine st ?_|refine sb λnb_ hnb_=>?_|refine s2 (λh=>?_) λh=>?_|fail)
   refine T5 (.head _) h (.here _) ?_;simp only[hd];clear hd;rcases hc with⟨rfl,rfl,hc⟩|⟨hc,hb⟩
   ·generalize s[i].toNat=x at *
    repeat' (first|refine st ?_|refine sb λnb_ hnb_=>?_|refine s2 (λh=>?_) λh=>?_|fail)
    all_goals first
     |(refine hgo ?_;clear hgo hno hq;simp only[gK,fW,zV,WS,VP,decide_eq_true_eq,decide_eq_false_iff_not]at *;omega)
     |(refine hq _ _ (hno ?_);clear hgo hno hq;simp only[gK,fW,zV,WS,VP,decide_eq_true_eq,decide_eq_false_iff_not]at *;omega)
   ·generalize s[i].toNat=x at *;have e1:decide ((c:Int)≤122)=false:=decide_eq_false W1;have e2:decide ((c:Int)≤90)=false:=decide_eq_false W1;have e3:decide ((c:Int)≤57)=false:=decide_eq_false W1;have e4:decide ((c:Int)=95)=false:=decide_eq_false W1
    repeat' (first|refine st ?_|refine sb λnb_ hnb_=>?_|refine s2 (λh=>?_) λh=>?_|fail)
    all_goals first
     |(refine hq _ _ (hno ?_);clear hgo hno hq;simp only[gK,fW,zV,WS,VP,decide_eq_true_eq,decide_eq_false_iff_not]at *;omega)
  ·repeat' (first|refine st ?_|refine sb λnb_ hnb_=>?_|refine s2 (λh=>?_) λh=>?_|fail)
   refine L4 (.head _) W1 ?_
   repeat' (first|refine st ?_|refine sb λnb_ hnb_=>?_|refine s2 (λh=>?_) λh=>?_|fail)
   refine hq _ _ ?_;unfold eb;have e1:(s.all λc=>gK c.toNat)=true:=VB.2 λx hx=>by obtain⟨j,hj,rfl⟩:=Wn hx;exact(hG j hj W1).1
   have e2:fW ((s.getD 0 0).toNat:Nat)=true:=by have:=(hG 0 W1 W1).2 rfl;simpa[List.getD,show 0<s.length by omega]using this
   rw[e1,e2,hk];simp;omega
 ·have hkk:=QL s;have hf:eb s=false:=by
   cases hn:eb s with
   |false=>rfl
   |true=>exfalso;refine h0 ?_;unfold eb at hn;simp only[VP,decide_eq_true_eq,Bool.not_eq_true']at hn;exact⟨W1,W1,hn.1.2⟩
  cases hk:GQ s with
  |true=>
   rw[hk]at hkk
   repeat' (first|refine st ?_|(refine pf 106 ?_;refine pm (hkk) ?_)|refine sb λnb_ hnb_=>?_|refine s2 (λh=>?_) λh=>?_|fail)
   all_goals exact hq _ _ hf
  |false=>
   rw[hk]at hkk
   repeat' (first|refine st ?_|(refine pf 106 ?_;refine pm (hkk) ?_)|refine sb λnb_ hnb_=>?_|refine s2 (λh=>?_) λh=>?_|fail)
   all_goals first
    |exact hq _ _ hf
    |(exfalso;refine h0 ⟨?_,?_,hk⟩<;>simp only[decide_eq_true_eq,decide_eq_false_iff_not]at * <;>omega)
end
section
set_option maxRecDepth 100000
set_option maxHeartbeats 1000000
def DM(A:List aZ):Prop:=(∀s∈A,eb s=true)∧A.Nodup
def lV(l:List aZ):List (List AV):=l.map λs=>[.str s,.bool true]
theorem JU(l:List aZ):(lV l).all vQ=true:=by
 induction l with
 |nil=>rfl
 |cons s l ih=>simp only[lV,Vm,List.all_cons]at *;rw[ih];rfl
theorem qo{s:aZ}:∀{l:List aZ} {k:Nat},(s∉l→gl s (lV l) k=none)∧(s∈l→∃j,gl s (lV l) k=some (j,.bool true))
 |[],k=>⟨λ_=>rfl,λh=>by simp at h⟩
 | x::l,k=>by
  have ih:=qo (s:=s) (l:=l) (k:=k+1);have e:gl s (lV (x::l)) k=if s==x then some (k,.bool true)else gl s (lV l) (k+1):=rfl
  rw[e];by_cases h:s=x
  ·subst h;exact⟨λh=>by simp at h,λ_=>⟨k,W4⟩⟩
  ·have:(s==x)=false:=by simpa using h
   rw[this];exact⟨λh2=>ih.1 (by simp at h2;exact h2.2),λh2=>ih.2 (by simpa[h]using h2)⟩
theorem PO{s:aZ}{l:List aZ}(h:s∉l):W0.found (.bool false) false (gl s (lV l) 0)=.bool false:=by rw[qo.1 h];rfl
theorem N9{s:aZ}{l:List aZ}(h:s∈l):W0.found (.bool false) false (gl s (lV l) 0)=.bool true:=by obtain⟨j,hj⟩:=(qo (k:=0)).2 h;rw[hj];rfl
theorem Oa{s:aZ}{l:List aZ}(h:s∉l):W0.putR s (.bool true) (lV l)=lV (l++[s]):=by unfold W0.putR;rw[qo.1 h];simp[lV]
theorem Lk{o:Option Nat}{k:Nat}{K:AV→Prop}(h:K (.W6 (k:Int)))(h0:o=none→k=0):W.len (am o k) K:=by
 cases o with
 |none=>rw[h0 rfl]at h;exact Gt h
 |some b=>exact Gq h
theorem Ob{α:Type}{f:α→List AV}{l:List α}{n by_:Nat}{L:SH}{KL:AV→SH→Prop}(hn:∀x,(f x).length=n)(h2:2*l.length*by_≤2^48)(h3:2*l.length≤2^62)(h4:∀x,(f x).all AV.one=true)
  (h:l=[]→KL .nils L) (h':∀b,b∉L.names→KL (.sl b 0 l.length) ((b,⟨n,l.map f⟩)::L)):W.append n by_ .nils (.lst (l.map f)) L KL:=by
 have h4':((l.map f).all λr=>r.all AV.one)=true:=by rw[VB];intro r hr;obtain⟨x,_,rfl⟩:=VY.1 hr;exact h4 x
 refine⟨[],l.map f,rfl,wq hn,by simpa using h2,by simpa using h3,h4',λe=>?_,λe b hb=>?_⟩
 ·exact h (by simpa using e)
 ·have:=h' b hb;simpa using this
theorem Ua{A:List aZ}(hA:A.length<2^40){Q:R}(hq:∀b L,mU (DM A)=b→Q (.bool b) L){vs:List AV}{L:SH}{bm:Nat}(hz:aG vs L [.mp bm,.lst (A.map au),.W6 A.length,.W6 0] [(bm,⟨0,[]⟩)]):W.loop (dS Q) vs L:=by
 refine DL (α:=Nat) (λi=>([.mp bm,.lst (A.map au),.W6 A.length,.W6 (i:Int)],[(bm,⟨0,lV (A.take i)⟩)])) (λi=>A.length-i) (λi=>i≤A.length∧DM (A.take i)) 0 ⟨Nat.zero_le _,by simp[DM]⟩ hz ?_;rintro i ⟨hi,hG⟩ nx hnx;unfold dS;dsimp only;rcases Nat.lt_or_ge i A.length with h|h
 ·have d1:decide ((i:Int)<(A.length:Int))=true:=bI h;have hw1:IntKind.i64.wrap ((i:Int)+1)=((i+1:Nat):Int):=aD h W1;have hx:=aw (f:=au) h;have hok:=Lj A[i];have ht:=Vw h;have hno:¬DM (A.take (i+1))→∀L,Q (.bool false) L:=λhb L=>hq _ _ (jk λhN=>hb ⟨λs hs=>hN.1 s (List.mem_of_mem_take hs),hN.2.sublist (List.take_sublist _ _)⟩)
  have hgo:DM (A.take (i+1))→nx [.mp bm,.lst (A.map au),.W6 A.length,.W6 ((i+1:Nat):Int)] [(bm,⟨0,lV (A.take (i+1))⟩)]:=λhb=>hnx (i+1) ⟨h,hb⟩ W1 _ _ (.refl _ _)
  rw[ht]at hno hgo;clear hq hnx ht hz;generalize A[i]=s at *;generalize A.take i=l at *;have hk:=JU l;cases hnm:eb s with
  |false=>
   rw[hnm]at hok;have hb:¬DM (l++[s]):=λhb=>by have:=hb.1 s W4;rw[hnm]at this;cases this
   repeat' (first|refine st ?_|(refine pf 76 ?_;refine pm (hok) ?_)|refine sb λnb_ hnb_=>?_|refine s2 (λh=>?_) λh=>?_|fail)
   all_goals exact hno hb _
  |true=>
   rw[hnm]at hok;by_cases hm:s∈l
   ·have hf:=N9 hm;have hb:¬DM (l++[s]):=λhb=>by have:=(WU.1 hb.2).2.2 s hm s W4;exact this rfl
    repeat' (first|refine st ?_|(refine pf 76 ?_;refine pm (hok) ?_)|refine N0 (.head _) hk hf ?_|refine sb λnb_ hnb_=>?_|refine s2 (λh=>?_) λh=>?_|fail)
    all_goals exact hno hb _
   ·have hf:=PO hm;have hp:=Oa hm;have hb:DM (l++[s]):=⟨λx hx=>by
     rcases Vz.1 hx with h|h
     ·exact hG.1 x h
     ·rw[Vr.1 h];exact hnm,WU.2 ⟨hG.2,W4,λa ha b hb=>by rw[Vr.1 hb];rintro rfl;exact hm ha⟩⟩
    repeat' (first|refine st ?_|(refine pf 76 ?_;refine pm (hok) ?_)|refine N0 (.head _) hk hf ?_|refine T4 (.here _) hk rfl hp ?_|refine sb λnb_ hnb_=>?_|refine s2 (λh=>?_) λh=>?_|fail)
    all_goals exact hgo hb
 ·have d1:decide ((i:Int)<(A.length:Int))=false:=bO h;rw[V8 h]at hG
  repeat' (first|refine st ?_|refine sb λnb_ hnb_=>?_|refine s2 (λh=>?_) λh=>?_|fail)
  exact hq _ _ (kh hG)
section
variable {w:aM} {Q:R} {ns:List aZ} (hns:ns.length≤12) (h4:w.locks.length≤4) (h2:w.conds.length≤2) (hf2:w.futures.length≤2) (ht4:w.threads.length≤4) (hq:∀b L,mU (DM (nH w ns))=b→Q (.bool b) L)
include hns h4 h2 hf2 ht4 hq
theorem Ub{vs:List AV}{L:SH}(o:Option Nat)(ho:o=none→ns++w.locks.map bZ.name=[])(hz:aG vs L [.pptr [w.enc] 0 0,am o (ns++w.locks.map bZ.name).length,.lst (w.conds.map cS.enc),.W6 w.conds.length,.W6 0] (ae o 1 ((ns++w.locks.map bZ.name).map au))):W.loop (dT Q) vs L:=by
 obtain⟨S,hS⟩:∃S:Nat→List aZ,S=λi=>ns++w.locks.map bZ.name++(w.conds.take i).map cS.name:=⟨_,rfl⟩
 have hS0:S 0=ns++w.locks.map bZ.name:=by subst hS;simp
 have hSl:S w.conds.length++w.futures++w.threads=nH w ns:=by subst hS;simp[nH]
 have hSs:∀i (h:i<w.conds.length),S (i+1)=S i++[w.conds[i].name]:=λi h=>by subst hS;simp only[Vw h,Vo,VZ,Vm,V6]
 have hSn:∀i,(S i).length≤18:=λi=>by subst hS;rw[Vu,Vu,Wq,Wq,VO];omega
 rw[←hS0]at hz ho;clear hS0 hS;refine DL (α:=Nat×Option Nat) (λa=>([.pptr [w.enc] 0 0,am a.2 (S a.1).length,.lst (w.conds.map cS.enc),.W6 w.conds.length,.W6 (a.1:Int)],ae a.2 1 ((S a.1).map au))) (λa=>w.conds.length-a.1) (λa=>a.1≤w.conds.length∧(a.2=none→S a.1=[])) (0,o) ⟨Nat.zero_le _,ho⟩ hz ?_;rintro⟨i,o⟩ ⟨hi,ho⟩ nx hnx;unfold dT;dsimp only at *;have hA:=hSn i;rcases Nat.lt_or_ge i w.conds.length with h|h
 ·have d1:decide ((i:Int)<(w.conds.length:Int))=true:=bI h;have hw1:IntKind.i64.wrap ((i:Int)+1)=((i+1:Nat):Int):=aD h W1;have hx:=aw (f:=cS.enc) h;have hgo:∀nb_ L',gD L' [(nb_,⟨1,(S i).map au++[[.str w.conds[i].name]]⟩)]→nx [.pptr [w.enc] 0 0,.sl nb_ 0 ((S i).length+1),.lst (w.conds.map cS.enc),.W6 w.conds.length,.W6 ((i+1:Nat):Int)] L':=λnb_ L' h3=>
   hnx (i+1,some nb_) ⟨h,nofun⟩ (by dsimp only;omega) _ _ (aG.pickE h3 (by simp[am,hSs i h]) (by simp[ae,au,hSs i h]))
  clear hnx hSs hSl hSn hz;generalize w.conds[i]=c at *;generalize S i=C at *;obtain⟨nm,mx⟩:=c;unfold cS.enc at hx;dsimp only at *
  repeat' (first|refine st ?_|refine cx mm rp W4 (λe=>by simp[ho e]) W3 W4 (by simp;omega) (by simp;omega) W3 (λnb_ hnb_=>?_)|refine sb λnb_ hnb_=>?_|refine s2 (λh=>?_) λh=>?_|fail)
  exact hgo _ _ rp
 ·have d1:decide ((i:Int)<(w.conds.length:Int))=false:=bO h;obtain rfl:i=w.conds.length:=by omega
  repeat' (first|refine st ?_|refine sb λnb_ hnb_=>?_|refine s2 (λh=>?_) λh=>?_|fail)
  refine C8 rp (λ_=>rfl) W4 (λe=>by simp[ho e]) W1 W1 (λ_=>rfl) (λo1 ho1=>?_)
  repeat' (first|refine st ?_|refine sb λnb_ hnb_=>?_|refine s2 (λh=>?_) λh=>?_|fail)
  refine C8 rp (λ_=>rfl) W4 (λe=>ho1 e) W1 W1 (λ_=>rfl) (λo2 ho2=>?_);refine PL λbm hbm=>?_
  refine Lk ?_ (λe=>by have:=ho2 e;simp only[List.append_eq_nil_iff,List.map_eq_nil_iff]at this;simp[this]);have e1:(S w.conds.length).map au++w.futures.map au++w.threads.map au=(nH w ns).map au:=by rw[←hSl];simp
  have e2:(S w.conds.length).length+w.futures.length+w.threads.length=(nH w ns).length:=by rw[←hSl];simp;omega
  have e3:(nH w ns).length≤30:=by rw[←e2];omega
  rw[e1]at ho2 ⊢;rw[e2];refine Ua (A:=nH w ns) W1 hq (bm:=bm) (aG.drop (K:=ae o2 1 ((nH w ns).map au)) (R:=[(bm,⟨0,[]⟩)]) (by rw[V2];exact(List.perm_append_singleton _ _).symm) rfl ((i9.cons (.refl _) (.cons (Fz.slot rfl ho2 W5 (λ_ _=>rfl) λ_ _ q a a2 h1 h2=>by rw[h1]at h2;cases h2;exact .refl _) (.cons (.refl _) (.cons (.refl _) .nil)))).at_.2))
theorem Uc{vs:List AV}{L:SH}(o:Option Nat)(ho:o=none→ns=[])(hz:aG vs L [.pptr [w.enc] 0 0,am o ns.length,.lst (w.locks.map bZ.enc),.W6 w.locks.length,.W6 0] (ae o 1 (ns.map au))):W.loop (dU Q) vs L:=by
 have hl2:=λvs L o ho hz=>Ub hns h4 h2 hf2 ht4 hq (vs:=vs) (L:=L) o ho hz
 obtain⟨S,hS⟩:∃S:Nat→List aZ,S=λi=>ns++(w.locks.take i).map bZ.name:=⟨_,rfl⟩
 have hS0:S 0=ns:=by subst hS;simp
 have hSl:S w.locks.length=ns++w.locks.map bZ.name:=by subst hS;simp
 have hSs:∀i (h:i<w.locks.length),S (i+1)=S i++[w.locks[i].name]:=λi h=>by subst hS;simp only[Vw h,Vo,VZ,Vm,V6]
 have hSn:∀i,(S i).length≤18:=λi=>by subst hS;rw[Vu,Wq,VO];omega
 rw[←hSl]at hl2;rw[←hS0]at hz ho;clear hS0 hS hq;refine DL (α:=Nat×Option Nat) (λa=>([.pptr [w.enc] 0 0,am a.2 (S a.1).length,.lst (w.locks.map bZ.enc),.W6 w.locks.length,.W6 (a.1:Int)],ae a.2 1 ((S a.1).map au))) (λa=>w.locks.length-a.1) (λa=>a.1≤w.locks.length∧(a.2=none→S a.1=[])) (0,o) ⟨Nat.zero_le _,ho⟩ hz ?_;rintro⟨i,o⟩ ⟨hi,ho⟩ nx hnx;unfold dU;dsimp only at *;have hA:=hSn i;rcases Nat.lt_or_ge i w.locks.length with h|h
 ·have d1:decide ((i:Int)<(w.locks.length:Int))=true:=bI h;have hw1:IntKind.i64.wrap ((i:Int)+1)=((i+1:Nat):Int):=aD h W1;have hx:=aw (f:=bZ.enc) h;have hgo:∀nb_ L',gD L' [(nb_,⟨1,(S i).map au++[[.str w.locks[i].name]]⟩)]→nx [.pptr [w.enc] 0 0,.sl nb_ 0 ((S i).length+1),.lst (w.locks.map bZ.enc),.W6 w.locks.length,.W6 ((i+1:Nat):Int)] L':=λnb_ L' h3=>
   hnx (i+1,some nb_) ⟨h,nofun⟩ (by dsimp only;omega) _ _ (aG.pickE h3 (by simp[am,hSs i h]) (by simp[ae,au,hSs i h]))
  clear hnx hSs hSl hSn hz hl2;generalize w.locks[i]=c at *;generalize S i=C at *;obtain⟨nm,mx⟩:=c;unfold bZ.enc at hx;dsimp only at *
  repeat' (first|refine st ?_|refine cx mm rp W4 (λe=>by simp[ho e]) W3 W4 (by simp;omega) (by simp;omega) W3 (λnb_ hnb_=>?_)|refine sb λnb_ hnb_=>?_|refine s2 (λh=>?_) λh=>?_|fail)
  exact hgo _ _ rp
 ·have d1:decide ((i:Int)<(w.locks.length:Int))=false:=bO h;obtain rfl:i=w.locks.length:=by omega
  repeat' (first|refine st ?_|refine sb λnb_ hnb_=>?_|refine s2 (λh=>?_) λh=>?_|fail)
  exact hl2 _ _ o ho (.refl _ _)
theorem U7:eE (.agg w.enc) (.lst (ns.map au)) [] Q:=by
 have hl3:=λvs L o ho hz=>Uc hns h4 h2 hf2 ht4 hq (vs:=vs) (L:=L) o ho hz
 clear hq;unfold eE
 repeat' (first|refine st ?_|refine sb λnb_ hnb_=>?_|refine s2 (λh=>?_) λh=>?_|fail)
 refine Ob (λ_=>rfl) W1 W1 (λ_=>rfl) (λe=>?_) (λnb_ hnb_=>?_)
 ·subst e
  repeat' (first|refine st ?_|refine sb λnb_ hnb_=>?_|refine s2 (λh=>?_) λh=>?_|fail)
  exact hl3 _ _ none (λ_=>rfl) (aG.drop (K:=[]) (.refl _) rfl ((i9.cons (.refl _) (.cons .nile (.cons (.refl _) (.cons (.refl _) (.cons (.refl _) .nil))))).at_.2))
 ·repeat' (first|refine st ?_|refine sb λnb_ hnb_=>?_|refine s2 (λh=>?_) λh=>?_|fail)
  exact hl3 _ _ (some nb_) nofun (.refl _ _)
end
theorem L8(w:aM){ns:List aZ}(hns:ns.length≤12)(h4:w.locks.length≤4)(h2:w.conds.length≤2)(hf2:w.futures.length≤2)(ht4:w.threads.length≤4):az Tryz.prog 47 [.agg w.enc,.lst (ns.map au)] (.bool (mU (DM (nH w ns)))):=
 af.fz (oD _ _ _ _ (U7 hns h4 h2 hf2 ht4 λb L h=>⟨_,[],aG.all (.refl _),by rw[h],rfl⟩))
theorem JV{l:List aY}(hl:l.length≤12){ns:List aZ}(h:dF l ns):az Tryz.prog 46 [.lst (l.map aY.enc)] (.tup [.lst (ns.map au),.bool true]):=
 af.fz (gr _ _ _ (sw l hl (λns' L v h1 h2=>⟨_,[],aG.all (.tups (.cons h2 (.cons (.refl _) .nil))),by rw[h.uniq h1],rfl⟩) λh2=>absurd h (h2 ns)))
theorem L9{l:List aY}(hl:l.length≤12)(h:∀ns,¬dF l ns):az Tryz.prog 46 [.lst (l.map aY.enc)] (.tup [.nils,.bool false]):=
 af.fz (gr _ _ _ (sw l hl (λns' L v h1 h2=>absurd h1 (h ns')) λ_ L=>⟨_,[],aG.all (.refl _),rfl,rfl⟩))
end
section
set_option maxRecDepth 100000
set_option maxHeartbeats 1000000
theorem Sa{n:Nat}{t x:Int}{s:cI}{l:List cI}:E9 n t x (s::l)↔t≤s.thread∧s.thread<n∧s.stmt=(if t<s.thread then 0 else x)∧E9 n s.thread (s.stmt+1) l:=Iff.rfl
theorem Fa(w:aM)(h60:w.sites.length≤60):az Tryz.prog 49 [.agg w.enc] (.bool (mU (E9 w.threads.length 0 0 w.sites))):=by
  refine ou _ _ _ ?_;unfold hC;generalize hQ:(λ(u:AV) (K:SH)=>u=AV.bool (mU (E9 w.threads.length 0 0 w.sites))∧K=[])=Q;have hq:∀b,mU (E9 w.threads.length 0 0 w.sites)=b→Q (.bool b) []:=λb hb=>by subst hQ;exact⟨by rw[hb],rfl⟩
  clear hQ
  repeat' (first|refine st ?_|refine sb λnb_ hnb_=>?_|refine s2 (λh=>?_) λh=>?_|fail)
  refine Dw (α:=Nat×Int×Nat) (λa=>([.pptr [w.enc] 0 0,.W6 a.2.1,.W6 (a.2.2:Int),.lst (w.sites.map cI.enc),.W6 w.sites.length,.W6 (a.1:Int)],[])) (λa=>w.sites.length-a.1) (λa=>a.1≤w.sites.length∧a.2.2≤a.1∧(E9 w.threads.length 0 0 w.sites↔E9 w.threads.length a.2.1 a.2.2 (w.sites.drop a.1))) (0,0,0) ⟨Nat.zero_le _,Nat.le_refl _,W4⟩ rfl rfl ?_;rintro⟨i,t,x⟩ ⟨hi,hx0,hG⟩ nx hnx;unfold gt;dsimp only at *;rcases Nat.lt_or_ge i w.sites.length with h|h
  · have d1:decide ((i:Int)<(w.sites.length:Int))=true:=bI h
    have hw1:IntKind.i64.wrap ((i:Int)+1)=((i+1:Nat):Int):=aD h W1;have hw2:IntKind.i64.wrap ((x:Int)+1)=((x+1:Nat):Int):=by rw[V9 _ W1];omega
    have hw3:IntKind.i64.wrap (0+1)=((0+1:Nat):Int):=rfl;have hx:=aw (f:=cI.enc) h;rw[WB h]at hG;generalize w.sites[i]=s at *;rw[Sa]at hG;have hno:¬(t≤s.thread∧s.thread<w.threads.length∧s.stmt=if t<s.thread then 0 else(x:Int))→Q (.bool false) []:=λhb=>hq _ (jk λh2=>hb (by have:=hG.1 h2;exact⟨this.1,this.2.1,this.2.2.1⟩))
    have hgo:∀y:Nat,y≤i→(t≤s.thread∧s.thread<w.threads.length∧s.stmt=if t<s.thread then 0 else(x:Int))→s.stmt=(y:Int)→nx [.pptr [w.enc] 0 0,.W6 s.thread,.W6 ((y+1:Nat):Int),.lst (w.sites.map cI.enc),.W6 w.sites.length,.W6 ((i+1:Nat):Int)] []:=λy hy hb hs=>
      hnx (i+1,s.thread,y+1) ⟨h,by dsimp only;omega,by
        rw[hG];dsimp only;have e:s.stmt+1=((y+1:Nat):Int):=by omega
        rw[e];exact⟨λh=>h.2.2.2,λh=>⟨hb.1,hb.2.1,hb.2.2,h⟩⟩⟩ (by dsimp only;omega)
    clear hnx hG;obtain⟨th,sm,ln⟩:=s;unfold cI.enc at hx;dsimp only at *
    repeat' (first|refine st ?_|refine sb λnb_ hnb_=>?_|refine s2 (λh=>?_) λh=>?_|fail)
    all_goals first
      |(refine hno λh2=>?_;have h3:=h2.1;have h4:=h2.2.1;have h5:=h2.2.2;clear h2 hno hgo;split at h5<;>simp only[decide_eq_true_eq,decide_eq_false_iff_not,ge_iff_le,ne_eq,Decidable.not_not]at * <;>omega)
      |(refine hgo 0 (VX _) ?_ ?_<;>clear hno hgo<;>simp only[decide_eq_true_eq,decide_eq_false_iff_not,ge_iff_le,ne_eq,Decidable.not_not]at * <;>first|omega|(refine⟨W1,W1,?_⟩;rw[if_pos W1];omega))
      | (simp only [decide_eq_true_eq, decide_eq_false_iff_not, ge_iff_le, ne_eq, Decidable.not_not] at *
         obtain rfl:t=th:=by omega
         refine hgo x hx0 ?_ ?_<;>clear hno hgo<;>first|omega|(refine⟨W1,W1,?_⟩;rw[if_neg W1];omega))
  · have d1:decide ((i:Int)<(w.sites.length:Int))=false:=bO h
    rw[List.drop_eq_nil_of_le h]at hG
    repeat' (first|refine st ?_|refine sb λnb_ hnb_=>?_|refine s2 (λh=>?_) λh=>?_|fail)
    exact hq _ (kh (hG.2 trivial))
theorem Ma(w:aM):az Tryz.prog 27 [.agg w.enc] (.bool (mU (IE w))):=by
 refine nY _ _ _ ?_;unfold gZ;generalize hQ:(λ(u:AV) (K:SH)=>u=AV.bool (mU (IE w))∧K=[])=Q;have hq:∀b,mU (IE w)=b→Q (.bool b) []:=λb hb=>by subst hQ;exact⟨by rw[hb],rfl⟩
 clear hQ;by_cases h0:w.cells.length≤12∧w.locks.length≤4∧w.conds.length≤2∧w.futures.length≤2∧w.sites.length≤60∧1≤w.threads.length∧w.threads.length≤4
 ·obtain⟨c12,l4,d2,f2,s60,t1,t4⟩:=h0;have e1:decide ((w.cells.length:Int) > 12)=false:=decide_eq_false W1;have e2:decide ((w.locks.length:Int) > 4)=false:=decide_eq_false W1;have e3:decide ((w.conds.length:Int) > 2)=false:=decide_eq_false W1;have e4:decide ((w.futures.length:Int) > 2)=false:=decide_eq_false W1;have e5:decide ((w.sites.length:Int) > 60)=false:=decide_eq_false W1;have e6:decide ((w.threads.length:Int)<1)=false:=decide_eq_false W1;have e7:decide ((w.threads.length:Int) > 4)=false:=decide_eq_false W1;by_cases hv:∃ns,dF w.cells ns
  ·obtain⟨ns,hv⟩:=hv;have hvc:=JV c12 hv;have hns:ns.length≤12:=by have:=hv.len;omega
   have hvn:=L8 w hns l4 d2 f2 t4;have hvs:=Fa w s60;cases hN:mU (DM (nH w ns))with
   |false=>
    rw[hN]at hvn;have hb:mU (IE w)=false:=jk λh=>by obtain⟨n2,h1,h2⟩:=h.names;obtain rfl:=hv.uniq h1;rw[kh ⟨h2.1,h2.2⟩]at hN;cases hN
    repeat' (first|refine st ?_|(refine pf 46 ?_;refine pm (hvc) ?_)|(refine pf 47 ?_;refine pm (hvn) ?_)|refine sb λnb_ hnb_=>?_|refine s2 (λh=>?_) λh=>?_|fail)
    all_goals exact hq _ hb
   |true=>
    rw[hN]at hvn
    repeat' (first|refine st ?_|(refine pf 46 ?_;refine pm (hvc) ?_)|(refine pf 47 ?_;refine pm (hvn) ?_)|refine sb λnb_ hnb_=>?_|refine s2 (λh=>?_) λh=>?_|fail)
    refine ez w.conds (λc=>!Ik w c.mutex false) (λi=>[.pptr [w.enc] 0 0,.lst (w.conds.map cS.enc),.W6 w.conds.length,.W6 (i:Int)]) W1 rfl (λi h1 hd hi hno nx hn=>?_) (λi h1 hd hno nx=>?_)
    all_goals unfold gp
    ·have hx:=aw (f:=cS.enc) h1;have hlk:=FV w w.conds[i].mutex false;have hbad:Ik w w.conds[i].mutex false=false→mU (IE w)=false:=λh=>jk λh2=>by rw[h2.mtx _ (VF h1)]at h;cases h
     generalize w.conds[i]=c at *;obtain⟨nm,mx⟩:=c;unfold cS.enc at hx;dsimp only at *;cases hl:Ik w mx false with
     |false=>
      rw[hl]at hlk
      repeat' (first|refine st ?_|(refine pf 48 ?_;refine pm (hlk) ?_)|refine sb λnb_ hnb_=>?_|refine s2 (λh=>?_) λh=>?_|fail)
      exact hq _ (hbad hl)
     |true=>
      rw[hl]at hlk
      repeat' (first|refine st ?_|(refine pf 48 ?_;refine pm (hlk) ?_)|refine sb λnb_ hnb_=>?_|refine s2 (λh=>?_) λh=>?_|fail)
      exact hn (by rw[hl];rfl)
    ·repeat' (first|refine st ?_|(refine pf 49 ?_;refine pm (hvs) ?_)|refine sb λnb_ hnb_=>?_|refine s2 (λh=>?_) λh=>?_|fail)
     refine hq _ ?_;cases hs:mU (E9 w.threads.length 0 0 w.sites)with
     |false=>exact jk λh=>by rw[kh h.sites]at hs;cases hs
     |true=>have hN:=ki.1 hN;exact kh ⟨c12,l4,d2,f2,s60,t1,t4,⟨ns,hv,hN.1,hN.2⟩,λc hc=>by simpa using hno c hc,ki.1 hs⟩
  ·have hvc:=L9 c12 λns h=>hv ⟨ns,h⟩
   repeat' (first|refine st ?_|(refine pf 46 ?_;refine pm (hvc) ?_)|refine sb λnb_ hnb_=>?_|refine s2 (λh=>?_) λh=>?_|fail)
   all_goals exact hq _ (jk λh=>by obtain⟨ns,h1,_⟩:=h.names;exact hv ⟨ns,h1⟩)
 ·have hb:mU (IE w)=false:=jk λh=>h0 ⟨h.c12,h.l4,h.d2,h.f2,h.s60,h.t1,h.t4⟩
  repeat' (first|refine st ?_|refine sb λnb_ hnb_=>?_|refine s2 (λh=>?_) λh=>?_|fail)
  all_goals first
   |exact hq _ hb
   |(exfalso;refine h0 ?_;clear hq hb h0;simp only[decide_eq_true_eq,decide_eq_false_iff_not]at *;omega)
structure DN(c:bN):Prop where
 world:IE c.w
 len:c.ts.length=c.w.threads.length
 thr:∀i (h:i<c.ts.length),IC c.w i c.ts[i]
theorem Oc(c:bN)(hl:∀t∈c.ts,t.ins.length<2^48):az Tryz.prog 13 [.agg c.enc] (.bool (mU (DN c))):=by
 have hw:=Ma c.w;have ht:=λi (h:i<c.ts.length)=>Dx c.w i c.ts[i] (hl _ (VF h))
 obtain⟨w,ts⟩:=c;dsimp only at *;refine zT _ _ _ ?_;unfold nw;generalize hQ:(λ(u:AV) (K:SH)=>u=AV.bool (mU (DN ⟨w,ts⟩))∧K=[])=Q;have hq:∀b,mU (DN ⟨w,ts⟩)=b→Q (.bool b) []:=λb hb=>by subst hQ;exact⟨by rw[hb],rfl⟩
 clear hQ;cases hW:mU (IE w)with
 |false=>
  rw[hW]at hw
  repeat' (first|refine st ?_|(refine pf 27 ?_;refine pm (hw) ?_)|refine sb λnb_ hnb_=>?_|refine s2 (λh=>?_) λh=>?_|fail)
  all_goals exact hq _ (jk λh=>by have:=h.world;rw[kh this]at hW;cases hW)
 |true=>
  rw[hW]at hw;have hW:=ki.1 hW;by_cases hlen:ts.length=w.threads.length
  ·have e1:decide ((ts.length:Int)≠(w.threads.length:Int))=false:=by simp[hlen]
   have h4:=hW.t4
   repeat' (first|refine st ?_|(refine pf 27 ?_;refine pm (hw) ?_)|refine sb λnb_ hnb_=>?_|refine s2 (λh=>?_) λh=>?_|fail)
   refine np ts.length (λk=>∀j (h:j<ts.length),j<k→IC w j ts[j]) (λk=>[.pptr [(⟨w,ts⟩:bN).enc] 0 0,.lst (ts.map iy.enc),.W6 ts.length,.W6 k]) W1 (λj h hj=>absurd hj (Nat.not_lt_zero _)) rfl (λk hk hd hi hG nx hn=>?_) (λk hk hd hG nx=>?_)
   all_goals unfold lQ
   ·have hx:=aw (f:=iy.enc) hk;have hok:=ht k hk;have hbad:¬IC w k ts[k]→Q (.bool false) []:=λh=>hq _ (jk λh2=>h (h2.thr k hk))
    have hgo:IC w k ts[k]→nx [.pptr [(⟨w,ts⟩:bN).enc] 0 0,.lst (ts.map iy.enc),.W6 ts.length,.W6 ((k+1:Nat):Int)] []:=λh=>hn λj hj hjk=>by
     rcases Vp j k with g|g
     ·exact hG j hj g
     ·have e:j=k:=by omega
      subst e;exact h
    clear hn hG;generalize ts[k]=c at *;obtain⟨rg,ins⟩:=c;cases hT:mU (IC w k ⟨rg,ins⟩)with
    |false=>
     rw[hT]at hok
     repeat' (first|refine st ?_|(refine pf 28 ?_;refine pm (hok) ?_)|refine sb λnb_ hnb_=>?_|refine s2 (λh=>?_) λh=>?_|fail)
     exact hbad λh=>by rw[kh h]at hT;cases hT
    |true=>
     rw[hT]at hok
     repeat' (first|refine st ?_|(refine pf 28 ?_;refine pm (hok) ?_)|refine sb λnb_ hnb_=>?_|refine s2 (λh=>?_) λh=>?_|fail)
     exact hgo (ki.1 hT)
   ·repeat' (first|refine st ?_|refine sb λnb_ hnb_=>?_|refine s2 (λh=>?_) λh=>?_|fail)
    exact hq _ (kh ⟨hW,hlen,λj h=>hG j h (by have:j<ts.length:=h;omega)⟩)
  ·have e1:decide ((ts.length:Int)≠(w.threads.length:Int))=true:=by simp;omega
   repeat' (first|refine st ?_|(refine pf 27 ?_;refine pm (hw) ?_)|refine sb λnb_ hnb_=>?_|refine s2 (λh=>?_) λh=>?_|fail)
   all_goals exact hq _ (jk λh=>hlen h.len)
end
structure da where
 thread:Int
 kind:Int
 obj:Int
 value:Int
 site:Int
 deps:List Int
 frm:List Int
def da.enc(e:da):List AV:=[.W6 e.thread,.W6 e.kind,.W6 e.obj,.W6 e.value,.W6 e.site,.lst (e.deps.map aj),.lst (e.frm.map aj)]
structure eh where
 sync:SyncD
 cells:List Int
 futures:List Int
 threads:List aV
def eh.enc(s:eh):List AV:=[.lst (s.sync.locks.map LockD.enc),.W6 s.sync.tx,.lst (s.sync.done.map aT),.lst (s.sync.threads.map ThrD.enc),.lst (s.cells.map aj),.lst (s.futures.map aj),.lst (s.threads.map aV.enc)]
def pP(op:Int):Int:=kJ.getD op.toNat 0
def ixS(i n:Int):Int:=if n<1 then 0 else if i.tmod n<0 then IntKind.i64.wrap (i.tmod n+n)else i.tmod n
def lW(i:bj)(s:aV)(t:Int):da:=
 let e:da:=⟨t,pP i.op,i.a,0,i.site,[],[]⟩
 if i.op=6∨i.op=27 then {e with obj:=i.b}
 else if i.op=7 then {e with obj:=IntKind.i64.wrap (i.b+ixS (s.reg i.c) i.n),deps:=s.tnt i.c}
 else if i.op=8∨i.op=26 then {e with frm:=s.tnt i.b}
 else if i.op=9 then {e with obj:=IntKind.i64.wrap (i.a+ixS (s.reg i.c) i.n),deps:=s.tnt i.c,frm:=s.tnt i.b}
 else if i.op=10 then {e with obj:=-1,deps:=s.tnt i.a}
 else if i.op=28∨i.op=17∨i.op=18∨i.op=19∨i.op=20 then {e with obj:=-1}
 else e
def aB(c:bN)(t:Int):iy:=c.ts.getD t.toNat ⟨0,[]⟩
def bJ(s:eh)(t:Int):aV:=s.threads.getD t.toNat aV.zero
def dk(c:iy)(k:Int):bj:=c.ins.getD k.toNat default
def jv(c:bN)(s:eh)(t:Int):Bool:=
 inB t c.ts.length&&inB t s.threads.length&&inB t s.sync.threads.length&&inB (bJ s t).pc (aB c t).ins.length&&decide (((bJ s t).regs.length:Int)=(aB c t).regs)&&decide (((bJ s t).taint.length:Int)=(aB c t).regs)
def hM(c:bN)(s:eh)(t:Int):Option da:=
 if jv c s t then
  let i:=dk (aB c t) (bJ s t).pc
  if(cj s.sync t).status=1 then some ⟨t,1,-1,0,-1,[],[]⟩
  else if(cj s.sync t).status=4 then some ⟨t,17,(cj s.sync t).cond,0,i.site,[],[]⟩
  else if(cj s.sync t).status=2 then(if pP i.op≠0 then some (lW i (bJ s t) t)else none)
  else none
 else none
structure Sb where
 value:Int
 cells:List Int
 futures:List Int
 thread:aV
def jW(l:List Int)(o:Int):Int:=l.getD o.toNat 0
def dP(i:bj)(e:da)(s:eh)(th:aV)(sv:Int):Sb:=
 let nx:Int:=IntKind.i64.wrap (th.pc+1)
 let ev:Int:=IntKind.i64.wrap (th.ev+1)
 if e.kind=3 then⟨jW s.cells e.obj,s.cells,s.futures,⟨nx,th.regs.set i.a.toNat (jW s.cells e.obj),th.taint.set i.a.toNat [th.ev],ev⟩⟩
 else if e.kind=23 then⟨jW s.futures e.obj,s.cells,s.futures,⟨nx,th.regs.set i.a.toNat (jW s.futures e.obj),th.taint.set i.a.toNat [th.ev],ev⟩⟩
 else if e.kind=4 then⟨th.reg i.b,s.cells.set e.obj.toNat (th.reg i.b),s.futures,⟨nx,th.regs,th.taint,ev⟩⟩
 else if e.kind=22 then⟨th.reg i.b,s.cells,s.futures.set e.obj.toNat (th.reg i.b),⟨nx,th.regs,th.taint,ev⟩⟩
 else if e.kind=5 then(if th.reg i.a≠0 then⟨1,s.cells,s.futures,⟨nx,th.regs,th.taint,ev⟩⟩else⟨e.value,s.cells,s.futures,⟨i.b,th.regs,th.taint,ev⟩⟩)
 else if e.kind=18∨e.kind=19 then⟨sv,s.cells,s.futures,⟨nx,th.regs,th.taint,ev⟩⟩
 else if e.kind=1∨e.kind=16∨e.kind=2 then⟨e.value,s.cells,s.futures,⟨th.pc,th.regs,th.taint,ev⟩⟩
 else⟨e.value,s.cells,s.futures,⟨nx,th.regs,th.taint,ev⟩⟩
def A3(c:bN)(s:eh)(t wake:Int):Option (eh×da):=
 match hM c s t with
 |none=>none
 |some e=>
  if s.cells.length=c.w.cells.length∧s.futures.length=c.w.futures.length then
   let r:=gX c.w s.sync t e.kind e.obj wake
   if r.2.2 then
    let a:=dP (dk (aB c t) (bJ s t).pc) e s (bJ s t) r.2.1
    let e':={e with value:=a.value}
    if e.kind≠16∧e.kind≠2 then
     let z:=bV (aB c t) a.thread
     if z.2 then some (⟨r.1,a.cells,a.futures,s.threads.set t.toNat z.1⟩,e')else none
    else some (⟨r.1,a.cells,a.futures,s.threads.set t.toNat a.thread⟩,e')
   else none
  else none
def cV(c:bN):eh:=⟨cZ c.w,c.w.cells.map aY.init,List.replicate c.w.futures.length 0,c.ts.map λt=>⟨0,List.replicate t.regs.toNat 0,List.replicate t.regs.toNat [],0⟩⟩
def Hp(c:bN)(p:List da×eh)(ch:cU):List da×eh:=
 if 400≤p.1.length then p else match A3 c p.2 ch.thread ch.wake with
  |none=>p
  |some (n,e)=>(p.1++[e],n)
def fo(c:bN)(l:List cU):List da×eh:=l.foldl (Hp c) ([],cV c)
end Go.Proofs.YtenbpcngcicamaaGreatDoor.Am
