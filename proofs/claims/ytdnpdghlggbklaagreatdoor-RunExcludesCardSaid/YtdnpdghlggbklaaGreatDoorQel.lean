/- A part of the proof; the statement is proved in the last part. -/
import Derived.Test.YtdnpdghlggbklaaGreatDoorQek
set_option linter.unusedSimpArgs false
set_option linter.unusedVariables false
namespace Go.Proofs.YtdnpdghlggbklaaGreatDoor.Am
section
set_option maxRecDepth 100000
set_option maxHeartbeats 1000000
set_option linter.unusedSectionVars false
structure E5(w:aH)(t n:Nat)(regs:Int)(k:Nat)(i:bj):Prop where
 lo:1≤i.op
 hi:i.op≤28
 last:i.op=28↔k+1=n
 fin:i.op=28→i.site=-1
 sin:i.op≠28→inB i.site w.sites.length=true
 sth:i.op≠28→(w.sites.getD i.site.toNat default).thread=t
 regs:∀r∈bT i,0≤r∧r<regs
 obj:JH w i=true
 jmp:Iy n i=true
structure IC(w:aH)(t:Nat)(c:iH):Prop where
 r0:0≤c.regs
 r32:c.regs≤32
 ne:0<c.ins.length
 ins:∀(k:Nat) (h:k<c.ins.length),E5 w t c.ins.length c.regs k c.ins[k]
 lans:∀k,k<c.ins.length→po c.ins k
theorem E5.fit{w:aH}{t:Nat}{c:iH}(hl:c.ins.length<2^48)(h:∀(k:Nat) (h:k<c.ins.length),E5 w t c.ins.length c.regs k c.ins[k]):N2 c.ins where
 len:=hl
 jmp:=λi hi h5=>by obtain⟨k,hk,rfl⟩:=List.mem_iff_getElem.1 hi;have:=(h k hk).jmp;unfold Iy at this;rw[if_pos h5]at this;exact ax.1 this
 last:=λk i hi=>by obtain⟨hk,rfl⟩:=Wk.1 hi;exact(h k hk).last
theorem LY(i:bj):(bT i).length≤3:=by
 unfold bT
 repeat' split
 all_goals simp
section
variable {w:aH} {t:Nat} {c:iH} {k:Nat} {i:bj} (h0:0≤c.regs) (Q:R) (n45:W.Kn)
 (hno:¬E5 w t c.ins.length c.regs k i→Q (.bool false) [])
 (hgo:(∀r∈bT i,0≤r∧r<c.regs)→JH w i=true→Iy c.ins.length i=true→n45 [.Xm t,.pptr [w.enc] 0 0,.pptr [c.enc] 0 0,.lst (c.ins.map bj.enc),.Xm c.ins.length,.Xm (k+1:Nat)] [])
 (hl:c.ins.length<2^48) (hk:k<c.ins.length)
include h0 hno hgo hl hk
theorem Sh(x:AV):dQ Q n45 [.Xm t,.pptr [w.enc] 0 0,.pptr [c.enc] 0 0,x,.pptr [i.enc] 0 0,.lst (c.ins.map bj.enc),.Xm c.ins.length,.Xm k] []:=by
 have hr:=GP i;have ho:=GO w c.ins.length i;obtain⟨rg,hrg⟩:=W2 h0;have hwr:IntKind.i64.wrap ((k:Int)+1)=((k+1:Nat):Int):=aE hk Xh;unfold dQ
 repeat' (first|refine st ?_|(refine pf 68 ?_;refine pm (hr) ?_)|refine sb λnb_ hnb_=>?_|refine s2 (λh=>?_) λh=>?_|fail)
 refine pk (bT i).length (λj=>∀r∈(bT i).take j,0≤r∧r<c.regs) (λj=>[.Xm t,.pptr [w.enc] 0 0,.pptr [c.enc] 0 0,.pptr [i.enc] 0 0,.lst (c.ins.map bj.enc),.Xm c.ins.length,.Xm k,.lst ((bT i).map aj),.Xm (bT i).length,.Xm j]) (by have:=LY i;omega) Xk Xk (λj hj hd hi hG nx hn=>?_) (λj hj hd hG nx=>?_)
 all_goals unfold ga
 ·have hx:=aw (f:=aj) hj;have hw:=dG (bT i)[j] rg;rw[←hrg]at hw;cases hb:inB (bT i)[j] rg with
  |false=>
   rw[hb]at hw;have:¬E5 w t c.ins.length c.regs k i:=λh=>by have:=h.regs _ (VV hj);rw[hrg,←ax,hb]at this;cases this
   repeat' (first|refine st ?_|(refine pf 67 ?_;refine pm (hw) ?_)|refine sb λnb_ hnb_=>?_|refine s2 (λh=>?_) λh=>?_|fail)
   exact hno this
  |true=>
   rw[hb]at hw
   repeat' (first|refine st ?_|(refine pf 67 ?_;refine pm (hw) ?_)|refine sb λnb_ hnb_=>?_|refine s2 (λh=>?_) λh=>?_|fail)
   refine hn (Ik hj hG ?_);rw[hrg];exact ax.1 hb
 ·subst hj;rw[List.take_length]at hG;cases hb:(JH w i&&Iy c.ins.length i)with
  |false=>
   rw[hb]at ho;have:¬E5 w t c.ins.length c.regs k i:=λh=>by rw[h.obj,h.jmp]at hb;cases hb
   repeat' (first|refine st ?_|(refine pf 69 ?_;refine pm (ho) ?_)|refine sb λnb_ hnb_=>?_|refine s2 (λh=>?_) λh=>?_|fail)
   exact hno this
  |true=>
   rw[hb]at ho;rw[VW]at hb
   repeat' (first|refine st ?_|(refine pf 69 ?_;refine pm (ho) ?_)|refine sb λnb_ hnb_=>?_|refine s2 (λh=>?_) λh=>?_|fail)
   exact hgo hG hb.1 hb.2
end
theorem DB(w:aH)(t:Nat)(c:iH)(hl:c.ins.length<2^48):az Tryz.prog 39 [.agg w.enc,.Xm t,.agg c.enc] (.bool (mZ (IC w t c))):=by
  refine mY _ _ _ _ _ ?_;unfold gz;generalize hQ:(λ(u:AV) (K:SH)=>u=AV.bool (mZ (IC w t c))∧K=[])=Q;have hq:∀b,mZ (IC w t c)=b→Q (.bool b) []:=λb hb=>by subst hQ;exact⟨by rw[hb],rfl⟩
  clear hQ;by_cases h0:0≤c.regs∧c.regs≤32∧0<c.ins.length
  · obtain⟨h0,h32,hn0⟩:=h0
    have d1:decide (c.regs<0)=false:=by simpa using h0
    have d2:decide (c.regs > 32)=false:=by simpa using h32
    have d3:decide ((c.ins.length:Int)=0)=false:=decide_eq_false Xh
    repeat' (first|refine st ?_|refine sb λnb_ hnb_=>?_|refine s2 (λh=>?_) λh=>?_|fail)
    refine pk c.ins.length (λk=>∀j (h:j<c.ins.length),j<k→E5 w t c.ins.length c.regs j c.ins[j]) (λk=>[.Xm t,.pptr [w.enc] 0 0,.pptr [c.enc] 0 0,.lst (c.ins.map bj.enc),.Xm c.ins.length,.Xm k]) Xh (λj h hj=>absurd hj (Nat.not_lt_zero _)) Xk (λk hk hd hi hG nx hn=>?_) (λk hk hd hG nx=>?_)
    all_goals unfold gb
    · have hx:=aw (f:=bj.enc) hk
      have hno:¬E5 w t c.ins.length c.regs k c.ins[k]→Q (.bool false) []:=λh=>hq _ (jw λh2=>h (h2.ins k hk))
      have hgo:E5 w t c.ins.length c.regs k c.ins[k]→nx [.Xm t,.pptr [w.enc] 0 0,.pptr [c.enc] 0 0,.lst (c.ins.map bj.enc),.Xm c.ins.length,.Xm (k+1:Nat)] []:=λh=>hn λj hj hjk=>by
        rcases VG j k with g|g
        · exact hG j hj g
        · have e:j=k:=by omega
          subst e;exact h
      generalize c.ins[k]=i at hx hno hgo;have hj4:=λhgo x=>Sh (i:=i) (w:=w) (t:=t) (k:=k) h0 Q nx hno hgo hl hk x
      have hs1:IntKind.i64.wrap ((c.ins.length:Int)-1)=((c.ins.length-1:Nat):Int):=by rw[Wr _ Xh];omega
      have hw:=dG i.site w.sites.length;obtain⟨op,ia,ib,ic,m,site⟩:=i;have he:bj.enc ⟨op,ia,ib,ic,m,site⟩=[.Xm op,.Xm ia,.Xm ib,.Xm ic,.Xm m,.Xm site]:=rfl;rw[he]at hx hj4;clear he;cases hb:inB site w.sites.length with
      |false=>
        rw[hb]at hw
        repeat' (first|with_reducible refine hj4 (λr1 r2 r3=>?_) _|refine st ?_|(refine pf 67 ?_;refine pm (hw) ?_)|refine sb λnb_ hnb_=>?_|refine s2 (λh=>?_) λh=>?_|fail)
        all_goals first
        | (refine hno fun h9 => ?_
           have g1:=h9.lo;have g2:=h9.hi;have g3:=h9.last;have g4:=h9.fin;have g5:=h9.sin;have g6:=h9.sth
           clear h9 hno hgo hn hG hj4 hq
           (simp only[hb,V4,decide_eq_true_eq,decide_eq_false_iff_not,ne_eq,Decidable.not_not,decide_eq_decide,imp_false]at *)
           omega)
        | (refine hgo ⟨?_, ?_, ?_, ?_, fun h9 => ?_, fun h9 => ?_, r1, r2, r3⟩
           all_goals clear hno hgo hn hG hj4 hq r1 r2 r3
           all_goals (simp only[hb,V4,decide_eq_true_eq,decide_eq_false_iff_not,ne_eq,Decidable.not_not,decide_eq_decide,imp_false]at *)
           all_goals omega)
        |trace_state
      |true=>
        rw[hb]at hw;obtain⟨ks,rfl⟩:=W2 (fE hb);have hks:ks<w.sites.length:=by have:=(ax.1 hb).2;omega
        have hx2:=aw (f:=cM.enc) hks;unfold cM.enc at hx2
        repeat' (first|with_reducible refine hj4 (λr1 r2 r3=>?_) _|refine st ?_|(refine pf 67 ?_;refine pm (hw) ?_)|refine sb λnb_ hnb_=>?_|refine s2 (λh=>?_) λh=>?_|fail)
        all_goals first
        | (refine hno fun h9 => ?_
           have g1:=h9.lo;have g2:=h9.hi;have g3:=h9.last;have g4:=h9.fin;have g5:=h9.sin;have g6:=h9.sth
           clear h9 hno hgo hn hG hj4 hq
           (simp only[WS,W6,VB hks,Xf,hb,imp_true_iff,decide_eq_true_eq,decide_eq_false_iff_not,ne_eq,Decidable.not_not,decide_eq_decide,imp_false]at *)
           omega)
        | (refine hgo ⟨?_, ?_, ?_, ?_, fun h9 => hb, fun h9 => ?_, r1, r2, r3⟩
           all_goals clear hno hgo hn hG hj4 hq r1 r2 r3
           all_goals (simp only[WS,W6,VB hks,Xf,hb,imp_true_iff,decide_eq_true_eq,decide_eq_false_iff_not,ne_eq,Decidable.not_not,decide_eq_decide,imp_false]at *)
           all_goals omega)
        |trace_state
    · have ha:=IB (E5.fit hl λj h=>hG j h Xh)
      repeat' (first|refine st ?_|(refine pf 70 ?_;refine pm (ha) ?_)|refine sb λnb_ hnb_=>?_|refine s2 (λh=>?_) λh=>?_|fail)
      refine hq _ ?_;cases hb:mZ (∀k,k<c.ins.length→po c.ins k)with
      |true=>exact kv ⟨h0,h32,hn0,λj h=>hG j h Xh,ky.1 hb⟩
      |false=>exact jw λh=>by rw[kv h.lans]at hb;cases hb
  · have hno:=hq _ (jw λh=>h0 ⟨h.r0,h.r32,h.ne⟩)
    repeat' (first|refine st ?_|refine sb λnb_ hnb_=>?_|refine s2 (λh=>?_) λh=>?_|fail)
    all_goals first
      |exact hno
      |(exfalso;refine h0 ?_;simp only[decide_eq_true_eq,decide_eq_false_iff_not]at *;omega)
end
section
set_option maxRecDepth 100000
def jy(b:AV)(L:SH)(Q:R):Prop:=wb .geq 5 b (.int .u8 97) λc=>bB c true b L λe f=>wg c true (wb .leq 5 e (.int .u8 122)) f λg h=>W.pick c g (.bool false) λa=>bB a false b h λi j=>wg a false (wb .geq 5 i (.int .u8 65)) j λk l=>bB a false k l λd m=>bB d true b m λn o=>wg d true (wb .leq 5 n (.int .u8 90)) o λp q=>wg a false (W.pick d p (.bool false)) q λr s=>W.pick a (.bool true) r λt=>Q t s
theorem nE(t0:AV)(L:SH)(Q:R)(h:jy t0 L Q):af Tryz.prog 118 [t0] L Q:=
 fs [] [] [] [] Tryz.func118 h
def lx(b:AV)(L:SH)(Q:R):Prop:=wb .geq 5 b (.int .u8 48) λa=>bB a true b L λc d=>wg a true (wb .leq 5 c (.int .u8 57)) d λe f=>W.pick a e (.bool false) λg=>Q g f
theorem pI(t0:AV)(L:SH)(Q:R)(h:lx t0 L Q):af Tryz.prog 142 [t0] L Q:=
 fs [] [] [] [] Tryz.func142 h
def DC(Q:R)(c a:AV)(e:SH):Prop:=bB a false c e λf d=>W.grd a false (λg=>wc (.fn 142 []) [f] d λh i=>g h i) d λj k=>W.pick a (.bool true) j λb=>bB b false c k λl m=>wg b false (wb .eql 5 l (.int .u8 95)) m λn o=>W.pick b (.bool true) n λp=>Q p o
def ly(a:AV)(L:SH)(Q:R):Prop:=wc (.fn 118 []) [a] L (DC Q a)
theorem pJ(t0:AV)(L:SH)(Q:R)(h:ly t0 L Q):af Tryz.prog 120 [t0] L Q:=
 fs [] [] [] [] Tryz.func120 h
def gT(L:SH)(Q:R):Prop:=W.bslice 1 [(.str [])] 22 [(0,(.str [118,97,114])),(1,(.str [118,111,108,97,116,105,108,101])),(2,(.str [109,117,116,101,120])),(3,(.str [114,119,108,111,99,107])),(4,(.str [99,111,110,100])),(5,(.str [102,117,116,117,114,101])),(6,(.str [116,104,114,101,97,100])),(7,(.str [105,102])),(8,(.str [101,108,115,101])),(9,(.str [119,104,105,108,101])),(10,(.str [108,111,99,107])),(11,(.str [114,101,97,100])),(12,(.str [119,114,105,116,101])),(13,(.str [116,114,97,110,115,97,99,116,105,111,110])),(14,(.str [97,116,111,109,105,99])),(15,(.str [119,97,105,116])),(16,(.str [110,111,116,105,102,121])),(17,(.str [110,111,116,105,102,121,97,108,108])),(18,(.str [115,112,97,119,110])),(19,(.str [106,111,105,110])),(20,(.str [115,101,116])),(21,(.str [103,101,116]))] L λa b=>Q a b
theorem kz(L:SH)(Q:R)(h:gT L Q):af Tryz.prog 141 [] L Q:=
 fs [] [] [] [] Tryz.func141 h
def fG(Q:R)(e:Vs)(a:SH)(f:Kn):Prop:=vY 0 3 4 e λd b c=>W.len b λg=>wb .lss 3 c g λh=>wk h (wJ 1 b c a λi=>wb .eql 9 i d λj=>wk j (Q (.bool true) a) (wb .add 3 c (.Xm 1) λk=>f [d,b,k] a)) (Q (.bool false) a)
def s9(Q:R)(a b:AV)(c:SH):Prop:=W.loop (fG Q) [a,b,(.Xm 0)] c
def ge(a:AV)(L:SH)(Q:R):Prop:=wc (.fn 141 []) [] L (s9 Q a)
theorem jz(t0:AV)(L:SH)(Q:R)(h:ge t0 L Q):af Tryz.prog 119 [t0] L Q:=
 fs [] [(3,[0,3,4])] [] [] Tryz.func119 h
def BZ(Q:R)(b:Kn)(c d e:AV)(a:SH):Prop:=W.un .not e λf=>wk f (Q (.bool false) a) (wb .add 3 c (.Xm 1) λg=>b [d,g] a)
def iA(Q:R)(d:Vs)(c:SH)(e:Kn):Prop:=Py 0 3 d λa b=>W.lenS a λf=>wb .lss 3 b f λg=>wk g (W.ixS a b λh=>wc (.fn 120 []) [h] c (BZ Q e b a)) (Q (.bool true) c)
def gf(a:AV)(L:SH)(Q:R):Prop:=W.lenS a λh=>wb .lss 3 h (.Xm 1) λc=>bB c false a L λi j=>wg c false (W.lenS i) j λk l=>wg c false (wb .gtr 3 k (.Xm 12)) l λm n=>W.pick c (.bool true) m λb=>bB b false a n λo p=>wg b false (W.ixS o (.Xm 0)) p λq e=>W.grd b false (λr=>wc (.fn 118 []) [q] e λs t=>r s t) e λu v=>wg b false (W.un .not u) v λw x=>W.pick b (.bool true) w λd=>bB d false a x λy f=>W.grd d false (λz=>wc (.fn 119 []) [y] f λA B=>z A B) f λC g=>W.pick d (.bool true) C λD=>wk D (Q (.bool false) g) (W.loop (iA Q) [a,(.Xm 0)] g)
theorem iB(t0:AV)(L:SH)(Q:R)(h:gf t0 L Q):af Tryz.prog 86 [t0] L Q:=
 fs [] [(4,[0,3])] [] [] Tryz.func86 h
def xJ(Q:R)(d:SH)(b:AV):Prop:=wb .geq 3 b (.Xm 6) λa=>bB a true b d λe f=>wg a true (wb .leq 3 e (.Xm 18)) f λg c=>W.pick a g (.bool false) λh=>wk h (Q (.Xm 2) c) (Q (.Xm (-1)) c)
def xK(Q:R)(d:SH)(a:AV):Prop:=wb .geq 3 a (.Xm 3) λb=>bB b true a d λe f=>wg b true (wb .leq 3 e (.Xm 5)) f λg c=>W.pick b g (.bool false) λh=>wk h (Q (.Xm 1) c) ((xJ Q c a))
def lZ(a:AV)(L:SH)(Q:R):Prop:=wb .eql 3 a (.Xm 1) λb=>bB b false a L λd e=>wg b false (wb .eql 3 d (.Xm 2)) e λf c=>W.pick b (.bool true) f λg=>wk g (Q (.Xm 0) c) ((xK Q c a))
theorem xL(t0:AV)(L:SH)(Q:R)(h:lZ t0 L Q):af Tryz.prog 154 [t0] L Q:=
 fs [] [] [] [] Tryz.func154 h
def qP(Q:R)(b:Kn)(c d e:AV)(a:SH):Prop:=W.un .not e λf=>wk f (Q (.bool false) a) (wb .add 3 c (.Xm 1) λg=>b [d,g] a)
def iL(Q:R)(d:Vs)(a:SH)(e:Kn):Prop:=Py 1 4 d λb c=>aA 3 b a λf=>W.len f λg=>wb .lss 3 c g λh=>wk h (aA 3 b a λi=>lD 4 i c a λj=>wc (.fn 143 []) [j] a (qP Q e c b)) (Q (.bool true) a)
def qQ(Q:R)(G:SH)(a o:AV)(H:Fp)(I:AV)(h:SH)(J:Ns):Prop:=wn [] J [] G.names λM=>aM 3 a [rc 2 M,rm 1 H] 4 h λN g4=>W.len N λO=>wb .neq 3 I O λb=>W.dgrd b false (λP=>P o h rz) h λS p g5=>W.dgrd b false (λT=>W.faddr 2 a λU=>T U p rz) p λV i g6=>W.dgrd b false (λX=>dl [] 10 V i λY Z=>X Y i Z) i λa0 q g7=>W.dgrd b false (λa1=>wb .neq 9 a0 (.str []) λa2=>a1 a2 q rz) q λa3 r g8=>W.dgrd b false (λa4=>wb .neq 4 S a3 λa5=>a4 a5 r rz) r λa6 s g9=>W.pick b (.bool true) a6 λe=>W.dgrd e false (λa7=>a7 o s rz) s λa8 t h0=>W.dgrd e false (λa9=>a9 a8 t rz) t λd u h1=>W.dgrd d true (λb0=>W.faddr 2 a λb1=>b0 b1 u rz) u λb2 j h2=>W.dgrd d true (λb3=>dl [] 18 b2 j λb4 b5=>b3 b4 j b5) j λb6 k h3=>W.dgrd d true (λb7=>wd [] 19 (.fn 86 []) [b6] k λb8 b9 c0=>wn [] c0 [] k.names λc1=>b7 b8 b9 c1) k λc2 v h4=>W.dgrd d true (λc3=>W.un .not c2 λc4=>c3 c4 v rz) v λc5 w h5=>W.dgrd e false (λc6=>W.pick d c5 (.bool false) λc7=>c6 c7 w rz) w λc8 x h6=>W.pick e (.bool true) c8 λf=>W.dgrd f false (λc9=>W.faddr 1 a λd0=>c9 d0 x rz) x λd1 l h7=>W.dgrd f false (λd2=>dl [] 25 d1 l λd3 d4=>d2 d3 l d4) l λd5 y h8=>W.dgrd f false (λd6=>wb .lss 2 d5 (.Xm 0) λd7=>d6 d7 y rz) y λd8 z h9=>W.pick f (.bool true) d8 λc=>W.dgrd c false (λd9=>W.faddr 0 a λe0=>d9 e0 z rz) z λe1 m i0=>W.dgrd c false (λe2=>dl [] 30 e1 m λe3 e4=>e2 e3 m e4) m λe5 A i1=>W.dgrd c false (λe6=>wb .neq 3 e5 (.Xm 1) λe7=>e6 e7 A rz) A λe8 B i2=>W.dgrd c false (λe9=>e9 e8 B rz) B λg C i3=>W.dgrd g true (λf0=>W.faddr 1 a λf1=>f0 f1 C rz) C λf2 n i4=>W.dgrd g true (λf3=>dl [] 34 f2 n λf4 f5=>f3 f4 n f5) n λf6 D i5=>W.dgrd g true (λf7=>wb .neq 2 f6 (.Xm 0) λf8=>f7 f8 D rz) D λf9 E i6=>W.dgrd c false (λg0=>W.pick g f9 (.bool false) λg1=>g0 g1 E rz) E λg2 F i7=>W.pick c (.bool true) g2 λg3=>wk g3 (Q (.bool false) F) (W.loop (iL Q) [a,(.Xm 0)] F)
def jA(f:AV)(L:SH)(Q:R):Prop:=su f L λa d=>aA 0 a d λg=>wb .eql 3 g (.Xm 2) λb=>wg b false (W.faddr 0 a) d λh e=>wg b false (wl h e) e λi j=>wg b false (wb .eql 3 i (.Xm 3)) j λk c=>W.pick b (.bool true) k λl=>(true=true)∧(aM 0 a [] 1 c λm n=>wd [] 2 (.fn 154 []) [m] c (qQ Q c a l n))
theorem qR(t0:AV)(L:SH)(Q:R)(h:jA t0 L Q):af Tryz.prog 143 [t0] L Q:=
 fs [] [(5,[1,4])] [(0,[1])] [(2,[0,1,3,0,8,24,63,127,255,255,767,1791,4095,8191,16383,32767,65535,131071,262143,524287,1048575,2097151,4194303,8388607,16777215,33554431,67108863,134217727,268435455,536870911,1073741823,2147483647,4294967295,8589934591,17179869183,34359738367,68719476735,137438953471])] Tryz.func143 h
def sD(i:AV)(L:SH)(Q:R):Prop:=su i L λb e=>aA 0 b e λj=>wb .eql 3 j (.Xm 0) λc=>wg c true (W.faddr 1 b) e λk f=>wg c true (wl k f) f λl m=>wg c true (wb .eql 2 l (.Xm 0)) m λn o=>W.pick c n (.bool false) λd=>wg d true (W.faddr 2 b) o λp g=>wg d true (wl p g) g λq r=>wg d true (wb .eql 9 q (.str [])) r λs t=>W.pick d s (.bool false) λa=>wg a true (W.faddr 3 b) t λu h=>wg a true (wl u h) h λv w=>wg a true (W.len v) w λx y=>wg a true (wb .eql 3 x (.Xm 0)) y λz A=>W.pick a z (.bool false) λB=>Q B A
theorem DD(t0:AV)(L:SH)(Q:R)(h:sD t0 L Q):af Tryz.prog 144 [t0] L Q:=
 fs [] [] [(0,[1])] [] Tryz.func144 h
def qS(Q:R)(d a:AV)(e:SH):Prop:=wg a true (W.faddr 10 d) e λf b=>wg a true (wl f b) b λg c=>W.grd a true (λh=>wc (.fn 87 []) [g] c λi j=>h i j) c λk l=>W.pick a k (.bool false) λm=>Q m l
def fi(Q:R)(g:SH)(a:AV):Prop:=aA 0 a g λl=>wb .geq 3 l (.Xm 2) λe=>wg e true (W.faddr 0 a) g λm h=>wg e true (wl m h) h λn o=>wg e true (wb .leq 3 n (.Xm 8)) o λp q=>W.pick e p (.bool false) λr=>W.un .not r λc=>wg c true (W.faddr 9 a) q λs i=>wg c true (wl s i) i λt u=>wg c true (W.len t) u λv w=>wg c true (wb .gtr 3 v (.Xm 0)) w λx y=>W.pick c x (.bool false) λb=>wg b false (W.faddr 0 a) y λz j=>wg b false (wl z j) j λA B=>wg b false (wb .neq 3 A (.Xm 2)) B λC D=>bB b false C D λd E=>wg d true (W.faddr 10 a) E λF k=>wg d true (wl F k) k λG H=>wg d true (W.len G) H λI J=>wg d true (wb .gtr 3 I (.Xm 0)) J λM N=>wg b false (W.pick d M (.bool false)) N λO f=>W.pick b (.bool true) O λP=>wk P (Q (.bool false) f) (aA 9 a f λS=>wc (.fn 87 []) [S] f (qS Q a))
def fj(Q:R)(h:SH)(a:AV):Prop:=aA 0 a h λq=>wb .eql 3 q (.Xm 1) λe=>wg e false (W.faddr 0 a) h λr i=>wg e false (wl r i) i λs t=>wg e false (wb .eql 3 s (.Xm 2)) t λu v=>W.pick e (.bool true) u λf=>wg f false (W.faddr 0 a) v λw j=>wg f false (wl w j) j λx y=>wg f false (wb .eql 3 x (.Xm 3)) y λz A=>W.pick f (.bool true) z λg=>wg g false (W.faddr 0 a) A λB k=>wg g false (wl B k) k λC D=>wg g false (wb .eql 3 C (.Xm 14)) D λE F=>W.pick g (.bool true) E λb=>wg b true (W.faddr 5 a) F λG l=>wg b true (bZ 4 G l) l λH m=>W.grd b true (λI=>wc (.fn 143 []) [H] m λJ M=>I J M) m λN O=>wg b true (W.un .not N) O λP S=>W.pick b P (.bool false) λc=>bB c false b S λT U=>wg c false (W.un .not T) U λV X=>bB c false V X λd Y=>wg d true (W.faddr 5 a) Y λZ n=>wg d true (bZ 4 Z n) n λa0 o=>W.grd d true (λa1=>wc (.fn 144 []) [a0] o λa2 a3=>a1 a2 a3) o λa4 a5=>wg d true (W.un .not a4) a5 λa6 a7=>wg c false (W.pick d a6 (.bool false)) a7 λa8 p=>W.pick c (.bool true) a8 λa9=>wk a9 (Q (.bool false) p) ((fi Q p a))
def fk(Q:R)(f:SH)(c:AV):Prop:=aA 4 c f λo=>W.len o λp=>wb .gtr 3 p (.Xm 1) λd=>wg d false (W.faddr 0 c) f λq g=>wg d false (wl q g) g λr s=>wg d false (wb .neq 3 r (.Xm 1)) s λt u=>bB d false t u λe v=>wg e true (W.faddr 4 c) v λw h=>wg e true (wl w h) h λx y=>wg e true (W.len x) y λz A=>wg e true (wb .gtr 3 z (.Xm 0)) A λB C=>wg d false (W.pick e B (.bool false)) C λD E=>W.pick d (.bool true) D λa=>wg a false (W.faddr 4 c) E λF i=>wg a false (wl F i) i λG H=>wg a false (W.len G) H λI J=>wg a false (wb .eql 3 I (.Xm 1)) J λM N=>bB a false M N λb O=>wg b true (W.faddr 4 c) O λP j=>wg b true (wl P j) j λS k=>wg b true (W.idx 4 S (.Xm 0) k) k λT l=>wg b true (bZ 4 T l) l λU m=>W.grd b true (λV=>wc (.fn 143 []) [U] m λX Y=>V X Y) m λZ a0=>wg b true (W.un .not Z) a0 λa1 a2=>wg a false (W.pick b a1 (.bool false)) a2 λa3 n=>W.pick a (.bool true) a3 λa4=>wk a4 (Q (.bool false) n) ((fj Q n c))
def fm(Q:R)(e:SH)(b:AV):Prop:=aA 0 b e λk=>wb .eql 3 k (.Xm 15) λc=>wg c true (W.faddr 3 b) e λl f=>wg c true (wl l f) f λm g=>W.grd c true (λn=>wc (.fn 86 []) [m] g λo p=>n o p) g λq r=>wg c true (W.un .not q) r λs t=>W.pick c s (.bool false) λa=>wg a false (W.faddr 0 b) t λu h=>wg a false (wl u h) h λv w=>wg a false (wb .neq 3 v (.Xm 15)) w λx y=>bB a false x y λd z=>wg d true (W.faddr 3 b) z λA i=>wg d true (wl A i) i λB C=>wg d true (wb .neq 9 B (.str [])) C λD E=>wg a false (W.pick d D (.bool false)) E λF j=>W.pick a (.bool true) F λG=>wk G (Q (.bool false) j) ((fk Q j b))
def fo(Q:R)(h:SH)(a:AV):Prop:=aA 0 a h λp=>wb .eql 3 p (.Xm 2) λe=>wg e false (W.faddr 0 a) h λq i=>wg e false (wl q i) i λr s=>wg e false (wb .eql 3 r (.Xm 3)) s λt u=>W.pick e (.bool true) t λf=>wg f false (W.faddr 0 a) u λv j=>wg f false (wl v j) j λw x=>wg f false (wb .eql 3 w (.Xm 7)) x λy z=>W.pick f (.bool true) y λg=>wg g false (W.faddr 0 a) z λA k=>wg g false (wl A k) k λB C=>wg g false (wb .eql 3 B (.Xm 8)) C λD E=>W.pick g (.bool true) D λb=>wg b true (W.faddr 2 a) E λF l=>wg b true (wl F l) l λG H=>wg b true (wb .neq 9 G (.str [])) H λI J=>W.pick b I (.bool false) λc=>bB c false b J λM N=>wg c false (W.un .not M) N λO P=>bB c false O P λd S=>wg d true (W.faddr 2 a) S λT m=>wg d true (wl T m) m λU n=>W.grd d true (λV=>wc (.fn 86 []) [U] n λX Y=>V X Y) n λZ a0=>wg d true (W.un .not Z) a0 λa1 a2=>wg c false (W.pick d a1 (.bool false)) a2 λa3 o=>W.pick c (.bool true) a3 λa4=>wk a4 (Q (.bool false) o) ((fm Q o a))
def jB(f:AV)(L:SH)(Q:R):Prop:=su f L λb c=>aA 0 b c λg=>wb .lss 3 g (.Xm 1) λa=>wg a false (W.faddr 0 b) c λh d=>wg a false (wl h d) d λi j=>wg a false (wb .gtr 3 i (.Xm 15)) j λk e=>W.pick a (.bool true) k λl=>wk l (Q (.bool false) e) ((fo Q e b))
theorem qT(t0:AV)(L:SH)(Q:R)(h:jB t0 L Q):af Tryz.prog 121 [t0] L Q:=
 fs [] [] [(0,[1])] [] Tryz.func121 h
def pK(Q:R)(b:Kn)(c d e:AV)(a:SH):Prop:=W.un .not e λf=>wk f (Q (.bool false) a) (wb .add 3 c (.Xm 1) λg=>b [d,g] a)
def ik(Q:R)(d:Vs)(a:SH)(e:Kn):Prop:=Py 0 3 d λb c=>W.len b λf=>wb .lss 3 c f λg=>wk g (lD 11 b c a λh=>wc (.fn 121 []) [h] a (pK Q e c b)) (Q (.bool true) a)
def iM(a:AV)(L:SH)(Q:R):Prop:=W.loop (ik Q) [a,(.Xm 0)] L
theorem pL(t0:AV)(L:SH)(Q:R)(h:iM t0 L Q):af Tryz.prog 87 [t0] L Q:=
 fs [] [(2,[0,3])] [] [] Tryz.func87 h
def fp(Q:R)(e:SH)(b:AV):Prop:=aA 4 b e λi=>wb .gtr 2 i (.Xm (-9223372036854775808)) λa=>wg a true (W.faddr 4 b) e λj f=>wg a true (wl j f) f λk l=>wg a true (wb .eql 2 k (.Xm 0)) l λm n=>bB a true m n λc o=>wg c false (W.faddr 0 b) o λp g=>wg c false (wl p g) g λq r=>wg c false (wb .eql 3 q (.Xm 1)) r λs t=>wg a true (W.pick c (.bool true) s) t λu v=>bB a true u v λd w=>wg d false (W.faddr 0 b) w λx h=>wg d false (wl x h) h λy z=>wg d false (wb .eql 3 y (.Xm 2)) z λA B=>wg a true (W.pick d (.bool true) A) B λC D=>W.pick a C (.bool false) λE=>Q E D
def fq(Q:R)(e:SH)(b:AV):Prop:=aA 0 b e λk=>wb .eql 3 k (.Xm 5) λc=>wg c true (W.faddr 5 b) e λl f=>wg c true (wl l f) f λm g=>W.grd c true (λn=>wc (.fn 86 []) [m] g λo p=>n o p) g λq r=>wg c true (W.un .not q) r λs t=>W.pick c s (.bool false) λa=>wg a false (W.faddr 0 b) t λu h=>wg a false (wl u h) h λv w=>wg a false (wb .neq 3 v (.Xm 5)) w λx y=>bB a false x y λd z=>wg d true (W.faddr 5 b) z λA i=>wg d true (wl A i) i λB C=>wg d true (wb .neq 9 B (.str [])) C λD E=>wg a false (W.pick d D (.bool false)) E λF j=>W.pick a (.bool true) F λG=>wk G (Q (.bool false) j) ((fp Q j b))
def jC(o:AV)(L:SH)(Q:R):Prop:=su o L λa g=>aA 0 a g λp=>wb .lss 3 p (.Xm 1) λd=>wg d false (W.faddr 0 a) g λq h=>wg d false (wl q h) h λr s=>wg d false (wb .gtr 3 r (.Xm 6)) s λt u=>W.pick d (.bool true) t λc=>wg c false (W.faddr 2 a) u λv i=>wg c false (wl v i) i λw j=>W.grd c false (λx=>wc (.fn 86 []) [w] j λy z=>x y z) j λA B=>wg c false (W.un .not A) B λC D=>W.pick c (.bool true) C λe=>wg e false (W.faddr 3 a) D λE k=>wg e false (wl E k) k λF G=>wg e false (wb .lss 3 F (.Xm 0)) G λH I=>W.pick e (.bool true) H λb=>wg b false (W.faddr 0 a) I λJ l=>wg b false (wl J l) l λM N=>wg b false (wb .neq 3 M (.Xm 1)) N λO P=>bB b false O P λf S=>wg f true (W.faddr 3 a) S λT m=>wg f true (wl T m) m λU V=>wg f true (wb .neq 3 U (.Xm 0)) V λX Y=>wg b false (W.pick f X (.bool false)) Y λZ n=>W.pick b (.bool true) Z λa0=>wk a0 (Q (.bool false) n) ((fq Q n a))
theorem qU(t0:AV)(L:SH)(Q:R)(h:jC t0 L Q):af Tryz.prog 85 [t0] L Q:=
 fs [] [] [(0,[1])] [] Tryz.func85 h
def B0(Q:R)(b:Kn)(c d e:AV)(a:SH):Prop:=W.un .not e λf=>wk f (Q (.bool false) a) (wb .add 3 c (.Xm 1) λg=>b [d,g] a)
def B1(Q:R)(b:Kn)(c d e f g:AV)(a:SH):Prop:=W.un .not g λh=>wk h (Q (.bool false) a) (wb .add 3 c (.Xm 1) λi=>b [d,e,f,i] a)
def B2(Q:R)(e:Kn)(f g h i:AV)(j:SH):Prop:=W.un .not i λa=>wg a false (W.faddr 3 f) j λk b=>wg a false (wl k b) b λl c=>W.grd a false (λm=>wc (.fn 87 []) [l] c λn o=>m n o) c λp q=>wg a false (W.un .not p) q λr d=>W.pick a (.bool true) r λs=>wk s (Q (.bool false) d) (wb .add 3 g (.Xm 1) λt=>e [h,t] d)
def nF(Q:R)(f:Kn)(g:Vs)(a:SH)(h:Kn):Prop:=yX 1 4 5 6 g λd e b c=>aA 2 b a λi=>W.len i λj=>wb .lss 3 c j λk=>wk k (aA 2 b a λl=>wJ 1 l c a λm=>wc (.fn 86 []) [m] a (B1 Q h c d e b)) (aA 0 b a λn=>wc (.fn 86 []) [n] a (B2 Q f b e d))
def B3(Q:R)(d:Kn)(a:SH)(b c:AV):Prop:=aA 1 b a λe=>lD 4 e c a λf=>qv [(.str []),(.Xm 0),.nils,.nils] 4 f a λg h=>W.loop (nF Q d) [b,c,g,(.Xm 0)] h
def nG(Q:R)(d:Vs)(a:SH)(e:Kn):Prop:=Py 1 4 d λb c=>aA 1 b a λf=>W.len f λg=>wb .lss 3 c g λh=>wk h ((B3 Q e a b c)) (aA 1 b a λi=>W.len i λj=>wb .gtr 3 j (.Xm 0) λk=>Q k a)
def nH(Q:R)(d:Vs)(a:SH)(e:Kn):Prop:=Py 1 3 d λb c=>aA 0 b a λf=>W.len f λg=>wb .lss 3 c g λh=>wk h (aA 0 b a λi=>lD 6 i c a λj=>wc (.fn 85 []) [j] a (B0 Q e c b)) (W.loop (nG Q) [b,(.Xm 0)] a)
def pM(a:AV)(L:SH)(Q:R):Prop:=su a L λb c=>W.loop (nH Q) [b,(.Xm 0)] c
theorem B4(t0:AV)(L:SH)(Q:R)(h:pM t0 L Q):af Tryz.prog 54 [t0] L Q:=
 fs [] [(2,[1,3]),(11,[1,4,5,6]),(7,[1,4])] [(0,[1]),(9,[5])] [] Tryz.func54 h
def fO(Q:R)(e:Vs)(a:SH)(f:Kn):Prop:=vY 0 1 5 e λc d b=>W.len c λg=>wb .lss 3 b g λh=>wk h (wJ 1 c b a λi=>wb .eql 9 i d λj=>wk j (Q b a) (wb .add 3 b (.Xm 1) λk=>f [c,d,k] a)) (Q (.Xm (-1)) a)
def m4(a b:AV)(L:SH)(Q:R):Prop:=W.loop (fO Q) [a,b,(.Xm 0)] L
theorem pN(t0 t1:AV)(L:SH)(Q:R)(h:m4 t0 t1 L Q):af Tryz.prog 90 [t0,t1] L Q:=
 fs [] [(2,[0,1,5])] [] [] Tryz.func90 h
def nI(Q:R)(e:Vs)(a:SH)(f:Kn):Prop:=vY 0 1 5 e λc d b=>W.len c λg=>wb .lss 3 b g λh=>wk h (fe 6 2 c b a λi=>wb .eql 9 i d λj=>wk j (Q b a) (wb .add 3 b (.Xm 1) λk=>f [c,d,k] a)) (Q (.Xm (-1)) a)
def pO(a b:AV)(L:SH)(Q:R):Prop:=W.loop (nI Q) [a,b,(.Xm 0)] L
theorem B5(t0 t1:AV)(L:SH)(Q:R)(h:pO t0 t1 L Q):af Tryz.prog 88 [t0,t1] L Q:=
 fs [] [(2,[0,1,5])] [] [] Tryz.func88 h
def kB(Q:R)(e:Vs)(a:SH)(f:Kn):Prop:=vY 0 1 5 e λc d b=>W.len c λg=>wb .lss 3 b g λh=>wk h (fe 4 0 c b a λi=>wb .eql 9 i d λj=>wk j (Q b a) (wb .add 3 b (.Xm 1) λk=>f [c,d,k] a)) (Q (.Xm (-1)) a)
def l5(a b:AV)(L:SH)(Q:R):Prop:=W.loop (kB Q) [a,b,(.Xm 0)] L
theorem xM(t0 t1:AV)(L:SH)(Q:R)(h:l5 t0 t1 L Q):af Tryz.prog 89 [t0,t1] L Q:=
 fs [] [(2,[0,1,5])] [] [] Tryz.func89 h
def B6(Q:R)(b:AV)(a:SH):Prop:=wb .geq 3 b (.Xm 0) λc=>wk c (Q (.Xm 7) a) (Q (.Xm 0) a)
def B7(Q:R)(b:Vs)(a:SH):Prop:=vY 3 7 56 b λc d e=>wk e (aA 0 c a λf=>fe 6 0 f d a λg=>Q g a) (Q (.Xm 9) a)
def B8(a:Kn)(b:SH)(c d e:AV):Prop:=wb .eql 3 c (.Xm 4) λf=>wk f (a [d,e,f] b) (wb .eql 3 c (.Xm 5) λg=>wk g (a [d,e,g] b) (wb .eql 3 c (.Xm 6) λh=>a [d,e,h] b))
def B9(Q:R)(a:SH)(b c d:AV):Prop:=wb .eql 3 b (.Xm 2) λg=>wk g (Q (.Xm 1) a) (W.join (B7 Q) λe=>wb .eql 3 b (.Xm 3) λf=>wk f (e [c,d,f] a) ((B8 e a b c d)))
def Ca(Q:R)(a:SH)(b c:AV):Prop:=aA 0 b a λe=>fe 6 0 e c a λd=>wb .eql 3 d (.Xm 1) λf=>wk f (aA 0 b a λg=>fe 6 3 g c a λh=>wb .neq 3 h (.Xm 0) λi=>wk i (Q (.Xm 2) a) (Q (.Xm 1) a)) ((B9 Q a d b c))
def Cb(Q:R)(d b c:AV)(a:SH):Prop:=wb .lss 3 c (.Xm 0) λe=>wk e (aA 1 b a λf=>wc (.fn 89 []) [f,d] a (B6 Q)) ((Ca Q a b c))
def pP(l d e:AV)(L:SH)(Q:R):Prop:=su l L λc m=>wb .geq 3 d (.Xm 0) λb=>bB b true d m λn o=>wg b true (W.faddr 1 c) o λp g=>wg b true (wl p g) g λq r=>wg b true (W.len q) r λs t=>wg b true (wb .lss 3 n s) t λu v=>W.pick b u (.bool false) λa=>wg a true (W.faddr 1 c) v λw h=>wg a true (wl w h) h λx y=>bB a true d y λz i=>wg a true (W.idx 4 x z i) i λA B=>wg a true (W.faddr 2 A) B λC j=>wg a true (wl C j) j λD E=>bB a true e E λF k=>W.grd a true (λG=>wc (.fn 90 []) [D,F] k λH I=>G H I) k λJ M=>wg a true (wb .geq 3 J (.Xm 0)) M λN f=>W.pick a N (.bool false) λO=>wk O (Q (.Xm 8) f) (aA 0 c f λP=>wc (.fn 88 []) [P,e] f (Cb Q e c))
theorem Cc(t0 t1 t2:AV)(L:SH)(Q:R)(h:pP t0 t1 t2 L Q):af Tryz.prog 145 [t0,t1,t2] L Q:=
 fs [(18,[3,7,56])] [] [(0,[3])] [] Tryz.func145 h
def E6(Q:R)(d:SH)(e f b:AV):Prop:=wb .neq 3 b e λa=>bB a true b d λg h=>bB a true f h λi j=>wg a true (wb .neq 3 g i) j λk c=>W.pick a k (.bool false) λl=>wk l (Q (.Xm 6) c) (Q (.Xm 0) c)
def E7(Q:R)(c d a:AV)(b:SH):Prop:=wb .eql 3 a (.Xm 0) λe=>wk e (Q (.Xm 5) b) ((E6 Q b c d a))
def m5(b c d e f:AV)(L:SH)(Q:R):Prop:=su b L λg a=>bZ 2 g a λh=>wc (.fn 145 []) [h,c,d] a (E7 Q e f)
theorem sE(t0 t1 t2 t3 t4:AV)(L:SH)(Q:R)(h:m5 t0 t1 t2 t3 t4 L Q):af Tryz.prog 124 [t0,t1,t2,t3,t4] L Q:=
 fs [] [] [(0,[5])] [] Tryz.func124 h
def DE(b:Kn)(c d e f a:AV)(g:SH):Prop:=W.ext 0 a λh=>W.ext 1 a λi=>wb .add 3 c h λj=>W.mnx true d i λk=>wb .add 3 e (.Xm 1) λl=>b [f,j,k,l] g
def pQ(Q:R)(f:Vs)(a:SH)(g:Kn):Prop:=yX 1 4 5 6 f λb d e c=>aA 3 b a λh=>W.len h λi=>wb .lss 3 c i λj=>wk j (aA 3 b a λk=>lD 4 k c a λl=>wc (.fn 146 []) [l] a (DE g d e c b)) (wb .add 3 e (.Xm 1) λm=>Q (.tup [d,m]) a)
def sF(a:AV)(L:SH)(Q:R):Prop:=su a L λb c=>W.loop (pQ Q) [b,(.Xm 1),(.Xm 0),(.Xm 0)] c
theorem DF(t0:AV)(L:SH)(Q:R)(h:sF t0 L Q):af Tryz.prog 146 [t0] L Q:=
 fs [] [(3,[1,4,5,6])] [(0,[1])] [] Tryz.func146 h
def DG(a:Kn)(b:SH)(c d e f g:AV)(h:SH)(i:Ns):Prop:=wn [] i [] b.names λk=>wb .add 3 c (.Xm 1) λj=>a [d,e,f,g,j] h
def DH(g:Kn)(a:SH)(c d e f:AV):Prop:=(true=true)∧(dr [] 0 2 c a λh b=>aM 3 d [rm 0 b] 3 a λi l=>di [rm 0 b] 5 4 i e a λj m=>dr [rm 0 b] 6 4 j a λk n=>wd [] 7 (.fn 147 []) [h,f,k] a (DG g a e f c d))
def pR(Q:R)(g:Vs)(b:SH)(h:Kn):Prop:=GC 1 3 5 7 8 g λi j c d e=>aA 3 c b λk=>W.len k λl=>wb .lss 3 e l λa=>bB a true d b λm n=>wg a true (wb .eql 74 m (.Xm 0)) n λo f=>W.pick a o (.bool false) λp=>wk p ((DH h f j c e i)) (Q d f)
def jD(Q:R)(a:Vs)(b:SH):Prop:=yX 1 3 5 7 a λc d e f=>W.loop (pR Q) [c,d,e,f,(.Xm 0)] b
def DI(e:Kn)(a:SH)(b f c d:AV):Prop:=wb .eql 3 f (.Xm 3) λg=>wk g (bZ 2 c a λh=>aA 2 d a λi=>wc (.fn 124 []) [h,b,i,(.Xm 2),(.Xm 2)] a λj k=>e [b,c,d,j] k) (e [b,c,d,(.Xm 0)] a)
def sG(g c h:AV)(L:SH)(Q:R):Prop:=W.box g L λi j=>W.box h j λk l=>W.frz1 i l λd m=>W.frz1 k m λb a=>W.join (jD Q) λe=>aA 0 b a λf=>wb .eql 3 f (.Xm 2) λn=>wk n (bZ 2 d a λo=>aA 2 b a λp=>wc (.fn 124 []) [o,c,p,(.Xm 8),(.Xm 1)] a λq r=>e [c,d,b,q] r) ((DI e a c f d b))
theorem DJ(t0 t1 t2:AV)(L:SH)(Q:R)(h:sG t0 t1 t2 L Q):af Tryz.prog 147 [t0,t1,t2] L Q:=
 fs [(6,[1,3,5,7])] [(8,[1,3,5,7,8])] [(0,[3,5])] [(10,[0,0,0,4,0,28,60,127,255])] Tryz.func147 h
def E8(Q:R)(d e f c:AV)(g:SH):Prop:=W.ext 0 c λh=>W.ext 1 c λi=>wb .gtr 3 h (.Xm 24) λb=>bB b false i g λj k=>wg b false (wb .gtr 3 j (.Xm 6)) k λl a=>W.pick b (.bool true) l λm=>wk m (Q (.Xm 2) a) (bZ 2 e a λn=>bZ 4 f a λo=>wc (.fn 147 []) [n,d,o] a λp q=>Q p q)
def E9(Q:R)(c b d e:AV)(a:SH):Prop:=W.un .not e λf=>wk f (Q (.Xm 3) a) (bZ 4 b a λg=>wc (.fn 146 []) [g] a (E8 Q c d b))
def xN(c d e:AV)(L:SH)(Q:R):Prop:=W.box c L λf g=>W.box e g λh i=>W.frz1 f i λj k=>W.frz1 h k λa b=>bZ 4 a b λl=>wc (.fn 143 []) [l] b (E9 Q d a j)
theorem Fa(t0 t1 t2:AV)(L:SH)(Q:R)(h:xN t0 t1 t2 L Q):af Tryz.prog 125 [t0,t1,t2] L Q:=
 fs [] [] [(0,[3,5])] [] Tryz.func125 h
def nJ(a:AV)(L:SH)(Q:R):Prop:=wk a (Q (.Xm 7) L) (Q (.Xm 0) L)
theorem z7(t0:AV)(L:SH)(Q:R)(h:nJ t0 L Q):af Tryz.prog 126 [t0] L Q:=
 fs [] [] [] [] Tryz.func126 h
def DK(a b:AV)(L:SH)(Q:R):Prop:=wb .neq 74 a (.Xm 0) λc=>wk c (Q a L) (Q b L)
theorem ID(t0 t1:AV)(L:SH)(Q:R)(h:DK t0 t1 L Q):af Tryz.prog 123 [t0,t1] L Q:=
 fs [] [] [] [] Tryz.func123 h
def DL(a:Kn)(b:SH)(c d e f:AV)(g:SH)(h:Ns):Prop:=wn [] h [] b.names λk=>wb .add 3 c f λi=>wb .add 3 d (.Xm 1) λj=>a [e,i,j] g
def DM(g:Kn)(h:SH)(i b c:AV)(d e:Fp)(j:AV)(a:SH)(k:Ns):Prop:=wn [] k [] h.names λf=>wb .add 3 i j λl=>di [rc 6 f,rm 5 d,rm 3 e] 10 11 b c a λm o=>aM 10 m [rc 6 f,rm 5 d,rm 3 e] 12 a λn p=>wd [] 13 (.fn 57 []) [n] a (DL g a l c b)
def pS(Q:R)(e:Vs)(a:SH)(f:Kn):Prop:=vY 0 3 4 e λb d c=>W.len b λg=>wb .lss 3 c g λh=>wk h ((true=true)∧(di [] 3 11 b c a λi j=>aM 9 i [] 5 a λk l=>wd [] 6 (.fn 57 []) [k] a (DM f a d b c l j))) (Q d a)
def sH(a:AV)(L:SH)(Q:R):Prop:=W.len a λb=>W.loop (pS Q) [a,b,(.Xm 0)] L
theorem DN(t0:AV)(L:SH)(Q:R)(h:sH t0 L Q):af Tryz.prog 57 [t0] L Q:=
 fs [] [(3,[0,3,4])] [] [(5,[0,0,0,6,14,30,62,127,0,0,768,1792,3840,8062,16383,32767])] Tryz.func57 h
end
section
set_option maxRecDepth 100000
def gg(c:Int):Bool:=(decide (97≤c)&&decide (c≤122))||(decide (65≤c)&&decide (c≤90))
def z8(c:Int):Bool:=decide (48≤c)&&decide (c≤57)
def gU(c:Int):Bool:=gg c||z8 c||decide (c=95)
theorem FY(c:Int):az Tryz.prog 118 [.int .u8 c] (.bool (gg c)):=by
 refine nE _ _ _ ?_;unfold jy
 repeat' (first|refine st ?_|refine sb λnb_ hnb_=>?_|refine s2 (λh=>?_) λh=>?_|fail)
 all_goals (refine⟨?_,rfl⟩;simp_all[gg]<;>omega)
theorem N7(c:Int):az Tryz.prog 142 [.int .u8 c] (.bool (z8 c)):=by
 refine pI _ _ _ ?_;unfold lx
 repeat' (first|refine st ?_|refine sb λnb_ hnb_=>?_|refine s2 (λh=>?_) λh=>?_|fail)
 all_goals (refine⟨?_,rfl⟩;simp_all[z8]<;>omega)
theorem N8(c:Int):az Tryz.prog 120 [.int .u8 c] (.bool (gU c)):=by
 refine pJ _ _ _ ?_;unfold ly
 repeat' (first|refine st ?_|(refine pf 118 ?_;refine pm (FY _) ?_)|(refine pf 142 ?_;refine pm (N7 _) ?_)|refine sb λnb_ hnb_=>?_|refine s2 (λh=>?_) λh=>?_|fail)
 all_goals (refine⟨?_,rfl⟩;simp_all[gU]<;>omega)
def nK:List aZ:=[[118,97,114],[118,111,108,97,116,105,108,101],[109,117,116,101,120],[114,119,108,111,99,107],[99,111,110,100],[102,117,116,117,114,101],[116,104,114,101,97,100],[105,102],[101,108,115,101],[119,104,105,108,101],[108,111,99,107],[114,101,97,100],[119,114,105,116,101],[116,114,97,110,115,97,99,116,105,111,110],[97,116,111,109,105,99],[119,97,105,116],[110,111,116,105,102,121],[110,111,116,105,102,121,97,108,108],[115,112,97,119,110],[106,111,105,110],[115,101,116],[103,101,116]]
theorem PO:az Tryz.prog 141 [] (.lst (nK.map au)):=by
 refine af.fz (kz _ _ ?_);unfold gT
 repeat' (first|refine st ?_|refine sb λnb_ hnb_=>?_|refine s2 (λh=>?_) λh=>?_|fail)
 exact⟨_,[],aJ.all (Fz.sls (l:=nK) (f:=au) rp rfl Xl rfl),rfl,rfl⟩
def GT(s:aZ):Bool:=nK.any λx=>decide (x=s)
theorem Si(s:aZ):az Tryz.prog 119 [.str s] (.bool (GT s)):=by
 refine jz _ _ _ ?_;unfold ge
 repeat' (first|refine st ?_|(refine pf 141 ?_;refine pm (PO) ?_)|refine sb λnb_ hnb_=>?_|refine s2 (λh=>?_) λh=>?_|fail)
 refine fw nK (λx=>decide (x=s)) (λi=>[.str s,.lst (nK.map au),.Xm i]) Xl rfl (λi h1 hd hi hno nx hn=>?_) (λi h1 hd hno nx=>?_)
 all_goals unfold fG
 ·have hx:=aw (f:=au) h1
  repeat' (first|refine st ?_|refine sb λnb_ hnb_=>?_|refine s2 (λh=>?_) λh=>?_|fail)
  ·exact⟨by rw[GT,K3 h1 h],rfl⟩
  ·exact hn h
 ·repeat' (first|refine st ?_|refine sb λnb_ hnb_=>?_|refine s2 (λh=>?_) λh=>?_|fail)
  exact⟨by rw[GT,Nx hno],rfl⟩
def eh(s:aZ):Bool:=decide (1≤(s.length:Int))&&decide ((s.length:Int)≤12)&&gg (s.getD 0 0).toNat&&!GT s&&s.all λc=>gU c.toNat
theorem LZ(s:aZ)(hs:s.length<2^62):az Tryz.prog 86 [.str s] (.bool (eh s)):=by
 refine iB _ _ _ ?_;unfold gf;generalize hQ:(λ(u:AV) (K:SH)=>u=AV.bool (eh s)∧K=[])=Q;have hq:Q (.bool (eh s)) []:=by subst hQ;exact⟨rfl,rfl⟩
 clear hQ;by_cases h0:0<s.length
 ·have d1:decide ((s.length:Int)<1)=false:=by simpa using(by omega:(1:Int)≤s.length)
  repeat' (first|refine st ?_|refine K4 (i:=0) ?_ h0|(refine pf 118 ?_;refine pm (FY _) ?_)|(refine pf 119 ?_;refine pm (Si _) ?_)|refine sb λnb_ hnb_=>?_|refine s2 (λh=>?_) λh=>?_|fail)
  all_goals first
   |(refine Eq.mp (congrArg (λb=>Q (AV.bool b) []) ?_) hq;simp_all[eh]<;>omega;done)
   |skip
  refine fw s (λc=>!gU c.toNat) (λi=>[.str s,.Xm i]) hs rfl (λi h1 hd hi hno nx hn=>?_) (λi h1 hd hno nx=>?_)
  all_goals unfold iA
  ·repeat' (first|refine st ?_|refine K4 ?_|(refine pf 120 ?_;refine pm (N8 _) ?_)|refine sb λnb_ hnb_=>?_|refine s2 (λh=>?_) λh=>?_|fail)
   ·refine Eq.mp (congrArg (λb=>Q (AV.bool b) []) ?_) hq;have:(s.all λc=>gU c.toNat)=false:=Ny h1 (by simpa[List.getD,h1]using h);simp[eh,this]
   ·exact hn (by simpa[List.getD,h1]using h)
  ·repeat' (first|refine st ?_|refine sb λnb_ hnb_=>?_|refine s2 (λh=>?_) λh=>?_|fail)
   refine Eq.mp (congrArg (λb=>Q (AV.bool b) []) ?_) hq;have:(s.all λc=>gU c.toNat)=true:=VR.2 λx hx=>by simpa using hno x hx
   simp_all[eh]<;>omega
 ·have d1:decide ((s.length:Int)<1)=true:=by simpa using(by omega:(s.length:Int)<1)
  repeat' (first|refine st ?_|refine sb λnb_ hnb_=>?_|refine s2 (λh=>?_) λh=>?_|fail)
  refine Eq.mp (congrArg (λb=>Q (AV.bool b) []) ?_) hq;simp_all[eh]
end
structure DO(c:aY)(l:List aY):Prop where
 lo:1≤c.size
 hi:c.size≤4
 fits:c.size≤l.length
 eq:∀k:Nat,(k:Int)<c.size→l[k]? =some ⟨c.name,k,c.size,false,c.init⟩
inductive dI:List aY→List aZ→Prop where
 |nil:dI [] []
 |one (c:aY) (l:List aY) (ns:List aZ):c.size=0→c.index=0→dI l ns→dI (c::l) (c.name::ns)
 |arr (c:aY) (l:List aY) (ns:List aZ):c.size≠0→DO c (c::l)→dI (l.drop (c.size.toNat-1)) ns→dI (c::l) (c.name::ns)
theorem dI.nil_iff{ns:List aZ}:dI [] ns↔ns=[]:=⟨λh=>by cases h;rfl,λh=>by subst h;exact .nil⟩
theorem dI.one_iff{c:aY}{l:List aY}{ns:List aZ}(h0:c.size=0):dI (c::l) ns↔c.index=0∧∃n2,ns=c.name::n2∧dI l n2:=by
 constructor
 ·intro h;cases h with
  |one _ _ n2 _ h2 h3=>exact⟨h2,n2,rfl,h3⟩
  |arr _ _ n2 h1=>exact absurd h0 h1
 ·rintro⟨h2,n2,rfl,h3⟩;exact .one _ _ _ h0 h2 h3
theorem dI.arr_iff{c:aY}{l:List aY}{ns:List aZ}(h0:c.size≠0):dI (c::l) ns↔DO c (c::l)∧∃n2,ns=c.name::n2∧dI (l.drop (c.size.toNat-1)) n2:=by
 constructor
 ·intro h;cases h with
  |one _ _ n2 h1=>exact absurd h1 h0
  |arr _ _ n2 _ h2 h3=>exact⟨h2,n2,rfl,h3⟩
 ·rintro⟨h2,n2,rfl,h3⟩;exact .arr _ _ _ h0 h2 h3
def gE(l:List aY)(i:Nat)(acc:List aZ):Prop:=i≤l.length∧acc.length≤i∧∀ns,dI l ns↔∃n2,ns=acc++n2∧dI (l.drop i) n2
theorem gE.zero(l:List aY):gE l 0 []:=⟨We _,VC _,λns=>by simp⟩
theorem gE.step{l:List aY}{i:Nat}{acc:List aZ}(h:gE l i acc)(hi:i<l.length)(h0:l[i].size=0)(h1:l[i].index=0):gE l (i+1) (acc++[l[i].name]):=by
 refine⟨hi,by have:=h.2.1;simp;omega,λns=>?_⟩;rw[h.2.2 ns,WW hi];constructor
 ·rintro⟨n2,rfl,h2⟩;obtain⟨_,n3,rfl,h3⟩:=(dI.one_iff h0).1 h2;exact⟨n3,Xk,h3⟩
 ·rintro⟨n3,rfl,h3⟩;exact⟨l[i].name::n3,Xk,(dI.one_iff h0).2 ⟨h1,n3,rfl,h3⟩⟩
theorem gE.jump{l:List aY}{i:Nat}{acc:List aZ}(h:gE l i acc)(hi:i<l.length)(h0:l[i].size≠0)(hb:DO l[i] (l.drop i)):gE l (i+l[i].size.toNat) (acc++[l[i].name]):=by
 have hl:=hb.lo;have hf:=hb.fits;rw[W7]at hf;refine⟨Xh,by have:=h.2.1;simp;omega,λns=>?_⟩;rw[h.2.2 ns];rw[WW hi]at hb ⊢;have e:(l.drop (i+1)).drop (l[i].size.toNat-1)=l.drop (i+l[i].size.toNat):=by rw[List.drop_drop];congr 1;omega
 constructor
 ·rintro⟨n2,rfl,h2⟩;obtain⟨_,n3,rfl,h3⟩:=(dI.arr_iff h0).1 h2;exact⟨n3,Xk,e▸h3⟩
 ·rintro⟨n3,rfl,h3⟩;exact⟨l[i].name::n3,Xk,(dI.arr_iff h0).2 ⟨hb,n3,rfl,e▸h3⟩⟩
theorem gE.done{l:List aY}{i:Nat}{acc:List aZ}(h:gE l i acc)(hi:l.length≤i):dI l acc:=by rw[h.2.2 acc,List.drop_eq_nil_of_le hi];exact⟨[],Xk,.nil⟩
theorem gE.no1{l:List aY}{i:Nat}{acc:List aZ}(h:gE l i acc)(hi:i<l.length)(h0:l[i].size=0)(h1:l[i].index≠0):∀ns,¬dI l ns:=λns hn=>by rw[h.2.2 ns,WW hi]at hn;obtain⟨n2,_,h2⟩:=hn;exact h1 ((dI.one_iff h0).1 h2).1
theorem gE.no2{l:List aY}{i:Nat}{acc:List aZ}(h:gE l i acc)(hi:i<l.length)(h0:l[i].size≠0)(hb:¬DO l[i] (l.drop i)):∀ns,¬dI l ns:=λns hn=>by rw[h.2.2 ns]at hn;rw[WW hi]at hn hb;obtain⟨n2,_,h2⟩:=hn;exact hb ((dI.arr_iff h0).1 h2).1
theorem dI.uniq{l:List aY}{a b:List aZ}(h:dI l a):dI l b→a=b:=by
 induction h generalizing b with
 |nil=>intro h2;rw[dI.nil_iff.1 h2]
 |one c l ns h0 h1 _ ih=>intro h2;obtain⟨_,n2,rfl,h3⟩:=(dI.one_iff h0).1 h2;rw[ih h3]
 |arr c l ns h0 h1 _ ih=>intro h2;obtain⟨_,n2,rfl,h3⟩:=(dI.arr_iff h0).1 h2;rw[ih h3]
theorem dI.len{l:List aY}{a:List aZ}(h:dI l a):a.length≤l.length:=by
 induction h with
 |nil=>exact VC _
 |one c l ns h0 h1 _ ih=>simpa using ih
 |arr c l ns h0 h1 _ ih=>rw[W7]at ih;simp only[VZ];omega
def nL(w:aH)(ns:List aZ):List aZ:=ns++w.locks.map ca.name++w.conds.map cP.name++w.futures++w.threads
def Fb(n:Nat):Int→Int→List cM→Prop
 |_,_,[]=>True
 |t,x,s::l=>t≤s.thread∧s.thread<n∧s.stmt=(if t<s.thread then 0 else x)∧Fb n s.thread (s.stmt+1) l
structure IE(w:aH):Prop where
 c12:w.cells.length≤12
 l4:w.locks.length≤4
 d2:w.conds.length≤2
 f2:w.futures.length≤2
 s60:w.sites.length≤60
 t1:1≤w.threads.length
 t4:w.threads.length≤4
 names:∃ns,dI w.cells ns∧(∀s∈nL w ns,eh s=true)∧(nL w ns).Nodup
 mtx:∀c∈w.conds,Il w c.mutex false=true
 sites:Fb w.threads.length 0 0 w.sites
section
set_option maxRecDepth 100000
set_option maxHeartbeats 1000000
theorem DP{α:Type}(S:α→List AV×SH)(m:α→Nat)(G:α→Prop){B:List AV→SH→W.Kn→Prop}{vs:List AV}{L:SH}(a0:α)(h0:G a0)(hz:aJ vs L (S a0).1 (S a0).2)
  (h:∀a,G a→∀nx:W.Kn,(∀a',G a'→m a'<m a→∀vs' L',aJ vs' L' (S a').1 (S a').2→nx vs' L')→B (S a).1 (S a).2 nx):W.loop B vs L:=by
 refine⟨λn vs L=>∃a,G a∧m a=n∧vs=(S a).1∧L=(S a).2,⟨m a0,_,_,hz,a0,h0,rfl,rfl,rfl⟩,?_⟩;rintro n vs L ⟨a,ha,rfl,rfl,rfl⟩;exact h a ha _ λa' g1 g2 vs' L' g3=>⟨m a',_,_,g2,g3,a',g1,rfl,rfl,rfl⟩
theorem PP{K:AV→Prop}(x y:aY)(h:K (.bool (mZ (x≠y)))):W.bin Tryz.prog Fl .neq 126 (.agg x.enc) (.agg y.enc) K:=by
 rw[fb];refine⟨.bool (mZ (x≠y)),?_,h⟩;have hF:Fl 126=some [9,3,3,4,2]:=by kernel_rfl
 have hi:Tryz.prog.underlying 3=some (.int .i64):=by kernel_rfl
 have hj:Tryz.prog.underlying 2=some (.int .i64):=by kernel_rfl
 have hb:Tryz.prog.underlying 4=some .bool:=by kernel_rfl
 have hs:Tryz.prog.underlying 9=some .string:=by kernel_rfl
 obtain⟨a1,a2,a3,a4,a5⟩:=x;obtain⟨b1,b2,b3,b4,b5⟩:=y;have he:mZ ((⟨a1,a2,a3,a4,a5⟩:aY)≠⟨b1,b2,b3,b4,b5⟩)=!(decide (a1=b1)&&decide (a2=b2)&&decide (a3=b3)&&decide (a4=b4)&&decide (a5=b5)):=by
  cases hd:(decide (a1=b1)&&decide (a2=b2)&&decide (a3=b3)&&decide (a4=b4)&&decide (a5=b5))with
  |true=>exact jw λhh=>hh (by simpa[and_assoc]using hd)
  |false=>
   refine kv λhh=>?_
   rw[aY.mk.injEq]at hh;obtain⟨h1,h2,h3,h4,h5⟩:=hh;simp[h1,h2,h3,h4,h5]at hd
 rw[he];simp only[hM,aY.enc,hF,Wp,Ga,AS,hi,hj,hb,hs,if_true];by_cases h1:a1=b1<;>by_cases h2:a2=b2<;>by_cases h3:a3=b3<;>by_cases h4:a4=b4<;>by_cases h5:a5=b5<;>simp[h1,h2,h3,h4,h5]
theorem L4{K:AV→Prop}(x y:aY)(h:K (.bool (mZ (x≠y)))):wb .neq 126 (.agg x.enc) (.agg y.enc) K:=mK (PP x y h)
section
variable {l:List aY} {Q:R} {nm:aZ} {sz ini:Int} {i nb bs bw:Nat} {n1:W.Kn} (hl:l.length≤12) (h1:1≤sz) (h4:sz≤4) (hf:sz≤(l.length-i:Nat))
 (hno:¬DO ⟨nm,0,sz,false,ini⟩ (l.drop i)→∀L,Q (.tup [.nils,.bool false]) L) (x:AV) (X Y:Blk)
 (hgo:DO ⟨nm,0,sz,false,ini⟩ (l.drop i)→∀ix,n1 [.lst (l.map aY.enc),x,.Xm ((i+sz.toNat:Nat):Int)] [(nb,X),(bs,Y),(bw,⟨5,[[.str nm,.Xm ix,.Xm sz,.bool false,.Xm ini]]⟩)])
include hl h1 h4 hf hno hgo
theorem Uk(ix:Int):W.loop (dW Q n1) [.lst (l.map aY.enc),x,.Xm (i:Int),.ptr bw 0 0,.Xm sz,.Xm 0] [(nb,X),(bs,Y),(bw,⟨5,[[.str nm,.Xm ix,.Xm sz,.bool false,.Xm ini]]⟩)]:=by
 obtain⟨m,rfl⟩:=Int.eq_ofNat_of_zero_le (show 0≤sz by omega);refine DP (α:=Nat×Int) (λa=>([.lst (l.map aY.enc),x,.Xm (i:Int),.ptr bw 0 0,.Xm (m:Int),.Xm (a.1:Int)],[(nb,X),(bs,Y),(bw,⟨5,[[.str nm,.Xm a.2,.Xm (m:Int),.bool false,.Xm ini]]⟩)])) (λa=>m-a.1) (λa=>a.1≤m∧∀j,j<a.1→l[i+j]? =some ⟨nm,j,m,false,ini⟩) (0,ix) ⟨Nat.zero_le _,λj h=>absurd h (Nat.not_lt_zero _)⟩ (.refl _ _) ?_;rintro⟨k,y⟩ ⟨hk,hG⟩ nx hnx;unfold dW;dsimp only at *;rcases Nat.lt_or_ge k m with h|h
 ·have d1:decide ((k:Int)<(m:Int))=true:=bF h;have hw1:IntKind.i64.wrap ((k:Int)+1)=((k+1:Nat):Int):=aE h Xh;have hw2:IntKind.i64.wrap ((i:Int)+(k:Int))=((i+k:Nat):Int):=by rw[Wr _ Xh];omega
  have hik:i+k<l.length:=by omega
  have hx:=aw (f:=aY.enc) hik;have hxe:l[i+k]? =some l[i+k]:=VB hik;generalize l[i+k]=c at hx hxe;have hne:mZ (c≠⟨nm,k,m,false,ini⟩)=true→∀L,Q (.tup [.nils,.bool false]) L:=λhd=>hno λhb=>by have h2:=hb.eq k (by show(k:Int)<(m:Int);omega);rw[Ws,hxe]at h2;cases h2;exact ky.1 hd rfl
  have hye:mZ (c≠⟨nm,k,m,false,ini⟩)=false→∀j,j<k+1→l[i+j]? =some ⟨nm,j,m,false,ini⟩:=λhd j hj=>by
   rcases VG j k with g|g
   ·exact hG j g
   ·have e:j=k:=by omega
    subst e;rw[hxe];by_cases hc:c=⟨nm,j,m,false,ini⟩
    ·rw[hc]
    ·rw[kv hc]at hd;cases hd
  repeat' (first|refine st ?_|refine L4 c ⟨nm,k,m,false,ini⟩ ?_|refine sb λnb_ hnb_=>?_|refine s2 (λh=>?_) λh=>?_|fail)
  ·exact hne Xi _
  ·exact hnx (k+1,k) ⟨by dsimp only;omega,hye Xi⟩ (by dsimp only;omega) _ _ (.refl _ _)
 ·have d1:decide ((k:Int)<(m:Int))=false:=bI h;have hw2:IntKind.i64.wrap ((i:Int)+(m:Int))=((i+m:Nat):Int):=by rw[Wr _ Xh];omega
  obtain rfl:k=m:=by omega
  repeat' (first|refine st ?_|refine sb λnb_ hnb_=>?_|refine s2 (λh=>?_) λh=>?_|fail)
  exact hgo ⟨h1,h4,by rw[W7];omega,λj hj=>by rw[Ws];exact hG j (by simpa using hj)⟩ y
end
theorem sI (l : List aY) (hl : l.length ≤ 12) {Q : R} (hy : ∀ ns L v, dI l ns → Fz L v (.lst (ns.map au)) → Q (.tup [v, .bool true]) L) (hn : (∀ ns, ¬ dI l ns) → ∀ L, Q (.tup [.nils, .bool false]) L) :
    eH (.lst (l.map aY.enc)) [] Q:=by
  unfold eH;refine DP (α:=Nat×List aZ×Option Nat) (λa=>([.lst (l.map aY.enc),am a.2.2 a.2.1.length,.Xm (a.1:Int)],ae a.2.2 1 (a.2.1.map au))) (λa=>l.length-a.1) (λa=>gE l a.1 a.2.1∧(a.2.2=none→a.2.1=[])) (0,[],none) ⟨.zero l,λ_=>rfl⟩ (aJ.drop (K:=[]) (.refl _) rfl ((ji.cons (.refl _) (.cons .nile (.cons (.refl _) .nil))).at_.2)) ?_;rintro⟨i,acc,o⟩ ⟨hV,ho⟩ nx hnx;unfold gB;dsimp only at *;have hva:=hV.2.1;rcases Nat.lt_or_ge i l.length with h|h
  · have hx:=aw (f:=aY.enc) h
    have d1:decide ((i:Int)<(l.length:Int))=true:=bF h;have hw1:IntKind.i64.wrap ((i:Int)+1)=((i+1:Nat):Int):=aE h Xh;have hw2:IntKind.i64.wrap ((l.length:Int)-(i:Int))=((l.length-i:Nat):Int):=by rw[Wr _ Xh];omega
    have hs0:l[i].size=0→l[i].index≠0→∀ns,¬dI l ns:=hV.no1 h;have hs1:l[i].size=0→l[i].index=0→gE l (i+1) (acc++[l[i].name]):=hV.step h;have hs2:l[i].size≠0→¬DO l[i] (l.drop i)→∀ns,¬dI l ns:=hV.no2 h;have hs3:l[i].size≠0→DO l[i] (l.drop i)→gE l (i+l[i].size.toNat) (acc++[l[i].name]):=hV.jump h;have hgo:∀j nb_ L',gE l j (acc++[l[i].name])→i<j→gN L' [(nb_,⟨1,acc.map au++[[.str l[i].name]]⟩)]→nx [.lst (l.map aY.enc),.sl nb_ 0 (acc.length+1),.Xm (j:Int)] L':=λj nb_ L' h1 h2 h3=>
      hnx (j,acc++[l[i].name],some nb_) ⟨h1,nofun⟩ (by have:=h1.1;dsimp only;omega) _ _ (aJ.pickE h3 (by simp[am]) (by simp[ae,au]))
    have hxe:(l.drop i)[0]? =some l[i]:=by rw[Ws];exact VB h
    clear hnx hV;generalize l[i]=c at *;obtain⟨nm,ix,sz,vo,ini⟩:=c;unfold aY.enc at hx;dsimp only at *;have hbe:DO ⟨nm,ix,sz,vo,ini⟩ (l.drop i)→1≤sz∧sz≤4∧vo=false∧sz≤(l.length-i:Nat):=λhb=>by have h1:=hb.lo;have h2:=hb.eq 0 (by show(0:Int)<sz;have:=hb.lo;dsimp only at this;omega);rw[hxe]at h2;cases h2;exact⟨h1,hb.hi,rfl,by have:=hb.fits;rw[List.length_drop]at this;exact this⟩
    have hbq:DO ⟨nm,0,sz,false,ini⟩ (l.drop i)→DO ⟨nm,ix,sz,vo,ini⟩ (l.drop i):=λhb=>by have h2:=hb.eq 0 (by show(0:Int)<sz;have:=hb.lo;dsimp only at this;omega);rw[hxe]at h2;cases h2;exact hb
    repeat' (first|refine st ?_|refine cz mm rp Xk (λe=>by simp[ho e]) Xj Xk (by simp;omega) (by simp;omega) Xj (λnb_ hnb_=>?_)|refine sb λnb_ hnb_=>?_|refine s2 (λh=>?_) λh=>?_|fail)
    all_goals first
      |exact hn (hs0 (of_decide_eq_true Xi) (of_decide_eq_true Xi)) _
      |(refine hgo (i+1) _ _ (hs1 (of_decide_eq_true Xi) ?_) (Nat.lt_succ_self _) rp;clear hgo hn hy hs0 hs1 hs2 hs3 hbe hbq;simp only[ne_eq,decide_eq_false_iff_not,Decidable.not_not]at *;assumption)
      | (refine hn (hs2 (of_decide_eq_false Xi) fun hb => ?_) _
         have hb:=hbe hb;clear hgo hn hy hs0 hs1 hs2 hs3 hbe hbq
         (simp only[decide_eq_true_eq,decide_eq_false_iff_not]at *;simp_all<;>omega))
      |skip
    rename_i h1 h2 h3 h4;subst h4;simp only[decide_eq_false_iff_not]at h h1 h2 h3;refine Uk hl Xh Xh Xh (λhb=>hn (hs2 Xh λhc=>hb ?_)) _ _ _ (λhb y=>hgo _ _ _ (hs3 Xh (hbq hb)) (by have:=hb.lo;dsimp only at this;omega) rp) ix;have h5:=hc.eq 0 (by show(0:Int)<sz;omega);rw[hxe]at h5;cases h5;exact hc
  · have d1:decide ((i:Int)<(l.length:Int))=false:=bI h
    repeat' (first|refine st ?_|refine sb λnb_ hnb_=>?_|refine s2 (λh=>?_) λh=>?_|fail)
    exact hy acc _ _ (hV.done h) (Fz.slot rfl (λe=>by simp[ho e]) Xl (λ_ _=>rfl) λ_ _ q a a2 h1 h2=>by rw[h1]at h2;cases h2;exact .refl _)
end
section
set_option maxRecDepth 100000
def oD(e:Kn)(a:SH)(b c f g h:AV):Prop:=lD 2 b c a λi=>qv [(.str []),(.bool false)] 2 i a λj d=>aA 0 j d λk=>W.bslice 1 [(.str [])] 1 [(0,k)] d λl m=>W.append 1 16 f l m λn o=>wb .add 3 c (.Xm 1) λp=>e [g,n,b,h,p] o
def oE(e:Kn)(a:SH)(b c f g h:AV):Prop:=lD 2 b c a λi=>qv [(.str []),(.Xm 0)] 2 i a λj d=>aA 0 j d λk=>W.bslice 1 [(.str [])] 1 [(0,k)] d λl m=>W.append 1 16 f l m λn o=>wb .add 3 c (.Xm 1) λp=>e [g,n,b,h,p] o
def oF(Q:R)(f:Kn)(b c g h i j:AV)(k:SH):Prop:=W.un .not j λa=>bB a false b k λl m=>bB a false c m λn d=>wg a false (W.look (.bool false) false l n d) d λo e=>W.pick a (.bool true) o λp=>wk p (Q (.bool false) e) (W.mup b c (.bool true) e λq=>wb .add 3 g (.Xm 1) λr=>f [b,h,i,r] q)
def dX(Q:R)(f:Vs)(a:SH)(g:Kn):Prop:=yX 10 51 52 53 f λh c d b=>wb .lss 3 b d λi=>wk i (wJ 1 c b a λe=>wc (.fn 102 []) [e] a (oF Q g h e b c d)) (Q (.bool true) a)
def oG(Q:R)(a:SH)(b e:AV):Prop:=aA 3 b a λf=>W.append 1 16 e f a λg c=>aA 4 b c λh=>W.append 1 16 g h c λd i=>W.mkmap i λj k=>W.len d λl=>W.loop (dX Q) [j,d,l,(.Xm 0)] k
def dY(Q:R)(f:Vs)(a:SH)(g:Kn):Prop:=GC 2 5 30 31 32 f λb c h d e=>wb .lss 3 e d λi=>wk i ((oE g a h e c b d)) ((oG Q a b c))
def dZ(Q:R)(g:Vs)(a:SH)(h:Kn):Prop:=GC 2 5 17 18 19 g λb c i d e=>wb .lss 3 e d λj=>wk j ((oD h a i e c b d)) (aA 2 b a λf=>W.len f λk=>W.loop (dY Q) [b,c,f,k,(.Xm 0)] a)
def eI(d e:AV)(L:SH)(Q:R):Prop:=su d L λa f=>W.append 1 16 .nils e f λg b=>aA 1 a b λc=>W.len c λh=>W.loop (dZ Q) [a,g,c,h,(.Xm 0)] b
theorem oH(t0 t1:AV)(L:SH)(Q:R)(h:eI t0 t1 L Q):af Tryz.prog 64 [t0,t1] L Q:=
 fs [] [(4,[2,5,17,18,19]),(9,[2,5,30,31,32]),(17,[10,51,52,53])] [(0,[2]),(5,[7]),(10,[9])] [] Tryz.func64 h
def Cd(Q:R)(f:Kn)(g:SH)(h c i:AV):Prop:=wb .gtr 3 h (.Xm 0) λa=>bB a true c g λj k=>wg a true (wb .eql 21 j (.int .i32 95)) k λl m=>bB a true l m λb n=>bB b false c n λo p=>wg b false (wb .leq 21 (.int .i32 48) o) p λq r=>bB b false q r λd s=>bB d true c s λt u=>wg d true (wb .leq 21 t (.int .i32 57)) u λv w=>wg b false (W.pick d v (.bool false)) w λx y=>wg a true (W.pick b (.bool true) x) y λz e=>W.pick a z (.bool false) λA=>wk A (f [i] e) (Q (.bool false) e)
def Ce(Q:R)(e:Kn)(i:SH)(f g:AV):Prop:=W.ext 1 f λj=>W.ext 2 f λa=>wb .leq 21 (.int .i32 97) a λc=>bB c true a i λk l=>wg c true (wb .leq 21 k (.int .i32 122)) l λm n=>W.pick c m (.bool false) λb=>bB b false a n λo p=>wg b false (wb .leq 21 (.int .i32 65) o) p λq r=>bB b false q r λd s=>bB d true a s λt u=>wg d true (wb .leq 21 t (.int .i32 90)) u λv w=>wg b false (W.pick d v (.bool false)) w λx h=>W.pick b (.bool true) x λy=>wk y (e [g] h) ((Cd Q e h j a g))
def nM(Q:R)(d:Vs)(e:SH)(f:Kn):Prop:=Vj 18 d λa=>W.nxt a e λb c=>W.ext 0 b λg=>wk g ((Ce Q f c b a)) (Q (.bool true) c)
def pT(a:AV)(L:SH)(Q:R):Prop:=W.lenS a λf=>wb .lss 3 f (.Xm 1) λb=>bB b false a L λg h=>wg b false (W.lenS g) h λi j=>wg b false (wb .gtr 3 i (.Xm 12)) j λk l=>W.pick b (.bool true) k λc=>bB c false a l λm d=>W.grd c false (λn=>wc (.fn 128 []) [m] d λo p=>n o p) d λq e=>W.pick c (.bool true) q λr=>wk r (Q (.bool false) e) (W.rngS a e λs t=>W.loop (nM Q) [s] t)
theorem Cf(t0:AV)(L:SH)(Q:R)(h:pT t0 L Q):af Tryz.prog 102 [t0] L Q:=
 fs [] [(4,[18])] [] [] Tryz.func102 h
def jE(Q:R)(e:Vs)(a:SH)(f:Kn):Prop:=vY 0 5 6 e λc d b=>wb .lss 3 b (.Xm 22) λg=>wk g (W.ixA false 22 1 d b λh=>wb .eql 9 c h λi=>wk i (Q (.bool true) a) (wb .add 3 b (.Xm 1) λj=>f [c,d,j] a)) (Q (.bool false) a)
def kC(a:AV)(L:SH)(Q:R):Prop:=bZ 22 (O2 1) L λb=>W.loop (jE Q) [a,b,(.Xm 0)] L
theorem ta(t0:AV)(L:SH)(Q:R)(h:kC t0 L Q):af Tryz.prog 128 [t0] L Q:=
 fs [] [(2,[0,5,6])] [] [] Tryz.func128 h
end
section
set_option maxRecDepth 100000
set_option maxHeartbeats 1000000
set_option linter.unusedSimpArgs false
theorem N9:O2 1=.pptr [nK.map .str] 0 0:=rfl
theorem Sj{i:Nat}(h:i<nK.length):W0.rowLd false 1 (nK.map .str) ((i:Int).toNat*1)=some (.str nK[i]):=by unfold W0.rowLd;simp[h]
theorem QV(s:aZ):az Tryz.prog 128 [.str s] (.bool (GT s)):=by
 refine ta _ _ _ ?_;unfold kC;rw[N9];have hk:GT s=nK.any λx=>decide (s=x):=by simp only[GT,eq_comm]
 repeat' (first|refine st ?_|refine sb λnb_ hnb_=>?_|refine s2 (λh=>?_) λh=>?_|fail)
 refine fw nK (λx=>decide (s=x)) (λi=>[.str s,.agg (nK.map .str),.Xm i]) Xl rfl (λi h1 hd hi hno nx hn=>?_) (λi h1 hd hno nx=>?_)
 all_goals unfold jE
 ·have hx:=Sj h1;have hd2:decide ((i:Int)<22)=true:=hd;have h22:(i:Int).toNat<22:=h1
  repeat' (first|refine st ?_|refine TJ (Int.natCast_nonneg _) h22 hx ?_|refine sb λnb_ hnb_=>?_|refine s2 (λh=>?_) λh=>?_|fail)
  ·exact⟨by rw[hk,K3 h1 h],rfl⟩
  ·exact hn h
 ·have hd2:decide ((i:Int)<22)=false:=hd
  repeat' (first|refine st ?_|refine sb λnb_ hnb_=>?_|refine s2 (λh=>?_) λh=>?_|fail)
  exact⟨by rw[hk,Nx hno],rfl⟩
theorem Ul{s:aZ}{i:Nat}(h:i<s.length):(⟨s.toArray⟩:ByteArray).get! i=s[i]:=by show s.toArray[i]! =s[i];simp[h]
theorem Um{s:aZ}{i:Nat}(h:i<s.length):∃c wd,Utf8.decode ⟨s.toArray⟩ i=(c,wd)∧((c=s[i].toNat∧wd=1∧c<128)∨(128≤c∧128≤s[i].toNat)):=by
 refine⟨(Utf8.decode ⟨s.toArray⟩ i).1,(Utf8.decode ⟨s.toArray⟩ i).2,rfl,?_⟩;unfold Utf8.decode;simp only[W4,Ul h];by_cases hb:s[i].toNat<128
 ·rw[if_pos hb];exact .inl ⟨rfl,rfl,hb⟩
 ·rw[if_neg hb];refine .inr ⟨?_,Xh⟩;have h0:128≤Utf8.runeError:=by decide
  repeat' split
  all_goals first
   |exact h0
   |(simp only[ge_iff_le,VW,decide_eq_true_eq]at *;omega)
theorem Lf(s:aZ):az Tryz.prog 102 [.str s] (.bool (eh s)):=by
 refine af.fz (Cf _ _ _ ?_);unfold pT;generalize hQ:(λ(v:AV) (L:SH)=>∃v2 L2,aJ [v] L [v2] L2∧v2=AV.bool (eh s)∧L2=[])=Q;have hq:∀b L,eh s=b→Q (.bool b) L:=λb L h=>by subst hQ;exact⟨_,[],aJ.all (.refl _),by rw[h],rfl⟩
 clear hQ;by_cases h0:1≤s.length∧s.length≤12∧GT s=false
 ·obtain⟨h1,h12,hk⟩:=h0;have hkk:=QV s;rw[hk]at hkk;have d1:decide ((s.length:Int)<1)=false:=decide_eq_false Xh;have d2:decide ((s.length:Int) > 12)=false:=decide_eq_false Xh;have hno:∀i (h:i<s.length),¬(gU s[i].toNat=true∧(i=0→gg s[i].toNat=true))→eh s=false:=λi h hb=>by
   cases hn:eh s with
   |false=>rfl
   |true=>exfalso;unfold eh at hn;simp only[VW,VR]at hn;refine hb ⟨hn.2 _ (VV h),λe=>?_⟩;subst e;have:=hn.1.1.2;simpa[List.getD,h]using this
  repeat' (first|refine st ?_|(refine pf 128 ?_;refine pm (hkk) ?_)|refine Sd (λnb_ hnb_=>?_)|refine sb λnb_ hnb_=>?_|refine s2 (λh=>?_) λh=>?_|fail)
  refine DA (λi:Nat=>([.it nb_],[(nb_,⟨0,[[.str s,.Xm (i:Int)]]⟩)])) (λi=>s.length-i) (λi=>i≤s.length∧∀j (h:j<s.length),j<i→gU s[j].toNat=true∧(j=0→gg s[j].toNat=true)) 0 ⟨Nat.zero_le _,λj h h2=>absurd h2 (Nat.not_lt_zero _)⟩ rfl rfl (λi hG nx hn=>?_);obtain⟨hi,hG⟩:=hG;unfold nM;dsimp only;rcases Nat.lt_or_ge i s.length with h|h
  ·obtain⟨c,wd,hd,hc⟩:=Um h;replace hno:=hno i h;have hgo:gU s[i].toNat=true∧(i=0→gg s[i].toNat=true)→nx [.it nb_] [(nb_,⟨0,[[.str s,.Xm ((i+1:Nat):Int)]]⟩)]:=λhb=>hn (i+1) ⟨h,λj hj hji=>by
    rcases VG j i with g|g
    ·exact hG j hj g
    ·have e:j=i:=by omega
     subst e;exact hb⟩ Xh
   clear hn hG
   repeat' (first|refine st ?_|refine sb λnb_ hnb_=>?_|refine s2 (λh=>?_) λh=>?_|fail)
   refine Ui (.head _) h (.here _) ?_;simp only[hd];clear hd;rcases hc with⟨rfl,rfl,hc⟩|⟨hc,hb⟩
   ·generalize s[i].toNat=x at *
    repeat' (first|refine st ?_|refine sb λnb_ hnb_=>?_|refine s2 (λh=>?_) λh=>?_|fail)
    all_goals first
     |(refine hgo ?_;clear hgo hno hq;simp only[gU,gg,z8,Xa,VW,decide_eq_true_eq,decide_eq_false_iff_not]at *;omega)
     |(refine hq _ _ (hno ?_);clear hgo hno hq;simp only[gU,gg,z8,Xa,VW,decide_eq_true_eq,decide_eq_false_iff_not]at *;omega)
   ·generalize s[i].toNat=x at *;have e1:decide ((c:Int)≤122)=false:=decide_eq_false Xh;have e2:decide ((c:Int)≤90)=false:=decide_eq_false Xh;have e3:decide ((c:Int)≤57)=false:=decide_eq_false Xh;have e4:decide ((c:Int)=95)=false:=decide_eq_false Xh
    repeat' (first|refine st ?_|refine sb λnb_ hnb_=>?_|refine s2 (λh=>?_) λh=>?_|fail)
    all_goals first
     |(refine hq _ _ (hno ?_);clear hgo hno hq;simp only[gU,gg,z8,Xa,VW,decide_eq_true_eq,decide_eq_false_iff_not]at *;omega)
  ·repeat' (first|refine st ?_|refine sb λnb_ hnb_=>?_|refine s2 (λh=>?_) λh=>?_|fail)
   refine LX (.head _) Xh ?_
   repeat' (first|refine st ?_|refine sb λnb_ hnb_=>?_|refine s2 (λh=>?_) λh=>?_|fail)
   refine hq _ _ ?_;unfold eh;have e1:(s.all λc=>gU c.toNat)=true:=VR.2 λx hx=>by obtain⟨j,hj,rfl⟩:=WE hx;exact(hG j hj Xh).1
   have e2:gg ((s.getD 0 0).toNat:Nat)=true:=by have:=(hG 0 Xh Xh).2 rfl;simpa[List.getD,show 0<s.length by omega]using this
   rw[e1,e2,hk];simp;omega
 ·have hkk:=QV s;have hf:eh s=false:=by
   cases hn:eh s with
   |false=>rfl
   |true=>exfalso;refine h0 ?_;unfold eh at hn;simp only[VW,decide_eq_true_eq,Bool.not_eq_true']at hn;exact⟨Xh,Xh,hn.1.2⟩
  cases hk:GT s with
  |true=>
   rw[hk]at hkk
   repeat' (first|refine st ?_|(refine pf 128 ?_;refine pm (hkk) ?_)|refine sb λnb_ hnb_=>?_|refine s2 (λh=>?_) λh=>?_|fail)
   all_goals exact hq _ _ hf
  |false=>
   rw[hk]at hkk
   repeat' (first|refine st ?_|(refine pf 128 ?_;refine pm (hkk) ?_)|refine sb λnb_ hnb_=>?_|refine s2 (λh=>?_) λh=>?_|fail)
   all_goals first
    |exact hq _ _ hf
    |(exfalso;refine h0 ⟨?_,?_,hk⟩<;>simp only[decide_eq_true_eq,decide_eq_false_iff_not]at * <;>omega)
end
section
set_option maxRecDepth 100000
set_option maxHeartbeats 1000000
def DQ(A:List aZ):Prop:=(∀s∈A,eh s=true)∧A.Nodup
def l6(l:List aZ):List (List AV):=l.map λs=>[.str s,.bool true]
theorem JV(l:List aZ):(l6 l).all we=true:=by
 induction l with
 |nil=>rfl
 |cons s l ih=>simp only[l6,VD,List.all_cons]at *;rw[ih];rfl
theorem qA{s:aZ}:∀{l:List aZ} {k:Nat},(s∉l→gy s (l6 l) k=none)∧(s∈l→∃j,gy s (l6 l) k=some (j,.bool true))
 |[],k=>⟨λ_=>rfl,λh=>by simp at h⟩
 | x::l,k=>by
  have ih:=qA (s:=s) (l:=l) (k:=k+1);have e:gy s (l6 (x::l)) k=if s==x then some (k,.bool true)else gy s (l6 l) (k+1):=rfl
  rw[e];by_cases h:s=x
  ·subst h;exact⟨λh=>by simp at h,λ_=>⟨k,Xk⟩⟩
  ·have:(s==x)=false:=by simpa using h
   rw[this];exact⟨λh2=>ih.1 (by simp at h2;exact h2.2),λh2=>ih.2 (by simpa[h]using h2)⟩
theorem PQ{s:aZ}{l:List aZ}(h:s∉l):W0.found (.bool false) false (gy s (l6 l) 0)=.bool false:=by rw[qA.1 h];rfl
theorem Oa{s:aZ}{l:List aZ}(h:s∈l):W0.found (.bool false) false (gy s (l6 l) 0)=.bool true:=by obtain⟨j,hj⟩:=(qA (k:=0)).2 h;rw[hj];rfl
theorem Ob{s:aZ}{l:List aZ}(h:s∉l):W0.putR s (.bool true) (l6 l)=l6 (l++[s]):=by unfold W0.putR;rw[qA.1 h];simp[l6]
theorem Lg{o:Option Nat}{k:Nat}{K:AV→Prop}(h:K (.Xm (k:Int)))(h0:o=none→k=0):W.len (am o k) K:=by
 cases o with
 |none=>rw[h0 rfl]at h;exact Gv h
 |some b=>exact Gs h
theorem Oc{α:Type}{f:α→List AV}{l:List α}{n by_:Nat}{L:SH}{KL:AV→SH→Prop}(hn:∀x,(f x).length=n)(h2:2*l.length*by_≤2^48)(h3:2*l.length≤2^62)(h4:∀x,(f x).all AV.one=true)
  (h:l=[]→KL .nils L) (h':∀b,b∉L.names→KL (.sl b 0 l.length) ((b,⟨n,l.map f⟩)::L)):W.append n by_ .nils (.lst (l.map f)) L KL:=by
 have h4':((l.map f).all λr=>r.all AV.one)=true:=by rw[VR];intro r hr;obtain⟨x,_,rfl⟩:=Wd.1 hr;exact h4 x
 refine⟨[],l.map f,rfl,wH hn,by simpa using h2,by simpa using h3,h4',λe=>?_,λe b hb=>?_⟩
 ·exact h (by simpa using e)
 ·have:=h' b hb;simpa using this
theorem Un{A:List aZ}(hA:A.length<2^40){Q:R}(hq:∀b L,mZ (DQ A)=b→Q (.bool b) L){vs:List AV}{L:SH}{bm:Nat}(hz:aJ vs L [.mp bm,.lst (A.map au),.Xm A.length,.Xm 0] [(bm,⟨0,[]⟩)]):W.loop (dX Q) vs L:=by
 refine DP (α:=Nat) (λi=>([.mp bm,.lst (A.map au),.Xm A.length,.Xm (i:Int)],[(bm,⟨0,l6 (A.take i)⟩)])) (λi=>A.length-i) (λi=>i≤A.length∧DQ (A.take i)) 0 ⟨Nat.zero_le _,by simp[DQ]⟩ hz ?_;rintro i ⟨hi,hG⟩ nx hnx;unfold dX;dsimp only;rcases Nat.lt_or_ge i A.length with h|h
 ·have d1:decide ((i:Int)<(A.length:Int))=true:=bF h;have hw1:IntKind.i64.wrap ((i:Int)+1)=((i+1:Nat):Int):=aE h Xh;have hx:=aw (f:=au) h;have hok:=Lf A[i];have ht:=VJ h;have hno:¬DQ (A.take (i+1))→∀L,Q (.bool false) L:=λhb L=>hq _ _ (jw λhN=>hb ⟨λs hs=>hN.1 s (List.mem_of_mem_take hs),hN.2.sublist (List.take_sublist _ _)⟩)
  have hgo:DQ (A.take (i+1))→nx [.mp bm,.lst (A.map au),.Xm A.length,.Xm ((i+1:Nat):Int)] [(bm,⟨0,l6 (A.take (i+1))⟩)]:=λhb=>hnx (i+1) ⟨h,hb⟩ Xh _ _ (.refl _ _)
  rw[ht]at hno hgo;clear hq hnx ht hz;generalize A[i]=s at *;generalize A.take i=l at *;have hk:=JV l;cases hnm:eh s with
  |false=>
   rw[hnm]at hok;have hb:¬DQ (l++[s]):=λhb=>by have:=hb.1 s Xk;rw[hnm]at this;cases this
   repeat' (first|refine st ?_|(refine pf 102 ?_;refine pm (hok) ?_)|refine sb λnb_ hnb_=>?_|refine s2 (λh=>?_) λh=>?_|fail)
   all_goals exact hno hb _
  |true=>
   rw[hnm]at hok;by_cases hm:s∈l
   ·have hf:=Oa hm;have hb:¬DQ (l++[s]):=λhb=>by have:=(Xc.1 hb.2).2.2 s hm s Xk;exact this rfl
    repeat' (first|refine st ?_|(refine pf 102 ?_;refine pm (hok) ?_)|refine N1 (.head _) hk hf ?_|refine sb λnb_ hnb_=>?_|refine s2 (λh=>?_) λh=>?_|fail)
    all_goals exact hno hb _
   ·have hf:=PQ hm;have hp:=Ob hm;have hb:DQ (l++[s]):=⟨λx hx=>by
     rcases VP.1 hx with h|h
     ·exact hG.1 x h
     ·rw[VI.1 h];exact hnm,Xc.2 ⟨hG.2,Xk,λa ha b hb=>by rw[VI.1 hb];rintro rfl;exact hm ha⟩⟩
    repeat' (first|refine st ?_|(refine pf 102 ?_;refine pm (hok) ?_)|refine N1 (.head _) hk hf ?_|refine Uh (.here _) hk rfl hp ?_|refine sb λnb_ hnb_=>?_|refine s2 (λh=>?_) λh=>?_|fail)
    all_goals exact hgo hb
 ·have d1:decide ((i:Int)<(A.length:Int))=false:=bI h;rw[Wo h]at hG
  repeat' (first|refine st ?_|refine sb λnb_ hnb_=>?_|refine s2 (λh=>?_) λh=>?_|fail)
  exact hq _ _ (kv hG)
section
variable {w:aH} {Q:R} {ns:List aZ} (hns:ns.length≤12) (h4:w.locks.length≤4) (h2:w.conds.length≤2) (hf2:w.futures.length≤2) (ht4:w.threads.length≤4) (hq:∀b L,mZ (DQ (nL w ns))=b→Q (.bool b) L)
include hns h4 h2 hf2 ht4 hq
theorem Uo{vs:List AV}{L:SH}(o:Option Nat)(ho:o=none→ns++w.locks.map ca.name=[])(hz:aJ vs L [.pptr [w.enc] 0 0,am o (ns++w.locks.map ca.name).length,.lst (w.conds.map cP.enc),.Xm w.conds.length,.Xm 0] (ae o 1 ((ns++w.locks.map ca.name).map au))):W.loop (dY Q) vs L:=by
 obtain⟨S,hS⟩:∃S:Nat→List aZ,S=λi=>ns++w.locks.map ca.name++(w.conds.take i).map cP.name:=⟨_,rfl⟩
 have hS0:S 0=ns++w.locks.map ca.name:=by subst hS;simp
 have hSl:S w.conds.length++w.futures++w.threads=nL w ns:=by subst hS;simp[nL]
 have hSs:∀i (h:i<w.conds.length),S (i+1)=S i++[w.conds[i].name]:=λi h=>by subst hS;simp only[VJ h,VF,Wh,VD,Wm]
 have hSn:∀i,(S i).length≤18:=λi=>by subst hS;rw[VL,VL,WH,WH,V5];omega
 rw[←hS0]at hz ho;clear hS0 hS;refine DP (α:=Nat×Option Nat) (λa=>([.pptr [w.enc] 0 0,am a.2 (S a.1).length,.lst (w.conds.map cP.enc),.Xm w.conds.length,.Xm (a.1:Int)],ae a.2 1 ((S a.1).map au))) (λa=>w.conds.length-a.1) (λa=>a.1≤w.conds.length∧(a.2=none→S a.1=[])) (0,o) ⟨Nat.zero_le _,ho⟩ hz ?_;rintro⟨i,o⟩ ⟨hi,ho⟩ nx hnx;unfold dY;dsimp only at *;have hA:=hSn i;rcases Nat.lt_or_ge i w.conds.length with h|h
 ·have d1:decide ((i:Int)<(w.conds.length:Int))=true:=bF h;have hw1:IntKind.i64.wrap ((i:Int)+1)=((i+1:Nat):Int):=aE h Xh;have hx:=aw (f:=cP.enc) h;have hgo:∀nb_ L',gN L' [(nb_,⟨1,(S i).map au++[[.str w.conds[i].name]]⟩)]→nx [.pptr [w.enc] 0 0,.sl nb_ 0 ((S i).length+1),.lst (w.conds.map cP.enc),.Xm w.conds.length,.Xm ((i+1:Nat):Int)] L':=λnb_ L' h3=>
   hnx (i+1,some nb_) ⟨h,nofun⟩ (by dsimp only;omega) _ _ (aJ.pickE h3 (by simp[am,hSs i h]) (by simp[ae,au,hSs i h]))
  clear hnx hSs hSl hSn hz;generalize w.conds[i]=c at *;generalize S i=C at *;obtain⟨nm,mx⟩:=c;unfold cP.enc at hx;dsimp only at *
  repeat' (first|refine st ?_|refine cz mm rp Xk (λe=>by simp[ho e]) Xj Xk (by simp;omega) (by simp;omega) Xj (λnb_ hnb_=>?_)|refine sb λnb_ hnb_=>?_|refine s2 (λh=>?_) λh=>?_|fail)
  exact hgo _ _ rp
 ·have d1:decide ((i:Int)<(w.conds.length:Int))=false:=bI h;obtain rfl:i=w.conds.length:=by omega
  repeat' (first|refine st ?_|refine sb λnb_ hnb_=>?_|refine s2 (λh=>?_) λh=>?_|fail)
  refine Dc rp (λ_=>rfl) Xk (λe=>by simp[ho e]) Xh Xh (λ_=>rfl) (λo1 ho1=>?_)
  repeat' (first|refine st ?_|refine sb λnb_ hnb_=>?_|refine s2 (λh=>?_) λh=>?_|fail)
  refine Dc rp (λ_=>rfl) Xk (λe=>ho1 e) Xh Xh (λ_=>rfl) (λo2 ho2=>?_);refine PN λbm hbm=>?_
  refine Lg ?_ (λe=>by have:=ho2 e;simp only[List.append_eq_nil_iff,List.map_eq_nil_iff]at this;simp[this]);have e1:(S w.conds.length).map au++w.futures.map au++w.threads.map au=(nL w ns).map au:=by rw[←hSl];simp
  have e2:(S w.conds.length).length+w.futures.length+w.threads.length=(nL w ns).length:=by rw[←hSl];simp;omega
  have e3:(nL w ns).length≤30:=by rw[←e2];omega
  rw[e1]at ho2 ⊢;rw[e2];refine Un (A:=nL w ns) Xh hq (bm:=bm) (aJ.drop (K:=ae o2 1 ((nL w ns).map au)) (R:=[(bm,⟨0,[]⟩)]) (by rw[Wi];exact(List.perm_append_singleton _ _).symm) rfl ((ji.cons (.refl _) (.cons (Fz.slot rfl ho2 Xl (λ_ _=>rfl) λ_ _ q a a2 h1 h2=>by rw[h1]at h2;cases h2;exact .refl _) (.cons (.refl _) (.cons (.refl _) .nil)))).at_.2))
theorem Up{vs:List AV}{L:SH}(o:Option Nat)(ho:o=none→ns=[])(hz:aJ vs L [.pptr [w.enc] 0 0,am o ns.length,.lst (w.locks.map ca.enc),.Xm w.locks.length,.Xm 0] (ae o 1 (ns.map au))):W.loop (dZ Q) vs L:=by
 have hl2:=λvs L o ho hz=>Uo hns h4 h2 hf2 ht4 hq (vs:=vs) (L:=L) o ho hz
 obtain⟨S,hS⟩:∃S:Nat→List aZ,S=λi=>ns++(w.locks.take i).map ca.name:=⟨_,rfl⟩
 have hS0:S 0=ns:=by subst hS;simp
 have hSl:S w.locks.length=ns++w.locks.map ca.name:=by subst hS;simp
 have hSs:∀i (h:i<w.locks.length),S (i+1)=S i++[w.locks[i].name]:=λi h=>by subst hS;simp only[VJ h,VF,Wh,VD,Wm]
 have hSn:∀i,(S i).length≤18:=λi=>by subst hS;rw[VL,WH,V5];omega
 rw[←hSl]at hl2;rw[←hS0]at hz ho;clear hS0 hS hq;refine DP (α:=Nat×Option Nat) (λa=>([.pptr [w.enc] 0 0,am a.2 (S a.1).length,.lst (w.locks.map ca.enc),.Xm w.locks.length,.Xm (a.1:Int)],ae a.2 1 ((S a.1).map au))) (λa=>w.locks.length-a.1) (λa=>a.1≤w.locks.length∧(a.2=none→S a.1=[])) (0,o) ⟨Nat.zero_le _,ho⟩ hz ?_;rintro⟨i,o⟩ ⟨hi,ho⟩ nx hnx;unfold dZ;dsimp only at *;have hA:=hSn i;rcases Nat.lt_or_ge i w.locks.length with h|h
 ·have d1:decide ((i:Int)<(w.locks.length:Int))=true:=bF h;have hw1:IntKind.i64.wrap ((i:Int)+1)=((i+1:Nat):Int):=aE h Xh;have hx:=aw (f:=ca.enc) h;have hgo:∀nb_ L',gN L' [(nb_,⟨1,(S i).map au++[[.str w.locks[i].name]]⟩)]→nx [.pptr [w.enc] 0 0,.sl nb_ 0 ((S i).length+1),.lst (w.locks.map ca.enc),.Xm w.locks.length,.Xm ((i+1:Nat):Int)] L':=λnb_ L' h3=>
   hnx (i+1,some nb_) ⟨h,nofun⟩ (by dsimp only;omega) _ _ (aJ.pickE h3 (by simp[am,hSs i h]) (by simp[ae,au,hSs i h]))
  clear hnx hSs hSl hSn hz hl2;generalize w.locks[i]=c at *;generalize S i=C at *;obtain⟨nm,mx⟩:=c;unfold ca.enc at hx;dsimp only at *
  repeat' (first|refine st ?_|refine cz mm rp Xk (λe=>by simp[ho e]) Xj Xk (by simp;omega) (by simp;omega) Xj (λnb_ hnb_=>?_)|refine sb λnb_ hnb_=>?_|refine s2 (λh=>?_) λh=>?_|fail)
  exact hgo _ _ rp
 ·have d1:decide ((i:Int)<(w.locks.length:Int))=false:=bI h;obtain rfl:i=w.locks.length:=by omega
  repeat' (first|refine st ?_|refine sb λnb_ hnb_=>?_|refine s2 (λh=>?_) λh=>?_|fail)
  exact hl2 _ _ o ho (.refl _ _)
theorem Vo:eI (.agg w.enc) (.lst (ns.map au)) [] Q:=by
 have hl3:=λvs L o ho hz=>Up hns h4 h2 hf2 ht4 hq (vs:=vs) (L:=L) o ho hz
 clear hq;unfold eI
 repeat' (first|refine st ?_|refine sb λnb_ hnb_=>?_|refine s2 (λh=>?_) λh=>?_|fail)
 refine Oc (λ_=>rfl) Xh Xh (λ_=>rfl) (λe=>?_) (λnb_ hnb_=>?_)
 ·subst e
  repeat' (first|refine st ?_|refine sb λnb_ hnb_=>?_|refine s2 (λh=>?_) λh=>?_|fail)
  exact hl3 _ _ none (λ_=>rfl) (aJ.drop (K:=[]) (.refl _) rfl ((ji.cons (.refl _) (.cons .nile (.cons (.refl _) (.cons (.refl _) (.cons (.refl _) .nil))))).at_.2))
 ·repeat' (first|refine st ?_|refine sb λnb_ hnb_=>?_|refine s2 (λh=>?_) λh=>?_|fail)
  exact hl3 _ _ (some nb_) nofun (.refl _ _)
end
theorem L5(w:aH){ns:List aZ}(hns:ns.length≤12)(h4:w.locks.length≤4)(h2:w.conds.length≤2)(hf2:w.futures.length≤2)(ht4:w.threads.length≤4):az Tryz.prog 64 [.agg w.enc,.lst (ns.map au)] (.bool (mZ (DQ (nL w ns)))):=
 af.fz (oH _ _ _ _ (Vo hns h4 h2 hf2 ht4 λb L h=>⟨_,[],aJ.all (.refl _),by rw[h],rfl⟩))
theorem JW{l:List aY}(hl:l.length≤12){ns:List aZ}(h:dI l ns):az Tryz.prog 63 [.lst (l.map aY.enc)] (.tup [.lst (ns.map au),.bool true]):=
 af.fz (gC _ _ _ (sI l hl (λns' L v h1 h2=>⟨_,[],aJ.all (.tups (.cons h2 (.cons (.refl _) .nil))),by rw[h.uniq h1],rfl⟩) λh2=>absurd h (h2 ns)))
theorem L6{l:List aY}(hl:l.length≤12)(h:∀ns,¬dI l ns):az Tryz.prog 63 [.lst (l.map aY.enc)] (.tup [.nils,.bool false]):=
 af.fz (gC _ _ _ (sI l hl (λns' L v h1 h2=>absurd h1 (h ns')) λ_ L=>⟨_,[],aJ.all (.refl _),rfl,rfl⟩))
end
section
set_option maxRecDepth 100000
set_option maxHeartbeats 1000000
theorem Sk{n:Nat}{t x:Int}{s:cM}{l:List cM}:Fb n t x (s::l)↔t≤s.thread∧s.thread<n∧s.stmt=(if t<s.thread then 0 else x)∧Fb n s.thread (s.stmt+1) l:=Iff.rfl
theorem Fc(w:aH)(h60:w.sites.length≤60):az Tryz.prog 66 [.agg w.enc] (.bool (mZ (Fb w.threads.length 0 0 w.sites))):=by
  refine oC _ _ _ ?_;unfold ij;generalize hQ:(λ(u:AV) (K:SH)=>u=AV.bool (mZ (Fb w.threads.length 0 0 w.sites))∧K=[])=Q;have hq:∀b,mZ (Fb w.threads.length 0 0 w.sites)=b→Q (.bool b) []:=λb hb=>by subst hQ;exact⟨by rw[hb],rfl⟩
  clear hQ
  repeat' (first|refine st ?_|refine sb λnb_ hnb_=>?_|refine s2 (λh=>?_) λh=>?_|fail)
  refine DA (α:=Nat×Int×Nat) (λa=>([.pptr [w.enc] 0 0,.Xm a.2.1,.Xm (a.2.2:Int),.lst (w.sites.map cM.enc),.Xm w.sites.length,.Xm (a.1:Int)],[])) (λa=>w.sites.length-a.1) (λa=>a.1≤w.sites.length∧a.2.2≤a.1∧(Fb w.threads.length 0 0 w.sites↔Fb w.threads.length a.2.1 a.2.2 (w.sites.drop a.1))) (0,0,0) ⟨Nat.zero_le _,Nat.le_refl _,Xk⟩ rfl rfl ?_;rintro⟨i,t,x⟩ ⟨hi,hx0,hG⟩ nx hnx;unfold gD;dsimp only at *;rcases Nat.lt_or_ge i w.sites.length with h|h
  · have d1:decide ((i:Int)<(w.sites.length:Int))=true:=bF h
    have hw1:IntKind.i64.wrap ((i:Int)+1)=((i+1:Nat):Int):=aE h Xh;have hw2:IntKind.i64.wrap ((x:Int)+1)=((x+1:Nat):Int):=by rw[Wr _ Xh];omega
    have hw3:IntKind.i64.wrap (0+1)=((0+1:Nat):Int):=rfl;have hx:=aw (f:=cM.enc) h;rw[WW h]at hG;generalize w.sites[i]=s at *;rw[Sk]at hG;have hno:¬(t≤s.thread∧s.thread<w.threads.length∧s.stmt=if t<s.thread then 0 else(x:Int))→Q (.bool false) []:=λhb=>hq _ (jw λh2=>hb (by have:=hG.1 h2;exact⟨this.1,this.2.1,this.2.2.1⟩))
    have hgo:∀y:Nat,y≤i→(t≤s.thread∧s.thread<w.threads.length∧s.stmt=if t<s.thread then 0 else(x:Int))→s.stmt=(y:Int)→nx [.pptr [w.enc] 0 0,.Xm s.thread,.Xm ((y+1:Nat):Int),.lst (w.sites.map cM.enc),.Xm w.sites.length,.Xm ((i+1:Nat):Int)] []:=λy hy hb hs=>
      hnx (i+1,s.thread,y+1) ⟨h,by dsimp only;omega,by
        rw[hG];dsimp only;have e:s.stmt+1=((y+1:Nat):Int):=by omega
        rw[e];exact⟨λh=>h.2.2.2,λh=>⟨hb.1,hb.2.1,hb.2.2,h⟩⟩⟩ (by dsimp only;omega)
    clear hnx hG;obtain⟨th,sm,ln⟩:=s;unfold cM.enc at hx;dsimp only at *
    repeat' (first|refine st ?_|refine sb λnb_ hnb_=>?_|refine s2 (λh=>?_) λh=>?_|fail)
    all_goals first
      |(refine hno λh2=>?_;have h3:=h2.1;have h4:=h2.2.1;have h5:=h2.2.2;clear h2 hno hgo;split at h5<;>simp only[decide_eq_true_eq,decide_eq_false_iff_not,ge_iff_le,ne_eq,Decidable.not_not]at * <;>omega)
      |(refine hgo 0 (We _) ?_ ?_<;>clear hno hgo<;>simp only[decide_eq_true_eq,decide_eq_false_iff_not,ge_iff_le,ne_eq,Decidable.not_not]at * <;>first|omega|(refine⟨Xh,Xh,?_⟩;rw[if_pos Xh];omega))
      | (simp only [decide_eq_true_eq, decide_eq_false_iff_not, ge_iff_le, ne_eq, Decidable.not_not] at *
         obtain rfl:t=th:=by omega
         refine hgo x hx0 ?_ ?_<;>clear hno hgo<;>first|omega|(refine⟨Xh,Xh,?_⟩;rw[if_neg Xh];omega))
  · have d1:decide ((i:Int)<(w.sites.length:Int))=false:=bI h
    rw[List.drop_eq_nil_of_le h]at hG
    repeat' (first|refine st ?_|refine sb λnb_ hnb_=>?_|refine s2 (λh=>?_) λh=>?_|fail)
    exact hq _ (kv (hG.2 trivial))
theorem L7(w:aH):az Tryz.prog 38 [.agg w.enc] (.bool (mZ (IE w))):=by
 refine og _ _ _ ?_;unfold ii;generalize hQ:(λ(u:AV) (K:SH)=>u=AV.bool (mZ (IE w))∧K=[])=Q;have hq:∀b,mZ (IE w)=b→Q (.bool b) []:=λb hb=>by subst hQ;exact⟨by rw[hb],rfl⟩
 clear hQ;by_cases h0:w.cells.length≤12∧w.locks.length≤4∧w.conds.length≤2∧w.futures.length≤2∧w.sites.length≤60∧1≤w.threads.length∧w.threads.length≤4
 ·obtain⟨c12,l4,d2,f2,s60,t1,t4⟩:=h0;have e1:decide ((w.cells.length:Int) > 12)=false:=decide_eq_false Xh;have e2:decide ((w.locks.length:Int) > 4)=false:=decide_eq_false Xh;have e3:decide ((w.conds.length:Int) > 2)=false:=decide_eq_false Xh;have e4:decide ((w.futures.length:Int) > 2)=false:=decide_eq_false Xh;have e5:decide ((w.sites.length:Int) > 60)=false:=decide_eq_false Xh;have e6:decide ((w.threads.length:Int)<1)=false:=decide_eq_false Xh;have e7:decide ((w.threads.length:Int) > 4)=false:=decide_eq_false Xh;by_cases hv:∃ns,dI w.cells ns
  ·obtain⟨ns,hv⟩:=hv;have hvc:=JW c12 hv;have hns:ns.length≤12:=by have:=hv.len;omega
   have hvn:=L5 w hns l4 d2 f2 t4;have hvs:=Fc w s60;cases hN:mZ (DQ (nL w ns))with
   |false=>
    rw[hN]at hvn;have hb:mZ (IE w)=false:=jw λh=>by obtain⟨n2,h1,h2⟩:=h.names;obtain rfl:=hv.uniq h1;rw[kv ⟨h2.1,h2.2⟩]at hN;cases hN
    repeat' (first|refine st ?_|(refine pf 63 ?_;refine pm (hvc) ?_)|(refine pf 64 ?_;refine pm (hvn) ?_)|refine sb λnb_ hnb_=>?_|refine s2 (λh=>?_) λh=>?_|fail)
    all_goals exact hq _ hb
   |true=>
    rw[hN]at hvn
    repeat' (first|refine st ?_|(refine pf 63 ?_;refine pm (hvc) ?_)|(refine pf 64 ?_;refine pm (hvn) ?_)|refine sb λnb_ hnb_=>?_|refine s2 (λh=>?_) λh=>?_|fail)
    refine fw w.conds (λc=>!Il w c.mutex false) (λi=>[.pptr [w.enc] 0 0,.lst (w.conds.map cP.enc),.Xm w.conds.length,.Xm (i:Int)]) Xh rfl (λi h1 hd hi hno nx hn=>?_) (λi h1 hd hno nx=>?_)
    all_goals unfold gA
    ·have hx:=aw (f:=cP.enc) h1;have hlk:=FX w w.conds[i].mutex false;have hbad:Il w w.conds[i].mutex false=false→mZ (IE w)=false:=λh=>jw λh2=>by rw[h2.mtx _ (VV h1)]at h;cases h
     generalize w.conds[i]=c at *;obtain⟨nm,mx⟩:=c;unfold cP.enc at hx;dsimp only at *;cases hl:Il w mx false with
     |false=>
      rw[hl]at hlk
      repeat' (first|refine st ?_|(refine pf 65 ?_;refine pm (hlk) ?_)|refine sb λnb_ hnb_=>?_|refine s2 (λh=>?_) λh=>?_|fail)
      exact hq _ (hbad hl)
     |true=>
      rw[hl]at hlk
      repeat' (first|refine st ?_|(refine pf 65 ?_;refine pm (hlk) ?_)|refine sb λnb_ hnb_=>?_|refine s2 (λh=>?_) λh=>?_|fail)
      exact hn (by rw[hl];rfl)
    ·repeat' (first|refine st ?_|(refine pf 66 ?_;refine pm (hvs) ?_)|refine sb λnb_ hnb_=>?_|refine s2 (λh=>?_) λh=>?_|fail)
     refine hq _ ?_;cases hs:mZ (Fb w.threads.length 0 0 w.sites)with
     |false=>exact jw λh=>by rw[kv h.sites]at hs;cases hs
     |true=>have hN:=ky.1 hN;exact kv ⟨c12,l4,d2,f2,s60,t1,t4,⟨ns,hv,hN.1,hN.2⟩,λc hc=>by simpa using hno c hc,ky.1 hs⟩
  ·have hvc:=L6 c12 λns h=>hv ⟨ns,h⟩
   repeat' (first|refine st ?_|(refine pf 63 ?_;refine pm (hvc) ?_)|refine sb λnb_ hnb_=>?_|refine s2 (λh=>?_) λh=>?_|fail)
   all_goals exact hq _ (jw λh=>by obtain⟨ns,h1,_⟩:=h.names;exact hv ⟨ns,h1⟩)
 ·have hb:mZ (IE w)=false:=jw λh=>h0 ⟨h.c12,h.l4,h.d2,h.f2,h.s60,h.t1,h.t4⟩
  repeat' (first|refine st ?_|refine sb λnb_ hnb_=>?_|refine s2 (λh=>?_) λh=>?_|fail)
  all_goals first
   |exact hq _ hb
   |(exfalso;refine h0 ?_;clear hq hb h0;simp only[decide_eq_true_eq,decide_eq_false_iff_not]at *;omega)
structure DR(c:bM):Prop where
 world:IE c.w
 len:c.ts.length=c.w.threads.length
 thr:∀i (h:i<c.ts.length),IC c.w i c.ts[i]
theorem Od(c:bM)(hl:∀t∈c.ts,t.ins.length<2^48):az Tryz.prog 21 [.agg c.enc] (.bool (mZ (DR c))):=by
 have hw:=L7 c.w;have ht:=λi (h:i<c.ts.length)=>DB c.w i c.ts[i] (hl _ (VV h))
 obtain⟨w,ts⟩:=c;dsimp only at *;refine zZ _ _ _ ?_;unfold nC;generalize hQ:(λ(u:AV) (K:SH)=>u=AV.bool (mZ (DR ⟨w,ts⟩))∧K=[])=Q;have hq:∀b,mZ (DR ⟨w,ts⟩)=b→Q (.bool b) []:=λb hb=>by subst hQ;exact⟨by rw[hb],rfl⟩
 clear hQ;cases hW:mZ (IE w)with
 |false=>
  rw[hW]at hw
  repeat' (first|refine st ?_|(refine pf 38 ?_;refine pm (hw) ?_)|refine sb λnb_ hnb_=>?_|refine s2 (λh=>?_) λh=>?_|fail)
  all_goals exact hq _ (jw λh=>by have:=h.world;rw[kv this]at hW;cases hW)
 |true=>
  rw[hW]at hw;have hW:=ky.1 hW;by_cases hlen:ts.length=w.threads.length
  ·have e1:decide ((ts.length:Int)≠(w.threads.length:Int))=false:=by simp[hlen]
   have h4:=hW.t4
   repeat' (first|refine st ?_|(refine pf 38 ?_;refine pm (hw) ?_)|refine sb λnb_ hnb_=>?_|refine s2 (λh=>?_) λh=>?_|fail)
   refine pk ts.length (λk=>∀j (h:j<ts.length),j<k→IC w j ts[j]) (λk=>[.pptr [(⟨w,ts⟩:bM).enc] 0 0,.lst (ts.map iH.enc),.Xm ts.length,.Xm k]) Xh (λj h hj=>absurd hj (Nat.not_lt_zero _)) rfl (λk hk hd hi hG nx hn=>?_) (λk hk hd hG nx=>?_)
   all_goals unfold lW
   ·have hx:=aw (f:=iH.enc) hk;have hok:=ht k hk;have hbad:¬IC w k ts[k]→Q (.bool false) []:=λh=>hq _ (jw λh2=>h (h2.thr k hk))
    have hgo:IC w k ts[k]→nx [.pptr [(⟨w,ts⟩:bM).enc] 0 0,.lst (ts.map iH.enc),.Xm ts.length,.Xm ((k+1:Nat):Int)] []:=λh=>hn λj hj hjk=>by
     rcases VG j k with g|g
     ·exact hG j hj g
     ·have e:j=k:=by omega
      subst e;exact h
    clear hn hG;generalize ts[k]=c at *;obtain⟨rg,ins⟩:=c;cases hT:mZ (IC w k ⟨rg,ins⟩)with
    |false=>
     rw[hT]at hok
     repeat' (first|refine st ?_|(refine pf 39 ?_;refine pm (hok) ?_)|refine sb λnb_ hnb_=>?_|refine s2 (λh=>?_) λh=>?_|fail)
     exact hbad λh=>by rw[kv h]at hT;cases hT
    |true=>
     rw[hT]at hok
     repeat' (first|refine st ?_|(refine pf 39 ?_;refine pm (hok) ?_)|refine sb λnb_ hnb_=>?_|refine s2 (λh=>?_) λh=>?_|fail)
     exact hgo (ky.1 hT)
   ·repeat' (first|refine st ?_|refine sb λnb_ hnb_=>?_|refine s2 (λh=>?_) λh=>?_|fail)
    exact hq _ (kv ⟨hW,hlen,λj h=>hG j h (by have:j<ts.length:=h;omega)⟩)
  ·have e1:decide ((ts.length:Int)≠(w.threads.length:Int))=true:=by simp;omega
   repeat' (first|refine st ?_|(refine pf 38 ?_;refine pm (hw) ?_)|refine sb λnb_ hnb_=>?_|refine s2 (λh=>?_) λh=>?_|fail)
   all_goals exact hq _ (jw λh=>hlen h.len)
end
structure cC where
 thread:Int
 kind:Int
 obj:Int
 value:Int
 site:Int
 deps:List Int
 frm:List Int
def cC.enc(e:cC):List AV:=[.Xm e.thread,.Xm e.kind,.Xm e.obj,.Xm e.value,.Xm e.site,.lst (e.deps.map aj),.lst (e.frm.map aj)]
structure el where
 sync:SyncD
 cells:List Int
 futures:List Int
 threads:List aV
def el.enc(s:el):List AV:=[.lst (s.sync.locks.map LockD.enc),.Xm s.sync.tx,.lst (s.sync.done.map aT),.lst (s.sync.threads.map ThrD.enc),.lst (s.cells.map aj),.lst (s.futures.map aj),.lst (s.threads.map aV.enc)]
def pU(op:Int):Int:=kR.getD op.toNat 0
def ixS(i n:Int):Int:=if n<1 then 0 else if i.tmod n<0 then IntKind.i64.wrap (i.tmod n+n)else i.tmod n
def kD(i:bj)(s:aV)(t:Int):cC:=
 let e:cC:=⟨t,pU i.op,i.a,0,i.site,[],[]⟩
 if i.op=6∨i.op=27 then {e with obj:=i.b}
 else if i.op=7 then {e with obj:=IntKind.i64.wrap (i.b+ixS (s.reg i.c) i.n),deps:=s.tnt i.c}
 else if i.op=8∨i.op=26 then {e with frm:=s.tnt i.b}
 else if i.op=9 then {e with obj:=IntKind.i64.wrap (i.a+ixS (s.reg i.c) i.n),deps:=s.tnt i.c,frm:=s.tnt i.b}
 else if i.op=10 then {e with obj:=-1,deps:=s.tnt i.a}
 else if i.op=28∨i.op=17∨i.op=18∨i.op=19∨i.op=20 then {e with obj:=-1}
 else e
def aB(c:bM)(t:Int):iH:=c.ts.getD t.toNat ⟨0,[]⟩
def bN(s:el)(t:Int):aV:=s.threads.getD t.toNat aV.zero
def dm(c:iH)(k:Int):bj:=c.ins.getD k.toNat default
def jF(c:bM)(s:el)(t:Int):Bool:=
 inB t c.ts.length&&inB t s.threads.length&&inB t s.sync.threads.length&&inB (bN s t).pc (aB c t).ins.length&&decide (((bN s t).regs.length:Int)=(aB c t).regs)&&decide (((bN s t).taint.length:Int)=(aB c t).regs)
def gh(c:bM)(s:el)(t:Int):Option cC:=
 if jF c s t then
  let i:=dm (aB c t) (bN s t).pc
  if(cm s.sync t).status=1 then some ⟨t,1,-1,0,-1,[],[]⟩
  else if(cm s.sync t).status=4 then some ⟨t,17,(cm s.sync t).cond,0,i.site,[],[]⟩
  else if(cm s.sync t).status=2 then(if pU i.op≠0 then some (kD i (bN s t) t)else none)
  else none
 else none
structure Sm where
 value:Int
 cells:List Int
 futures:List Int
 thread:aV
def j8(l:List Int)(o:Int):Int:=l.getD o.toNat 0
def dU(i:bj)(e:cC)(s:el)(th:aV)(sv:Int):Sm:=
 let nx:Int:=IntKind.i64.wrap (th.pc+1)
 let ev:Int:=IntKind.i64.wrap (th.ev+1)
 if e.kind=3 then⟨j8 s.cells e.obj,s.cells,s.futures,⟨nx,th.regs.set i.a.toNat (j8 s.cells e.obj),th.taint.set i.a.toNat [th.ev],ev⟩⟩
 else if e.kind=23 then⟨j8 s.futures e.obj,s.cells,s.futures,⟨nx,th.regs.set i.a.toNat (j8 s.futures e.obj),th.taint.set i.a.toNat [th.ev],ev⟩⟩
 else if e.kind=4 then⟨th.reg i.b,s.cells.set e.obj.toNat (th.reg i.b),s.futures,⟨nx,th.regs,th.taint,ev⟩⟩
 else if e.kind=22 then⟨th.reg i.b,s.cells,s.futures.set e.obj.toNat (th.reg i.b),⟨nx,th.regs,th.taint,ev⟩⟩
 else if e.kind=5 then(if th.reg i.a≠0 then⟨1,s.cells,s.futures,⟨nx,th.regs,th.taint,ev⟩⟩else⟨e.value,s.cells,s.futures,⟨i.b,th.regs,th.taint,ev⟩⟩)
 else if e.kind=18∨e.kind=19 then⟨sv,s.cells,s.futures,⟨nx,th.regs,th.taint,ev⟩⟩
 else if e.kind=1∨e.kind=16∨e.kind=2 then⟨e.value,s.cells,s.futures,⟨th.pc,th.regs,th.taint,ev⟩⟩
 else⟨e.value,s.cells,s.futures,⟨nx,th.regs,th.taint,ev⟩⟩
def A8(c:bM)(s:el)(t wake:Int):Option (el×cC):=
 match gh c s t with
 |none=>none
 |some e=>
  if s.cells.length=c.w.cells.length∧s.futures.length=c.w.futures.length then
   let r:=fZ c.w s.sync t e.kind e.obj wake
   if r.2.2 then
    let a:=dU (dm (aB c t) (bN s t).pc) e s (bN s t) r.2.1
    let e':={e with value:=a.value}
    if e.kind≠16∧e.kind≠2 then
     let z:=bW (aB c t) a.thread
     if z.2 then some (⟨r.1,a.cells,a.futures,s.threads.set t.toNat z.1⟩,e')else none
    else some (⟨r.1,a.cells,a.futures,s.threads.set t.toNat a.thread⟩,e')
   else none
  else none
def db(c:bM):el:=⟨cX c.w,c.w.cells.map aY.init,List.replicate c.w.futures.length 0,c.ts.map λt=>⟨0,List.replicate t.regs.toNat 0,List.replicate t.regs.toNat [],0⟩⟩
def Jk(c:bM)(p:List cC×el)(ch:dF):List cC×el:=
 if 400≤p.1.length then p else match A8 c p.2 ch.thread ch.wake with
  |none=>p
  |some (n,e)=>(p.1++[e],n)
def iY(c:bM)(l:List dF):List cC×el:=l.foldl (Jk c) ([],db c)
end Go.Proofs.YtdnpdghlggbklaaGreatDoor.Am
