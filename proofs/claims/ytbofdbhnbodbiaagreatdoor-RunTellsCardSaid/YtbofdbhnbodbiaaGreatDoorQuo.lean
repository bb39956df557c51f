/- A part of the proof; the statement is proved in the last part. -/
import Derived.Test.YtbofdbhnbodbiaaGreatDoorQun
set_option linter.all false
set_option maxRecDepth 100000
set_option maxHeartbeats 20000000
namespace Go.Proofs.YtbofdbhnbodbiaaGreatDoor.Am
section
structure Rn(ins:List aT)(start:Nat)(g:List Bool)(t:Nat):Prop where
 lt:mb ins start t<ins.length
 sil:∀u,u<t->mF ins (mb ins start u)
 bad:∀u,u<t->g[mb ins start u]? =some false
 inj:∀u v,u<v->v<t->mb ins start u≠mb ins start v
section
variable {ins:List aT} (hf:KC ins) {b1 b2:Nat} {start:Nat} (hs:start<ins.length) {g s:List Bool} (hg:g.length=ins.length) (hl:s.length=ins.length) (hsg:∀k:Nat,s[k]? =some true->g[k]? =some true) (hgl:∀k:Nat,g[k]? =some true->gt ins k)
theorem OV{t:Nat}(hf:KC ins)(hs:start<ins.length)(h:Rn ins start g t):t<=ins.length:=by
 have O:((List.range t).map (mb ins start)).Nodup:=by
  refine List.pairwise_map.2 ?_;refine(List.nodup_range (n:=t)).imp_of_mem ?_;intro u v D E G e;rcases Tf u v with B|B
  .exact h.inj u v B (Uk.1 E) e
  .exact h.inj v u UW (Uk.1 D) e.symm
 have B:=Et O (n:=ins.length) (by
  intro j M;obtain⟨u,D,rfl⟩:=TR.1 M;obtain⟨i,N,_⟩:=h.sil u (Uk.1 D);exact(T4.1 N).1)
 simpa using B
include hf hs hg hl
theorem KH(n8:W.Kn)(T:Nat)(E:Rn ins start g T)(N:¬mF ins (mb ins start T)\/g[mb ins start T]? =some true)(Z:List Bool)
  (hn:n8 [.lst (ins.map aT.enc),.sl b1 0 ins.length,.sl b2 0 ins.length,.U1 ins.length,.U1 (start+1:Nat)] [(b2,⟨1,Z.map aB⟩),(b1,⟨1,(mc g ins start T).map aB⟩)]) :
  W.loop (pz n8) [.lst (ins.map aT.enc),.sl b1 0 ins.length,.sl b2 0 ins.length,.U1 start,.U1 ins.length,.U1 start] [(b2,⟨1,Z.map aB⟩),(b1,⟨1,g.map aB⟩)]:=by
 refine uH (λu:Nat=>([.lst (ins.map aT.enc),.sl b1 0 ins.length,.sl b2 0 ins.length,.U1 (mb ins start u:Nat),.U1 ins.length,.U1 start],[(b2,⟨1,Z.map aB⟩),(b1,⟨1,(mc g ins start u).map aB⟩)])) (λu=>T-u) (λu=>u<=T) 0 (TG _) rfl rfl λu hu nx hnx=>?_
 have hk:mb ins start u<ins.length:=by
  rcases Tf u T with h|h
  .obtain⟨i,O,_⟩:=E.sil u h;exact(T4.1 O).1
  .rw[show u=T by omega];exact E.lt
 have hx:=am (f:=aT.enc) hk;unfold aT.enc at hx;have j:=vR ins[mb ins start u].op;obtain⟨b,S⟩:=Gh (l:=mc g ins start u) (k:=mb ins start u) (by rw[jf];omega);have hbm:=CV S;have hw1:IntKind.i64.wrap ((start:Int)+1)=((start+1:Nat):Int):=aw hs (by have:=hf.len;omega);have hon:ng ins[mb ins start u].op=true->b=false->u<T:=λD h2=>by
  rcases Tf u T with h|h
  .exact h
  .exfalso;have e:u=T:=by omega
   subst e;rcases N with N|N
   .exact N ⟨_,Td hk,by simpa[ng,aT.sil]using D⟩
   .rw[og UW u (.inl N)]at S;cases S;cases h2
 have M:u<T->ng ins[mb ins start u].op=true/\b=false:=λh=>by
  obtain⟨i,O,h2⟩:=E.sil u h;rw[Td hk]at O;cases O;refine⟨by simpa[ng,aT.sil]using h2,?_⟩;cases b with
  |false=>rfl
  |true=>
   exfalso;rcases oe u S with Y|⟨v,hv,Y⟩
   .rw[E.bad u h]at Y;cases Y
   .exact E.inj v u hv h Y
 refine vw ?_
 try dsimp only
 rcases Tf u T with h|h
 .obtain⟨D,rfl⟩:=M h;have hfo:=HH hf (E.sil u h);rw[D]at j
  repeat' (first|refine st ?_|(refine pf 151 ?_;refine pm (j) ?_)|(refine pf 152 ?_;refine pm (hfo) ?_)|refine sb λG B=>?_|refine s2 (λh=>?_) λh=>?_|fail)
  have:=hnx (u+1) UW UW;rw[<-EO]at this;exact this
 .have e:u=T:=by omega
  subst e;cases D:ng ins[mb ins start u].op with
  |false=>
   rw[D]at j
   repeat' (first|refine st ?_|(refine pf 151 ?_;refine pm (j) ?_)|refine sb λG B=>?_|refine s2 (λh=>?_) λh=>?_|fail)
   exact hn
  |true=>
   rw[D]at j;cases b with
   |false=>exact absurd (hon D rfl) (Nat.lt_irrefl _)
   |true=>
    repeat' (first|refine st ?_|(refine pf 151 ?_;refine pm (j) ?_)|refine sb λG B=>?_|refine s2 (λh=>?_) λh=>?_|fail)
    exact hn
include hsg in
theorem OW(Q:R)(n8:W.Kn)(hq:¬gt ins start->∀L,Q (.bool false) L)
  (hn:∀T,Rn ins start g T->(¬mF ins (mb ins start T)\/g[mb ins start T]? =some true)->n8 [.lst (ins.map aT.enc),.sl b1 0 ins.length,.sl b2 0 ins.length,.U1 ins.length,.U1 (start+1:Nat)] [(b2,⟨1,(mc s ins start T).map aB⟩),(b1,⟨1,(mc g ins start T).map aB⟩)]) :
  W.loop (pB Q n8) [.lst (ins.map aT.enc),.sl b1 0 ins.length,.sl b2 0 ins.length,.U1 start,.U1 start,.U1 ins.length,.U1 start] [(b2,⟨1,s.map aB⟩),(b1,⟨1,g.map aB⟩)]:=by
 refine uH (λt:Nat=>([.lst (ins.map aT.enc),.sl b1 0 ins.length,.sl b2 0 ins.length,.U1 start,.U1 (mb ins start t:Nat),.U1 ins.length,.U1 start],[(b2,⟨1,(mc s ins start t).map aB⟩),(b1,⟨1,g.map aB⟩)])) (λt=>ins.length-t) (λt=>Rn ins start g t) 0 ⟨hs,λu G=>absurd G (UM _),λu G=>absurd G (UM _),λu v _ hv=>absurd hv (UM _)⟩ rfl rfl λt D nx hnx=>?_
 have hk:=D.lt;have hx:=am (f:=aT.enc) hk;unfold aT.enc at hx;have j:=vR ins[mb ins start t].op;obtain⟨b,O⟩:=Gh (l:=g) (k:=mb ins start t) UW;have hbm:=CV O;obtain⟨c,hc⟩:=Gh (l:=mc s ins start t) (k:=mb ins start t) (by rw[jf];omega);have hcm:=CV hc;refine vw ?_
 try dsimp only
 cases h1:ng ins[mb ins start t].op with
 |false=>
  rw[h1]at j;have Z:¬mF ins (mb ins start t):=λ⟨i,hi,N⟩=>by
   rw[Td hk]at hi;cases hi;have:ng ins[mb ins start t].op=true:=by simpa[ng,aT.sil]using N
   rw[h1]at this;cases this
  repeat' (first|refine st ?_|(refine pf 151 ?_;refine pm (j) ?_)|refine sb λE B=>?_|refine s2 (λh=>?_) λh=>?_|fail)
  exact KH hf hs hg hl n8 t D (.inl Z) _ (hn t D (.inl Z))
 |true=>
  rw[h1]at j;have M:mF ins (mb ins start t):=⟨_,Td hk,by simpa[ng,aT.sil]using h1⟩;cases b with
  |true=>
   repeat' (first|refine st ?_|(refine pf 151 ?_;refine pm (j) ?_)|refine sb λE B=>?_|refine s2 (λh=>?_) λh=>?_|fail)
   exact KH hf hs hg hl n8 t D (.inr O) _ (hn t D (.inr O))
  |false=>
   cases c with
   |true=>
    have:¬gt ins start:=by
     rcases oe t hc with N|⟨u,G,N⟩
     .rw[hsg _ N]at O;cases O
     .exact KG hf D.sil G N
    repeat' (first|refine st ?_|(refine pf 151 ?_;refine pm (j) ?_)|refine sb λE B=>?_|refine s2 (λh=>?_) λh=>?_|fail)
    exact hq this _
   |false=>
    have hfo:=HH hf M;have S:Rn ins start g (t+1):=⟨KD hf M,λu G=>by
     rcases Tf u t with h|h
     .exact D.sil u h
     .rw[show u=t by omega];exact M,λu G=>by
     rcases Tf u t with h|h
     .exact D.bad u h
     .rw[show u=t by omega];exact O,λu v Y hv e=>by
     rcases Tf v t with h|h
     .exact D.inj u v Y h e
     .have N:v=t:=by omega
      subst N;rw[og UW v (.inr ⟨u,Y,e⟩)]at hc;cases hc⟩
    have hle:=OV hf hs S
    repeat' (first|refine st ?_|(refine pf 151 ?_;refine pm (j) ?_)|(refine pf 152 ?_;refine pm (hfo) ?_)|refine sb λE B=>?_|refine s2 (λh=>?_) λh=>?_|fail)
    have:=hnx (t+1) S UW;rw[<-EO]at this;exact this
end
theorem EP{ins:List aT}(hf:KC ins):aq Tryz.prog 105 [.lst (ins.map aT.enc)] (.bool (gA (∀k,k<ins.length->gt ins k))):=by
 have hl:=hf.len;refine ac.fz (pC _ _ _ ?_);refine vw ?_;generalize hQ:(λ(v:AV) (L:SH)=>∃v2 L2,az [v] L [v2] L2/\v2=AV.bool (gA (∀k,k<ins.length->gt ins k))/\L2=[])=Q;have hq:∀b,gA (∀k,k<ins.length->gt ins k)=b->∀L,Q (.bool b) L:=λb hb L=>by subst hQ;exact⟨_,[],az.all (.refl _),by rw[hb],rfl⟩
 clear hQ
 repeat' (first|refine st ?_|refine sb λG E=>?_|refine s2 (λh=>?_) λh=>?_|fail)
 rename_i b1 _;revert G;intro b2 _;have M:∀k:Nat,(List.replicate ins.length false)[k]? =some true->gt ins k:=λk h=>by rw[UB]at h;split at h<;>cases h
 refine uH (α:=Nat×List Bool×List Bool) (λa=>([.lst (ins.map aT.enc),.sl b1 0 ins.length,.sl b2 0 ins.length,.U1 ins.length,.U1 (a.1:Nat)],[(b2,⟨1,a.2.2.map aB⟩),(b1,⟨1,a.2.1.map aB⟩)])) (λa=>ins.length-a.1)
  (λa=>a.1<=ins.length/\a.2.1.length=ins.length/\a.2.2.length=ins.length/\(∀k:Nat,a.2.2[k]? =some true->a.2.1[k]? =some true)/\(∀k:Nat,a.2.1[k]? =some true->gt ins k)/\∀k,k<a.1->gt ins k) (0,List.replicate ins.length false,List.replicate ins.length false)
  ⟨TG _,UZ,UZ,λk h=>h,M,λk h=>absurd h (UM _)⟩ UZ (by simp[aB]) ?_
 rintro⟨a,g,s⟩ ⟨h1,h2,h3,Z,Y,S⟩ nx hnx;dsimp only at h1 h2 h3 Z Y S ⊢;refine vw ?_;rcases Nat.lt_or_ge a ins.length with h|h
 .have hd:=aS h
  repeat' (first|refine st ?_|refine sb λG E=>?_|refine s2 (λh=>?_) λh=>?_|fail)
  refine OW hf h h2 h3 Z Q nx (λO L=>hq _ (dy λj=>O (j a h)) L) λT hw N=>?_
  have hT:gt ins (mb ins a T):=by
   rcases N with N|N
   .have B:=hw.lt;exact⟨0,.ev _ _ (Td B) λhs=>N ⟨_,Td B,hs⟩⟩
   .exact Y _ N
  have j:=EN hf T hw.sil hT;refine hnx (a+1,mc g ins a T,mc s ins a T) ⟨h,by rw[jf,h2],by rw[jf,h3],λk B=>?_,λk B=>?_,λk B=>?_⟩ (by show ins.length-(a+1)<ins.length-a;omega)
  .have hkl:k<s.length:=by have:=(T4.1 B).1;rwa [jf]at this
   rcases oe T B with D|D
   .exact og UW T (.inl (Z k D))
   .exact og UW T (.inr D)
  .rcases oe T B with D|⟨u,hu,D⟩
   .exact Y k D
   .rw[<-D];exact j u UW
  .rcases Tf k a with D|D
   .exact S k D
   .rw[show k=a by dsimp only at B;omega];exact j 0 (Nat.zero_le _)
 .have hd:=aX h
  repeat' (first|refine st ?_|refine sb λG E=>?_|refine s2 (λh=>?_) λh=>?_|fail)
  exact hq _ (eG λk B=>S k UW) _
end
section
structure uI(w:aG)(t n:Nat)(regs:Int)(k:Nat)(i:aT):Prop where
 lo:1<=i.op
 hi:i.op<=28
 last:i.op=28↔k+1=n
 fin:i.op=28->i.site=-1
 sin:i.op≠28->inB i.site w.sites.length=true
 sth:i.op≠28->(w.sites.getD i.site.toNat default).thread=t
 regs:∀r∈aO i,0<=r/\r<regs
 obj:ku w i=true
 jmp:Au n i=true
structure pF(w:aG)(t:Nat)(c:eB):Prop where
 r0:0<=c.regs
 r32:c.regs<=32
 ne:0<c.ins.length
 ins:∀(k:Nat) (h:k<c.ins.length),uI w t c.ins.length c.regs k c.ins[k]
 lans:∀k,k<c.ins.length->gt c.ins k
theorem uI.fit{w:aG}{t:Nat}{c:eB}(hl:c.ins.length<2^48)(h:∀(k:Nat) (h:k<c.ins.length),uI w t c.ins.length c.regs k c.ins[k]):KC c.ins where
 len:=hl
 jmp:=λi j u=>by obtain⟨k,hk,rfl⟩:=List.mem_iff_getElem.1 j;have:=(h k hk).jmp;unfold Au at this;rw[if_pos u]at this;exact av.1 this
 last:=λk i j=>by obtain⟨hk,rfl⟩:=T4.1 j;exact(h k hk).last
theorem BR(i:aT):(aO i).length<=3:=by
 unfold aO
 repeat' split
 all_goals simp
section
variable {w:aG} {t:Nat} {c:eB} {k:Nat} {i:aT} (h0:0<=c.regs) (Q:R) (n45:W.Kn)
 (hno:¬uI w t c.ins.length c.regs k i->Q (.bool false) [])
 (hgo:(∀r∈aO i,0<=r/\r<c.regs)->ku w i=true->Au c.ins.length i=true->n45 [.U1 t,.pptr [w.enc] 0 0,.pptr [c.enc] 0 0,.lst (c.ins.map aT.enc),.U1 c.ins.length,.U1 (k+1:Nat)] [])
 (hl:c.ins.length<2^48) (hk:k<c.ins.length)
include h0 hno hgo hl hk
theorem OX(x:AV):l9 Q n45 [.U1 t,.pptr [w.enc] 0 0,.pptr [c.enc] 0 0,x,.pptr [i.enc] 0 0,.lst (c.ins.map aT.enc),.U1 c.ins.length,.U1 k] []:=by
 have hr:=CR i;have N:=CQ w c.ins.length i;obtain⟨S,E⟩:=TM h0;have Z:IntKind.i64.wrap ((k:Int)+1)=((k+1:Nat):Int):=aw hk UW;refine vw ?_
 repeat' (first|refine st ?_|(refine pf 103 ?_;refine pm (hr) ?_)|refine sb λD u=>?_|refine s2 (λh=>?_) λh=>?_|fail)
 refine dw (aO i).length (λj=>∀r∈(aO i).take j,0<=r/\r<c.regs) (λj=>[.U1 t,.pptr [w.enc] 0 0,.pptr [c.enc] 0 0,.pptr [i.enc] 0 0,.lst (c.ins.map aT.enc),.U1 c.ins.length,.U1 k,.lst ((aO i).map ah),.U1 (aO i).length,.U1 j]) (by have:=BR i;omega) UZ UZ (λj M hd hi O Y hn=>?_) (λj M hd O Y=>?_)
 all_goals refine vw ?_
 .have hx:=am (f:=ah) M;have G:=dU (aO i)[j] S;rw[<-E]at G;cases B:inB (aO i)[j] S with
  |false=>
   rw[B]at G;have:¬uI w t c.ins.length c.regs k i:=λh=>by have:=h.regs _ (Tk M);rw[E,<-av,B]at this;cases this
   repeat' (first|refine st ?_|(refine pf 102 ?_;refine pm (G) ?_)|refine sb λD u=>?_|refine s2 (λh=>?_) λh=>?_|fail)
   exact hno this
  |true=>
   rw[B]at G
   repeat' (first|refine st ?_|(refine pf 102 ?_;refine pm (G) ?_)|refine sb λD u=>?_|refine s2 (λh=>?_) λh=>?_|fail)
   refine hn (yA M O ?_);rw[E];exact av.1 B
 .subst M;rw[UQ]at O;cases B:(ku w i&&Au c.ins.length i)with
  |false=>
   rw[B]at N;have:¬uI w t c.ins.length c.regs k i:=λh=>by rw[h.obj,h.jmp]at B;cases B
   repeat' (first|refine st ?_|(refine pf 104 ?_;refine pm (N) ?_)|refine sb λD u=>?_|refine s2 (λh=>?_) λh=>?_|fail)
   exact hno this
  |true=>
   rw[B]at N;rw[Ty]at B
   repeat' (first|refine st ?_|(refine pf 104 ?_;refine pm (N) ?_)|refine sb λD u=>?_|refine s2 (λh=>?_) λh=>?_|fail)
   exact hgo O B.1 B.2
end
theorem yI(w:aG)(t:Nat)(c:eB)(hl:c.ins.length<2^48):aq Tryz.prog 61 [.agg w.enc,.U1 t,.agg c.enc] (.bool (gA (pF w t c))):=by
  refine ma _ _ _ _ _ ?_;refine vw ?_;generalize hQ:(λ(u:AV) (K:SH)=>u=AV.bool (gA (pF w t c))/\K=[])=Q;have O:∀b,gA (pF w t c)=b->Q (.bool b) []:=λb D=>by subst hQ;exact⟨by rw[D],rfl⟩
  clear hQ;by_cases h0:0<=c.regs/\c.regs<=32/\0<c.ins.length
  · obtain⟨h0,h32,hn0⟩:=h0
    have d1:decide (c.regs<0)=false:=by simpa using h0
    have d2:decide (c.regs > 32)=false:=by simpa using h32
    have d3:decide ((c.ins.length:Int)=0)=false:=decide_eq_false UW
    repeat' (first|refine st ?_|refine sb λM E=>?_|refine s2 (λh=>?_) λh=>?_|fail)
    refine dw c.ins.length (λk=>∀j (h:j<c.ins.length),j<k->uI w t c.ins.length c.regs j c.ins[j]) (λk=>[.U1 t,.pptr [w.enc] 0 0,.pptr [c.enc] 0 0,.lst (c.ins.map aT.enc),.U1 c.ins.length,.U1 k]) UW (λj h hj=>absurd hj (UM _)) UZ (λk hk hd hi N nx hn=>?_) (λk hk hd N nx=>?_)
    all_goals refine vw ?_
    · have hx:=am (f:=aT.enc) hk
      have hno:¬uI w t c.ins.length c.regs k c.ins[k]->Q (.bool false) []:=λh=>O _ (dy λh2=>h (h2.ins k hk))
      have hgo:uI w t c.ins.length c.regs k c.ins[k]->nx [.U1 t,.pptr [w.enc] 0 0,.pptr [c.enc] 0 0,.lst (c.ins.map aT.enc),.U1 c.ins.length,.U1 (k+1:Nat)] []:=λh=>hn λj hj hjk=>by
        rcases Tf j k with g|g
        · exact N j hj g
        · have e:j=k:=by omega
          subst e;exact h
      generalize c.ins[k]=i at hx hno hgo;have B:=λhgo x=>OX (i:=i) (w:=w) (t:=t) (k:=k) h0 Q nx hno hgo hl hk x
      have hs1:IntKind.i64.wrap ((c.ins.length:Int)-1)=((c.ins.length-1:Nat):Int):=by rw[TY _ UW];omega
      have hw:=dU i.site w.sites.length;obtain⟨op,ia,ib,ic,m,G⟩:=i;have he:aT.enc ⟨op,ia,ib,ic,m,G⟩=[.U1 op,.U1 ia,.U1 ib,.U1 ic,.U1 m,.U1 G]:=rfl;rw[he]at hx B;clear he;cases D:inB G w.sites.length with
      |false=>
        rw[D]at hw
        repeat' (first|with_reducible refine B (λr1 Z Y=>?_) _|refine st ?_|(refine pf 102 ?_;refine pm (hw) ?_)|refine sb λM E=>?_|refine s2 (λh=>?_) λh=>?_|fail)
        all_goals first
        | (refine hno fun h9 => ?_
           have g1:=h9.lo;have g2:=h9.hi;have g3:=h9.last;have g4:=h9.fin;have g5:=h9.sin;have g6:=h9.sth
           clear h9 hno hgo hn N B O
           (simp only[D,Tz,decide_eq_true_eq,decide_eq_false_iff_not,ne_eq,Decidable.not_not,decide_eq_decide,imp_false]at *)
           omega)
        | (refine hgo ⟨?_, ?_, ?_, ?_, fun h9 => ?_, fun h9 => ?_, r1, Z, Y⟩
           all_goals clear hno hgo hn N B O r1 Z Y
           all_goals (simp only[D,Tz,decide_eq_true_eq,decide_eq_false_iff_not,ne_eq,Decidable.not_not,decide_eq_decide,imp_false]at *)
           all_goals omega)
        |trace_state
      |true=>
        rw[D]at hw;obtain⟨ks,rfl⟩:=TM (cG D);have S:ks<w.sites.length:=by have:=(av.1 D).2;omega
        have hx2:=am (f:=bQ.enc) S;unfold bQ.enc at hx2
        repeat' (first|with_reducible refine B (λr1 Z Y=>?_) _|refine st ?_|(refine pf 102 ?_;refine pm (hw) ?_)|refine sb λM E=>?_|refine s2 (λh=>?_) λh=>?_|fail)
        all_goals first
        | (refine hno fun h9 => ?_
           have g1:=h9.lo;have g2:=h9.hi;have g3:=h9.last;have g4:=h9.fin;have g5:=h9.sin;have g6:=h9.sth
           clear h9 hno hgo hn N B O
           (simp only[T3,Un,Td S,Uo,D,imp_true_iff,decide_eq_true_eq,decide_eq_false_iff_not,ne_eq,Decidable.not_not,decide_eq_decide,imp_false]at *)
           omega)
        | (refine hgo ⟨?_, ?_, ?_, ?_, fun h9 => D, fun h9 => ?_, r1, Z, Y⟩
           all_goals clear hno hgo hn N B O r1 Z Y
           all_goals (simp only[T3,Un,Td S,Uo,D,imp_true_iff,decide_eq_true_eq,decide_eq_false_iff_not,ne_eq,Decidable.not_not,decide_eq_decide,imp_false]at *)
           all_goals omega)
        |trace_state
    · have ha:=EP (uI.fit hl λj h=>N j h UW)
      repeat' (first|refine st ?_|(refine pf 105 ?_;refine pm (ha) ?_)|refine sb λM E=>?_|refine s2 (λh=>?_) λh=>?_|fail)
      refine O _ ?_;cases D:gA (∀k,k<c.ins.length->gt c.ins k)with
      |true=>exact eG ⟨h0,h32,hn0,λj h=>N j h UW,eH.1 D⟩
      |false=>exact dy λh=>by rw[eG h.lans]at D;cases D
  · have hno:=O _ (dy λh=>h0 ⟨h.r0,h.r32,h.ne⟩)
    repeat' (first|refine st ?_|refine sb λM E=>?_|refine s2 (λh=>?_) λh=>?_|fail)
    all_goals first
      |exact hno
      |(exfalso;refine h0 ?_;simp only[decide_eq_true_eq,decide_eq_false_iff_not]at *;omega)
end
def oh:RF:=nv (bO Tryz.prog Tryz.f153 [] [])
abbrev yJ(a:AV)(L:SH)(Q:R):Prop:=Pc oh 20 Q 0 [] [a] L
def mG(j:AV)(L:SH)(Q:R)(h:yJ j L Q):ac Tryz.prog 153 [j] L Q:=
 fv oh Tryz.func153 h
def qk:RF:=nv (bO Tryz.prog Tryz.f177 [] [])
abbrev Av(a:AV)(L:SH)(Q:R):Prop:=Pc qk 20 Q 0 [] [a] L
def oo(j:AV)(L:SH)(Q:R)(h:Av j L Q):ac Tryz.prog 177 [j] L Q:=
 fv qk Tryz.func177 h
def ql:RF:=nv (bO Tryz.prog Tryz.f155 [] [])
abbrev Aw(a:AV)(L:SH)(Q:R):Prop:=Pc ql 20 Q 0 [] [a] L
def oq(j:AV)(L:SH)(Q:R)(h:Aw j L Q):ac Tryz.prog 155 [j] L Q:=
 fv ql Tryz.func155 h
def lm:RF:=nv (bO Tryz.prog Tryz.f176 [] [])
abbrev uJ(L:SH)(Q:R):Prop:=Pc lm 20 Q 0 [] [] L
def jR(L:SH)(Q:R)(h:uJ L Q):ac Tryz.prog 176 [] L Q:=
 fv lm Tryz.func176 h
def jS:RF:=nv (bO Tryz.prog Tryz.f154 [(9,⟨[0,3,4],[],true,[]⟩)] [])
abbrev sS(a:AV)(L:SH)(Q:R):Prop:=Pc jS 20 Q 0 [] [a] L
def jg(j:AV)(L:SH)(Q:R)(h:sS j L Q):ac Tryz.prog 154 [j] L Q:=
 fv jS Tryz.func154 h
def ou:RF:=nv (bO Tryz.prog Tryz.f107 [(12,⟨[0,3],[],true,[]⟩)] [])
abbrev yK(a:AV)(L:SH)(Q:R):Prop:=Pc ou 20 Q 0 [] [a] L
def iy(j:AV)(L:SH)(Q:R)(h:yK j L Q):ac Tryz.prog 107 [j] L Q:=
 fv ou Tryz.func107 h
def lq:RF:=nv (bO Tryz.prog Tryz.f200 [] [])
abbrev uK(a:AV)(L:SH)(Q:R):Prop:=Pc lq 20 Q 0 [] [a] L
def sT(j:AV)(L:SH)(Q:R)(h:uK j L Q):ac Tryz.prog 200 [j] L Q:=
 fv lq Tryz.func200 h
def jh:RF:=nv (bO Tryz.prog Tryz.f189 [(15,⟨[1,4],[],true,[]⟩)] [(0,[1])])
abbrev rl(a:AV)(L:SH)(Q:R):Prop:=Pc jh 20 Q 0 [] [a] L
def pG(j:AV)(L:SH)(Q:R)(h:rl j L Q):ac Tryz.prog 189 [j] L Q:=
 fv jh Tryz.func189 h
def qm:RF:=nv (bO Tryz.prog Tryz.f190 [] [(0,[1])])
abbrev Ax(a:AV)(L:SH)(Q:R):Prop:=Pc qm 20 Q 0 [] [a] L
def yL(j:AV)(L:SH)(Q:R)(h:Ax j L Q):ac Tryz.prog 190 [j] L Q:=
 fv qm Tryz.func190 h
def cj:RF:=nv (bO Tryz.prog Tryz.f167 [(3902,⟨[1],[],true,[]⟩),(3002,⟨[1],[],true,[]⟩),(2402,⟨[1],[],true,[]⟩),(1802,⟨[1],[],true,[]⟩),(902,⟨[1],[],true,[]⟩)] [(0,[1])])
abbrev pH(Q:R)(a:SH)(b:AV):Prop:=Pc cj 15 Q 3902 [] [b] a
abbrev pI(Q:R)(a:SH)(b:AV):Prop:=Pc cj 16 Q 3002 [] [b] a
abbrev pJ(Q:R)(a:SH)(b:AV):Prop:=Pc cj 17 Q 2402 [] [b] a
abbrev pK(Q:R)(a:SH)(b:AV):Prop:=Pc cj 18 Q 1802 [] [b] a
abbrev pL(Q:R)(a:SH)(b:AV):Prop:=Pc cj 19 Q 902 [] [b] a
abbrev rn(a:AV)(L:SH)(Q:R):Prop:=Pc cj 20 Q 0 [] [a] L
def pM(j:AV)(L:SH)(Q:R)(h:rn j L Q):ac Tryz.prog 167 [j] L Q:=
 fv cj Tryz.func167 h
def iF:RF:=nv (bO Tryz.prog Tryz.f132 [(6,⟨[0,3],[],true,[]⟩)] [])
abbrev pN(a:AV)(L:SH)(Q:R):Prop:=Pc iF 20 Q 0 [] [a] L
def ov(j:AV)(L:SH)(Q:R)(h:pN j L Q):ac Tryz.prog 132 [j] L Q:=
 fv iF Tryz.func132 h
def el:RF:=nv (bO Tryz.prog Tryz.f131 [(1502,⟨[1],[],true,[]⟩),(902,⟨[1],[],true,[]⟩)] [(0,[1])])
abbrev pO(Q:R)(a:SH)(b:AV):Prop:=Pc el 18 Q 1502 [] [b] a
abbrev pP(Q:R)(a:SH)(b:AV):Prop:=Pc el 19 Q 902 [] [b] a
abbrev rq(a:AV)(L:SH)(Q:R):Prop:=Pc el 20 Q 0 [] [a] L
def pQ(j:AV)(L:SH)(Q:R)(h:rq j L Q):ac Tryz.prog 131 [j] L Q:=
 fv el Tryz.func131 h
def oz:RF:=nv (bO Tryz.prog Tryz.f89 [(33,⟨[1,4,5,6],[21],true,[]⟩),(21,⟨[1,4],[],true,[]⟩),(6,⟨[1,3],[],true,[]⟩)] [(0,[1]),(9,[5])])
abbrev yM(a:AV)(L:SH)(Q:R):Prop:=Pc oz 20 Q 0 [] [a] L
def wR(j:AV)(L:SH)(Q:R)(h:yM j L Q):ac Tryz.prog 89 [j] L Q:=
 fv oz Tryz.func89 h
def yN:RF:=nv (bO Tryz.prog Tryz.f108 [(6,⟨[0,1,5],[],true,[]⟩)] [])
abbrev Gi(a b:AV)(L:SH)(Q:R):Prop:=Pc yN 20 Q 0 [] [a,b] L
def jT(j t1:AV)(L:SH)(Q:R)(h:Gi j t1 L Q):ac Tryz.prog 108 [j,t1] L Q:=
 fv yN Tryz.func108 h
def oA:RF:=nv (bO Tryz.prog Tryz.f133 [(6,⟨[0,1,5],[],true,[]⟩)] [])
abbrev yO(a b:AV)(L:SH)(Q:R):Prop:=Pc oA 20 Q 0 [] [a,b] L
def wS(j t1:AV)(L:SH)(Q:R)(h:yO j t1 L Q):ac Tryz.prog 133 [j,t1] L Q:=
 fv oA Tryz.func133 h
def lr:RF:=nv (bO Tryz.prog Tryz.f134 [(6,⟨[0,1,5],[],true,[]⟩)] [])
abbrev uL(a b:AV)(L:SH)(Q:R):Prop:=Pc lr 20 Q 0 [] [a,b] L
def sU(j t1:AV)(L:SH)(Q:R)(h:uL j t1 L Q):ac Tryz.prog 134 [j,t1] L Q:=
 fv lr Tryz.func134 h
def oC:RF:=nv (bO Tryz.prog Tryz.f191 [(60055,⟨[3,7,56],[],true,[]⟩)] [(0,[3])])
abbrev yP(a b c:AV)(L:SH)(Q:R):Prop:=Pc oC 20 Q 0 [] [a,b,c] L
def wT(j t1 t2:AV)(L:SH)(Q:R)(h:yP j t1 t2 L Q):ac Tryz.prog 191 [j,t1,t2] L Q:=
 fv oC Tryz.func191 h
def sV:RF:=nv (bO Tryz.prog Tryz.f170 [] [(0,[5])])
abbrev CW(a b c d e:AV)(L:SH)(Q:R):Prop:=Pc sV 20 Q 0 [] [a,b,c,d,e] L
def qn(u t1 t2 t3 j:AV)(L:SH)(Q:R)(h:CW u t1 t2 t3 j L Q):ac Tryz.prog 170 [u,t1,t2,t3,j] L Q:=
 fv sV Tryz.func170 h
def qo:RF:=nv (bO Tryz.prog Tryz.f192 [(9,⟨[1,4,5,6],[],true,[]⟩)] [(0,[1])])
abbrev Ay(a:AV)(L:SH)(Q:R):Prop:=Pc qo 20 Q 0 [] [a] L
def yQ(j:AV)(L:SH)(Q:R)(h:Ay j L Q):ac Tryz.prog 192 [j] L Q:=
 fv qo Tryz.func192 h
def ky:RF:=nv (bO Tryz.prog Tryz.f193 [(24,⟨[1,3,5,7,8],[],true,[]⟩),(24019,⟨[1,3,5,7],[],true,[]⟩)] [(0,[3,5])])
abbrev yR(Q:R):Vs->SH->Prop:=Jp ky 19 Q 24019 []
abbrev Az(a b c:AV)(L:SH)(Q:R):Prop:=Pc ky 20 Q 0 [] [a,b,c] L
def yS(j t1 t2:AV)(L:SH)(Q:R)(h:Az j t1 t2 L Q):ac Tryz.prog 193 [j,t1,t2] L Q:=
 fv ky Tryz.func193 h
def sW:RF:=nv (bO Tryz.prog Tryz.f171 [] [(0,[3,5])])
abbrev CX(a b c:AV)(L:SH)(Q:R):Prop:=Pc sW 20 Q 0 [] [a,b,c] L
def AA(j t1 t2:AV)(L:SH)(Q:R)(h:CX j t1 t2 L Q):ac Tryz.prog 171 [j,t1,t2] L Q:=
 fv sW Tryz.func171 h
def mH:RF:=nv (bO Tryz.prog Tryz.f172 [] [])
abbrev wU(a:AV)(L:SH)(Q:R):Prop:=Pc mH 20 Q 0 [] [a] L
def uM(j:AV)(L:SH)(Q:R)(h:wU j L Q):ac Tryz.prog 172 [j] L Q:=
 fv mH Tryz.func172 h
def yT:RF:=nv (bO Tryz.prog Tryz.f169 [] [])
abbrev Gj(a b:AV)(L:SH)(Q:R):Prop:=Pc yT 20 Q 0 [] [a,b] L
def EQ(j t1:AV)(L:SH)(Q:R)(h:Gj j t1 L Q):ac Tryz.prog 169 [j,t1] L Q:=
 fv yT Tryz.func169 h
def qp:RF:=nv (bO Tryz.prog Tryz.f92 [(9,⟨[0,3,4],[],true,[]⟩)] [])
abbrev AB(a:AV)(L:SH)(Q:R):Prop:=Pc qp 20 Q 0 [] [a] L
def yU(j:AV)(L:SH)(Q:R)(h:AB j L Q):ac Tryz.prog 92 [j] L Q:=
 fv qp Tryz.func92 h
def gu(c:Int):Bool:=(decide (97<=c)&&decide (c<=122))||(decide (65<=c)&&decide (c<=90))
def uN(c:Int):Bool:=decide (48<=c)&&decide (c<=57)
def gR(c:Int):Bool:=gu c||uN c||decide (c=95)
def BS(c:Int):aq Tryz.prog 153 [.int .u8 c] (.bool (gu c)):=by
 refine mG _ _ _ ?_;refine vw ?_
 repeat' (first|refine st ?_|refine sb λu j=>?_|refine s2 (λh=>?_) λh=>?_|fail)
 all_goals (refine⟨?_,rfl⟩;simp_all[gu]<;>omega)
def KI(c:Int):aq Tryz.prog 177 [.int .u8 c] (.bool (uN c)):=by
 refine oo _ _ _ ?_;refine vw ?_
 repeat' (first|refine st ?_|refine sb λu j=>?_|refine s2 (λh=>?_) λh=>?_|fail)
 all_goals (refine⟨?_,rfl⟩;simp_all[uN]<;>omega)
def KJ(c:Int):aq Tryz.prog 155 [.int .u8 c] (.bool (gR c)):=by
 refine oq _ _ _ ?_;refine vw ?_
 repeat' (first|refine st ?_|(refine pf 153 ?_;refine pm (BS _) ?_)|(refine pf 177 ?_;refine pm (KI _) ?_)|refine sb λu j=>?_|refine s2 (λh=>?_) λh=>?_|fail)
 all_goals (refine⟨?_,rfl⟩;simp_all[gR]<;>omega)
def mI:List bv:=[[118,97,114],[118,111,108,97,116,105,108,101],[109,117,116,101,120],[114,119,108,111,99,107],[99,111,110,100],[102,117,116,117,114,101],[116,104,114,101,97,100],[105,102],[101,108,115,101],[119,104,105,108,101],[108,111,99,107],[114,101,97,100],[119,114,105,116,101],[116,114,97,110,115,97,99,116,105,111,110],[97,116,111,109,105,99],[119,97,105,116],[110,111,116,105,102,121],[110,111,116,105,102,121,97,108,108],[115,112,97,119,110],[106,111,105,110],[115,101,116],[103,101,116]]
def MG:aq Tryz.prog 176 [] (.lst (mI.map au)):=by
 refine ac.fz (jR _ _ ?_);refine vw ?_
 repeat' (first|refine st ?_|refine sb λu j=>?_|refine s2 (λh=>?_) λh=>?_|fail)
 exact⟨_,[],az.all (Fz.sls (l:=mI) (f:=au) rp rfl U0 rfl),rfl,rfl⟩
def CY(s:bv):Bool:=mI.any λx=>decide (x=s)
def OY(s:bv):aq Tryz.prog 154 [.str s] (.bool (CY s)):=by
 refine jg _ _ _ ?_;refine vw ?_
 repeat' (first|refine st ?_|(refine pf 176 ?_;refine pm (MG) ?_)|refine sb λu j=>?_|refine s2 (λh=>?_) λh=>?_|fail)
 refine dt mI (λx=>decide (x=s)) (λi=>[.str s,.lst (mI.map au),.U1 i]) U0 rfl (λi D M O B E G=>?_) (λi D M B E=>?_)
 all_goals refine vw ?_
 .have N:=am (f:=au) D
  repeat' (first|refine st ?_|refine sb λu j=>?_|refine s2 (λh=>?_) λh=>?_|fail)
  .exact⟨by rw[CY,Hw D h],rfl⟩
  .exact G h
 .repeat' (first|refine st ?_|refine sb λu j=>?_|refine s2 (λh=>?_) λh=>?_|fail)
  exact⟨by rw[CY,Kd B],rfl⟩
def dZ(s:bv):Bool:=decide (1<=(s.length:Int))&&decide ((s.length:Int)<=12)&&gu (s.getD 0 0).toNat&&!CY s&&s.all λc=>gR c.toNat
def Iv(s:bv)(S:s.length<2^62):aq Tryz.prog 107 [.str s] (.bool (dZ s)):=by
 refine iy _ _ _ ?_;refine vw ?_;generalize M:(λ(u:AV) (K:SH)=>u=AV.bool (dZ s)/\K=[])=Q;have E:Q (.bool (dZ s)) []:=by subst M;exact⟨rfl,rfl⟩
 clear M;by_cases h0:0<s.length
 .have d1:decide ((s.length:Int)<1)=false:=by simpa using(by omega:(1:Int)<=s.length)
  repeat' (first|refine st ?_|refine Hy (i:=0) ?_ h0|(refine pf 153 ?_;refine pm (BS _) ?_)|(refine pf 154 ?_;refine pm (OY _) ?_)|refine sb λB j=>?_|refine s2 (λh=>?_) λh=>?_|fail)
  all_goals first
   |(refine Eq.mp (congrArg (λb=>Q (AV.bool b) []) ?_) E;simp_all[dZ]<;>omega;done)
   |skip
  refine dt s (λc=>!gR c.toNat) (λi=>[.str s,.U1 i]) S rfl (λi G Z hi D N Y=>?_) (λi G Z D N=>?_)
  all_goals refine vw ?_
  .repeat' (first|refine st ?_|refine Hy ?_|(refine pf 155 ?_;refine pm (KJ _) ?_)|refine sb λB j=>?_|refine s2 (λh=>?_) λh=>?_|fail)
   .refine Eq.mp (congrArg (λb=>Q (AV.bool b) []) ?_) E;have:(s.all λc=>gR c.toNat)=false:=F8 G (by simpa[List.getD,G]using h);simp[dZ,this]
   .exact Y (by simpa[List.getD,G]using h)
  .repeat' (first|refine st ?_|refine sb λB j=>?_|refine s2 (λh=>?_) λh=>?_|fail)
   refine Eq.mp (congrArg (λb=>Q (AV.bool b) []) ?_) E;have:(s.all λc=>gR c.toNat)=true:=Tv.2 λx O=>by simpa using D x O
   simp_all[dZ]<;>omega
 .have d1:decide ((s.length:Int)<1)=true:=by simpa using(by omega:(s.length:Int)<1)
  repeat' (first|refine st ?_|refine sb λB j=>?_|refine s2 (λh=>?_) λh=>?_|fail)
  refine Eq.mp (congrArg (λb=>Q (AV.bool b) []) ?_) E;simp_all[dZ]
structure rt(c:aF)(l:List aF):Prop where
 lo:1<=c.size
 hi:c.size<=4
 fits:c.size<=l.length
 eq:∀k:Nat,(k:Int)<c.size->l[k]? =some ⟨c.name,k,c.size,false,c.init⟩
inductive de:List aF->List bv->Prop where
 |nil:de [] []
 |one (c:aF) (l:List aF) (ns:List bv):c.size=0->c.index=0->de l ns->de (c::l) (c.name::ns)
 |arr (c:aF) (l:List aF) (ns:List bv):c.size≠0->rt c (c::l)->de (l.drop (c.size.toNat-1)) ns->de (c::l) (c.name::ns)
def de.nil_iff{j:List bv}:de [] j↔j=[]:=⟨λh=>by cases h;rfl,λh=>by subst h;exact .nil⟩
def de.one_iff{c:aF}{l:List aF}{D:List bv}(E:c.size=0):de (c::l) D↔c.index=0/\∃j,D=c.name::j/\de l j:=by
 constructor
 .intro h;cases h with
  |one _ _ j _ B u=>exact⟨B,j,rfl,u⟩
  |arr _ _ j G=>exact absurd E G
 .rintro⟨B,j,rfl,u⟩;exact .one _ _ _ E B u
def de.arr_iff{c:aF}{l:List aF}{D:List bv}(E:c.size≠0):de (c::l) D↔rt c (c::l)/\∃j,D=c.name::j/\de (l.drop (c.size.toNat-1)) j:=by
 constructor
 .intro h;cases h with
  |one _ _ j G=>exact absurd G E
  |arr _ _ j _ B u=>exact⟨B,j,rfl,u⟩
 .rintro⟨B,j,rfl,u⟩;exact .arr _ _ _ E B u
def ft(l:List aF)(i:Nat)(acc:List bv):Prop:=i<=l.length/\acc.length<=i/\∀ns,de l ns↔∃n2,ns=acc++n2/\de (l.drop i) n2
def ft.zero(l:List aF):ft l 0 []:=⟨TG _,Te _,λj=>by simp⟩
def ft.step{l:List aF}{i:Nat}{j:List bv}(h:ft l i j)(B:i<l.length)(D:l[i].size=0)(M:l[i].index=0):ft l (i+1) (j++[l[i].name]):=by
 refine⟨B,by have:=h.2.1;simp;omega,λE=>?_⟩;rw[h.2.2 E,Uu B];constructor
 .rintro⟨N,rfl,G⟩;obtain⟨_,n3,rfl,u⟩:=(de.one_iff D).1 G;exact⟨n3,UZ,u⟩
 .rintro⟨n3,rfl,u⟩;exact⟨l[i].name::n3,UZ,(de.one_iff D).2 ⟨M,n3,rfl,u⟩⟩
def ft.jump{l:List aF}{i:Nat}{j:List bv}(h:ft l i j)(G:i<l.length)(D:l[i].size≠0)(u:rt l[i] (l.drop i)):ft l (i+l[i].size.toNat) (j++[l[i].name]):=by
 have S:=u.lo;have M:=u.fits;rw[UH]at M;refine⟨UW,by have:=h.2.1;simp;omega,λE=>?_⟩;rw[h.2.2 E];rw[Uu G]at u ⊢;have e:(l.drop (i+1)).drop (l[i].size.toNat-1)=l.drop (i+l[i].size.toNat):=by rw[List.drop_drop];congr 1;omega
 constructor
 .rintro⟨O,rfl,N⟩;obtain⟨_,n3,rfl,B⟩:=(de.arr_iff D).1 N;exact⟨n3,UZ,e▸B⟩
 .rintro⟨n3,rfl,B⟩;exact⟨l[i].name::n3,UZ,(de.arr_iff D).2 ⟨u,n3,rfl,e▸B⟩⟩
def ft.done{l:List aF}{i:Nat}{j:List bv}(h:ft l i j)(u:l.length<=i):de l j:=by rw[h.2.2 j,List.drop_eq_nil_of_le u];exact⟨[],UZ,.nil⟩
def ft.no1{l:List aF}{i:Nat}{u:List bv}(h:ft l i u)(D:i<l.length)(M:l[i].size=0)(G:l[i].index≠0):∀j,¬de l j:=λj B=>by rw[h.2.2 j,Uu D]at B;obtain⟨N,_,E⟩:=B;exact G ((de.one_iff M).1 E).1
def ft.no2{l:List aF}{i:Nat}{B:List bv}(h:ft l i B)(E:i<l.length)(M:l[i].size≠0)(D:¬rt l[i] (l.drop i)):∀j,¬de l j:=λj u=>by rw[h.2.2 j]at u;rw[Uu E]at u D;obtain⟨N,_,G⟩:=u;exact D ((de.arr_iff M).1 G).1
def de.uniq{l:List aF}{a b:List bv}(h:de l a):de l b->a=b:=by
 induction h generalizing b with
 |nil=>intro j;rw[de.nil_iff.1 j]
 |one c l E D M _ u=>intro j;obtain⟨_,G,rfl,B⟩:=(de.one_iff D).1 j;rw[u B]
 |arr c l E D M _ u=>intro j;obtain⟨_,G,rfl,B⟩:=(de.arr_iff D).1 j;rw[u B]
def de.len{l:List aF}{a:List bv}(h:de l a):a.length<=l.length:=by
 induction h with
 |nil=>exact Te _
 |one c l u D B _ j=>simpa using j
 |arr c l u D B _ j=>rw[UH]at j;simp only[TC];omega
def dV(w:aG)(ns:List bv):List bv:=ns++w.locks.map bn.name++w.conds.map bP.name++w.futures++w.threads
def uO(n:Nat):Int->Int->List bQ->Prop
 |_,_,[]=>True
 |t,x,s::l=>t<=s.thread/\s.thread<n/\s.stmt=(if t<s.thread then 0 else x)/\uO n s.thread (s.stmt+1) l
structure uP(w:aG):Prop where
 c12:w.cells.length<=12
 l4:w.locks.length<=4
 d2:w.conds.length<=2
 f2:w.futures.length<=2
 s60:w.sites.length<=60
 t1:1<=w.threads.length
 t4:w.threads.length<=4
 names:∃ns,de w.cells ns/\(∀s∈dV w ns,dZ s=true)/\(dV w ns).Nodup
 mtx:∀c∈w.conds,jD w c.mutex false=true
 sites:uO w.threads.length 0 0 w.sites
section
theorem oD{α:Type}(S:α->List AV×SH)(m:α->Nat)(G:α->Prop){B:List AV->SH->W.Kn->Prop}{vs:List AV}{L:SH}(D:α)(Y:G D)(N:az vs L (S D).1 (S D).2)
  (h:∀a,G a->∀M:W.Kn,(∀u,G u->m u<m a->∀j E,az j E (S u).1 (S u).2->M j E)->B (S a).1 (S a).2 M):W.loop B vs L:=by
 refine⟨λn vs L=>∃a,G a/\m a=n/\vs=(S a).1/\L=(S a).2,⟨m D,_,_,N,D,Y,rfl,rfl,rfl⟩,?_⟩;rintro n vs L ⟨a,O,rfl,rfl,rfl⟩;exact h a O _ λu g1 g2 j E Z=>⟨m u,_,_,g2,Z,u,g1,rfl,rfl,rfl⟩
theorem MH{K:AV->Prop}(x y:aF)(h:K (.bool (gA (x≠y)))):W.bin Tryz.prog Fl .neq 90 (.agg x.enc) (.agg y.enc) K:=by
 rw[eV];refine⟨.bool (gA (x≠y)),?_,h⟩;have hF:Fl 90=some [9,3,3,4,2]:=by kernel_rfl
 have hi:Tryz.prog.underlying 3=some (.int .i64):=by kernel_rfl
 have hj:Tryz.prog.underlying 2=some (.int .i64):=by kernel_rfl
 have hb:Tryz.prog.underlying 4=some .bool:=by kernel_rfl
 have hs:Tryz.prog.underlying 9=some .string:=by kernel_rfl
 obtain⟨Y,S,O,N,M⟩:=x;obtain⟨G,E,D,B,u⟩:=y;have he:gA ((⟨Y,S,O,N,M⟩:aF)≠⟨G,E,D,B,u⟩)=!(decide (Y=G)&&decide (S=E)&&decide (O=D)&&decide (N=B)&&decide (M=u)):=by
  cases hd:(decide (Y=G)&&decide (S=E)&&decide (O=D)&&decide (N=B)&&decide (M=u))with
  |true=>exact dy λj=>j (by simpa[and_assoc]using hd)
  |false=>
   refine eG λj=>?_
   rw[aF.mk.injEq]at j;obtain⟨h1,h2,h3,h4,Z⟩:=j;simp[h1,h2,h3,h4,Z]at hd
 rw[he];simp only[gH,aF.enc,hF,Ua,qO,qN,hi,hj,hb,hs,if_true];by_cases h1:Y=G<;>by_cases h2:S=E<;>by_cases h3:O=D<;>by_cases h4:N=B<;>by_cases Z:M=u<;>simp[h1,h2,h3,h4,Z]
theorem Iw{K:AV->Prop}(x y:aF)(h:K (.bool (gA (x≠y)))):wb .neq 90 (.agg x.enc) (.agg y.enc) K:=g9 (MH x y h)
section
variable {l:List aF} {Q:R} {nm:bv} {sz ini:Int} {i nb bs bw:Nat} {n1:W.Kn} (hl:l.length<=12) (h1:1<=sz) (h4:sz<=4) (hf:sz<=(l.length-i:Nat))
 (hno:¬rt ⟨nm,0,sz,false,ini⟩ (l.drop i)->∀L,Q (.tup [.nils,.bool false]) L) (x:AV) (X Y:Blk)
 (hgo:rt ⟨nm,0,sz,false,ini⟩ (l.drop i)->∀ix,n1 [.lst (l.map aF.enc),x,.U1 ((i+sz.toNat:Nat):Int)] [(nb,X),(bs,Y),(bw,⟨5,[[.str nm,.U1 ix,.U1 sz,.bool false,.U1 ini]]⟩)])
include hl h1 h4 hf hno hgo
theorem Ro(S:Int):W.loop (mY Q n1) [.lst (l.map aF.enc),x,.U1 (i:Int),.ptr bw 0 0,.U1 sz,.U1 0] [(nb,X),(bs,Y),(bw,⟨5,[[.str nm,.U1 S,.U1 sz,.bool false,.U1 ini]]⟩)]:=by
 obtain⟨m,rfl⟩:=Int.eq_ofNat_of_zero_le (show 0<=sz by omega);refine oD (α:=Nat×Int) (λa=>([.lst (l.map aF.enc),x,.U1 (i:Int),.ptr bw 0 0,.U1 (m:Int),.U1 (a.1:Int)],[(nb,X),(bs,Y),(bw,⟨5,[[.str nm,.U1 a.2,.U1 (m:Int),.bool false,.U1 ini]]⟩)])) (λa=>m-a.1) (λa=>a.1<=m/\∀j,j<a.1->l[i+j]? =some ⟨nm,j,m,false,ini⟩) (0,S) ⟨Nat.zero_le _,λj h=>absurd h (Nat.not_lt_zero _)⟩ (.refl _ _) ?_;rintro⟨k,y⟩ ⟨hk,hG⟩ nx hnx;refine vw ?_;dsimp only at *;rcases Nat.lt_or_ge k m with h|h
 .have d1:decide ((k:Int)<(m:Int))=true:=aS h;have hw1:IntKind.i64.wrap ((k:Int)+1)=((k+1:Nat):Int):=aw h UW;have N:IntKind.i64.wrap ((i:Int)+(k:Int))=((i+k:Nat):Int):=by rw[TY _ UW];omega
  have D:i+k<l.length:=by omega
  have hx:=am (f:=aF.enc) D;have u:l[i+k]? =some l[i+k]:=Td D;generalize l[i+k]=c at hx u;have O:gA (c≠⟨nm,k,m,false,ini⟩)=true->∀L,Q (.tup [.nils,.bool false]) L:=λE=>hno λhb=>by have h2:=hb.eq k (by show(k:Int)<(m:Int);omega);rw[T7,u]at h2;cases h2;exact eH.1 E rfl
  have M:gA (c≠⟨nm,k,m,false,ini⟩)=false->∀j,j<k+1->l[i+j]? =some ⟨nm,j,m,false,ini⟩:=λE j Z=>by
   rcases Tf j k with g|g
   .exact hG j g
   .have e:j=k:=by omega
    subst e;rw[u];by_cases hc:c=⟨nm,j,m,false,ini⟩
    .rw[hc]
    .rw[eG hc]at E;cases E
  repeat' (first|refine st ?_|refine Iw c ⟨nm,k,m,false,ini⟩ ?_|refine sb λG B=>?_|refine s2 (λh=>?_) λh=>?_|fail)
  .exact O UX _
  .exact hnx (k+1,k) ⟨by dsimp only;omega,M UX⟩ (by dsimp only;omega) _ _ (.refl _ _)
 .have d1:decide ((k:Int)<(m:Int))=false:=aX h;have N:IntKind.i64.wrap ((i:Int)+(m:Int))=((i+m:Nat):Int):=by rw[TY _ UW];omega
  obtain rfl:k=m:=by omega
  repeat' (first|refine st ?_|refine sb λG B=>?_|refine s2 (λh=>?_) λh=>?_|fail)
  exact hgo ⟨h1,h4,by rw[UH];omega,λj Z=>by rw[T7];exact hG j (by simpa using Z)⟩ y
end
theorem qq (l : List aF) (hl : l.length <= 12) {Q : R} (hy : ∀ M L v, de l M -> Fz L v (.lst (M.map au)) -> Q (.tup [v, .bool true]) L) (hn : (∀ M, ¬ de l M) -> ∀ L, Q (.tup [.nils, .bool false]) L) :
    hY (.lst (l.map aF.enc)) [] Q:=by
  refine vw ?_;refine oD (α:=Nat×List bv×Option Nat) (λa=>([.lst (l.map aF.enc),aj a.2.2 a.2.1.length,.U1 (a.1:Int)],ab a.2.2 1 (a.2.1.map au))) (λa=>l.length-a.1) (λa=>ft l a.1 a.2.1/\(a.2.2=none->a.2.1=[])) (0,[],none) ⟨.zero l,λ_=>rfl⟩ (az.drop (K:=[]) (.refl _) rfl ((eP.cons (.refl _) (.cons .nile (.cons (.refl _) .nil))).at_.2)) ?_;rintro⟨i,D,o⟩ ⟨hV,ho⟩ nx hnx;refine vw ?_;dsimp only at *;have hva:=hV.2.1;rcases Nat.lt_or_ge i l.length with h|h
  · have hx:=am (f:=aF.enc) h
    have d1:decide ((i:Int)<(l.length:Int))=true:=aS h;have hw1:IntKind.i64.wrap ((i:Int)+1)=((i+1:Nat):Int):=aw h UW;have hw2:IntKind.i64.wrap ((l.length:Int)-(i:Int))=((l.length-i:Nat):Int):=by rw[TY _ UW];omega
    have Z:l[i].size=0->l[i].index≠0->∀M,¬de l M:=hV.no1 h;have Y:l[i].size=0->l[i].index=0->ft l (i+1) (D++[l[i].name]):=hV.step h;have G:l[i].size≠0->¬rt l[i] (l.drop i)->∀M,¬de l M:=hV.no2 h;have S:l[i].size≠0->rt l[i] (l.drop i)->ft l (i+l[i].size.toNat) (D++[l[i].name]):=hV.jump h;have hgo:∀j B L',ft l j (D++[l[i].name])->i<j->fE L' [(B,⟨1,D.map au++[[.str l[i].name]]⟩)]->nx [.lst (l.map aF.enc),.sl B 0 (D.length+1),.U1 (j:Int)] L':=λj B L' h1 E h3=>
      hnx (j,D++[l[i].name],some B) ⟨h1,nofun⟩ (by have:=h1.1;dsimp only;omega) _ _ (az.pickE h3 (by simp[aj]) (by simp[ab,au]))
    have O:(l.drop i)[0]? =some l[i]:=by rw[T7];exact Td h
    clear hnx hV;generalize l[i]=c at *;obtain⟨nm,ix,sz,vo,ini⟩:=c;unfold aF.enc at hx;dsimp only at *;have hbe:rt ⟨nm,ix,sz,vo,ini⟩ (l.drop i)->1<=sz/\sz<=4/\vo=false/\sz<=(l.length-i:Nat):=λu=>by have h1:=u.lo;have E:=u.eq 0 (by show(0:Int)<sz;have:=u.lo;dsimp only at this;omega);rw[O]at E;cases E;exact⟨h1,u.hi,rfl,by have:=u.fits;rw[List.length_drop]at this;exact this⟩
    have hbq:rt ⟨nm,0,sz,false,ini⟩ (l.drop i)->rt ⟨nm,ix,sz,vo,ini⟩ (l.drop i):=λu=>by have E:=u.eq 0 (by show(0:Int)<sz;have:=u.lo;dsimp only at this;omega);rw[O]at E;cases E;exact u
    repeat' (first|refine st ?_|refine bA mm rp UZ (λe=>by simp[ho e]) UY UZ (by simp;omega) (by simp;omega) UY (λB N=>?_)|refine sb λB N=>?_|refine s2 (λh=>?_) λh=>?_|fail)
    all_goals first
      |exact hn (Z (of_decide_eq_true UX) (of_decide_eq_true UX)) _
      |(refine hgo (i+1) _ _ (Y (of_decide_eq_true UX) ?_) (Nat.lt_succ_self _) rp;clear hgo hn hy Z Y G S hbe hbq;simp only[ne_eq,decide_eq_false_iff_not,Decidable.not_not]at *;assumption)
      | (refine hn (G (of_decide_eq_false UX) fun u => ?_) _
         have u:=hbe u;clear hgo hn hy Z Y G S hbe hbq
         (simp only[decide_eq_true_eq,decide_eq_false_iff_not]at *;simp_all<;>omega))
      |skip
    rename_i h1 E h3 h4;subst h4;simp only[decide_eq_false_iff_not]at h h1 E h3;refine Ro hl UW UW UW (λu=>hn (G UW λhc=>u ?_)) _ _ _ (λu y=>hgo _ _ _ (S UW (hbq u)) (by have:=u.lo;dsimp only at this;omega) rp) ix;have h5:=hc.eq 0 (by show(0:Int)<sz;omega);rw[O]at h5;cases h5;exact hc
  · have d1:decide ((i:Int)<(l.length:Int))=false:=aX h
    repeat' (first|refine st ?_|refine sb λB N=>?_|refine s2 (λh=>?_) λh=>?_|fail)
    exact hy D _ _ (hV.done h) (Fz.slot rfl (λe=>by simp[ho e]) U0 (λ_ _=>rfl) λ_ _ q a a2 h1 E=>by rw[h1]at E;cases E;exact .refl _)
end
def cR:RF:=nv (bO Tryz.prog Tryz.f99 [(51,⟨[10,51,52,53],[],true,[]⟩),(27,⟨[2,5,30,31,32],[],true,[]⟩),(12,⟨[2,5,17,18,19],[],true,[]⟩)] [(0,[2]),(5,[7]),(10,[9])])
abbrev np(Q:R):Vs->SH->Kn->Prop:=Lp cR 17 Q 51 []
abbrev nq(Q:R):Vs->SH->Kn->Prop:=Lp cR 18 Q 27 []
abbrev nr(Q:R):Vs->SH->Kn->Prop:=Lp cR 19 Q 12 []
abbrev ie(a b:AV)(L:SH)(Q:R):Prop:=Pc cR 20 Q 0 [] [a,b] L
def nu(j t1:AV)(L:SH)(Q:R)(h:ie j t1 L Q):ac Tryz.prog 99 [j,t1] L Q:=
 fv cR Tryz.func99 h
def oE:RF:=nv (bO Tryz.prog Tryz.f146 [(12,⟨[18],[],true,[]⟩)] [])
abbrev yV(a:AV)(L:SH)(Q:R):Prop:=Pc oE 20 Q 0 [] [a] L
def wV(j:AV)(L:SH)(Q:R)(h:yV j L Q):ac Tryz.prog 146 [j] L Q:=
 fv oE Tryz.func146 h
def jU:RF:=nv (bO Tryz.prog Tryz.f174 [(6,⟨[0,5,6],[],true,[]⟩)] [])
abbrev sX(a:AV)(L:SH)(Q:R):Prop:=Pc jU 20 Q 0 [] [a] L
def ru(j:AV)(L:SH)(Q:R)(h:sX j L Q):ac Tryz.prog 174 [j] L Q:=
 fv jU Tryz.func174 h
end Go.Proofs.YtbofdbhnbodbiaaGreatDoor.Am
