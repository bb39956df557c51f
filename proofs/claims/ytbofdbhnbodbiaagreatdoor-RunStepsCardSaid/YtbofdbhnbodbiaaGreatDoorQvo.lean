/- A part of the proof; the statement is proved in the last part. -/
import Derived.Test.YtbofdbhnbodbiaaGreatDoorQvn
set_option linter.all false
set_option maxRecDepth 100000
set_option maxHeartbeats 20000000
namespace Go.Proofs.YtbofdbhnbodbiaaGreatDoor.Am
section
structure QE(ins:List aS)(start:Nat)(g:List Bool)(t:Nat):Prop where
 lt:lW ins start t<ins.length
 sil:∀u,u<t->mq ins (lW ins start u)
 bad:∀u,u<t->g[lW ins start u]? =some false
 inj:∀u v,u<v->v<t->lW ins start u≠lW ins start v
section
variable {ins:List aS} (hf:J3 ins) {b1 b2:Nat} {start:Nat} (hs:start<ins.length) {g s:List Bool} (hg:g.length=ins.length) (hl:s.length=ins.length) (hsg:∀k:Nat,s[k]? =some true->g[k]? =some true) (hgl:∀k:Nat,g[k]? =some true->gg ins k)
theorem Oh{t:Nat}(hf:J3 ins)(hs:start<ins.length)(h:QE ins start g t):t<=ins.length:=by
 have O:((List.range t).map (lW ins start)).Nodup:=by
  refine List.pairwise_map.2 ?_;refine(List.nodup_range (n:=t)).imp_of_mem ?_;intro u v D E G e;rcases Fn u v with B|B
  .exact h.inj u v B (Tw.1 E) e
  .exact h.inj v u Ua (Tw.1 D) e.symm
 have B:=DW O (n:=ins.length) (by
  intro j M;obtain⟨u,D,rfl⟩:=Tl.1 M;obtain⟨i,N,_⟩:=h.sil u (Tw.1 D);exact(Tf.1 N).1)
 simpa using B
include hf hs hg hl
theorem J7(n8:W.Kn)(T:Nat)(E:QE ins start g T)(N:¬mq ins (lW ins start T)\/g[lW ins start T]? =some true)(Z:List Bool)
  (hn:n8 [.lst (ins.map aS.enc),.sl b1 0 ins.length,.sl b2 0 ins.length,.Uf ins.length,.Uf (start+1:Nat)] [(b2,⟨1,Z.map aB⟩),(b1,⟨1,(lX g ins start T).map aB⟩)]) :
  W.loop (pi n8) [.lst (ins.map aS.enc),.sl b1 0 ins.length,.sl b2 0 ins.length,.Uf start,.Uf ins.length,.Uf start] [(b2,⟨1,Z.map aB⟩),(b1,⟨1,g.map aB⟩)]:=by
 refine uq (λu:Nat=>([.lst (ins.map aS.enc),.sl b1 0 ins.length,.sl b2 0 ins.length,.Uf (lW ins start u:Nat),.Uf ins.length,.Uf start],[(b2,⟨1,Z.map aB⟩),(b1,⟨1,(lX g ins start u).map aB⟩)])) (λu=>T-u) (λu=>u<=T) 0 (SL _) rfl rfl λu hu nx hnx=>?_
 have hk:lW ins start u<ins.length:=by
  rcases Fn u T with h|h
  .obtain⟨i,O,_⟩:=E.sil u h;exact(Tf.1 O).1
  .rw[show u=T by omega];exact E.lt
 have hx:=ao (f:=aS.enc) hk;unfold aS.enc at hx;have j:=vq ins[lW ins start u].op;obtain⟨b,S⟩:=FQ (l:=lX g ins start u) (k:=lW ins start u) (by rw[i6];omega);have hbm:=Ct S;have hw1:IntKind.i64.wrap ((start:Int)+1)=((start+1:Nat):Int):=ax hs (by have:=hf.len;omega);have hon:mP ins[lW ins start u].op=true->b=false->u<T:=λD h2=>by
  rcases Fn u T with h|h
  .exact h
  .exfalso;have e:u=T:=by omega
   subst e;rcases N with N|N
   .exact N ⟨_,mt hk,by simpa[mP,aS.sil]using D⟩
   .rw[nR Ua u (.inl N)]at S;cases S;cases h2
 have M:u<T->mP ins[lW ins start u].op=true/\b=false:=λh=>by
  obtain⟨i,O,h2⟩:=E.sil u h;rw[mt hk]at O;cases O;refine⟨by simpa[mP,aS.sil]using h2,?_⟩;cases b with
  |false=>rfl
  |true=>
   exfalso;rcases nQ u S with Y|⟨v,hv,Y⟩
   .rw[E.bad u h]at Y;cases Y
   .exact E.inj v u hv h Y
 refine vw ?_
 try dsimp only
 rcases Fn u T with h|h
 .obtain⟨D,rfl⟩:=M h;have hfo:=G7 hf (E.sil u h);rw[D]at j
  repeat' (first|refine st ?_|(refine pf 151 ?_;refine pm (j) ?_)|(refine pf 152 ?_;refine pm (hfo) ?_)|refine sb λG B=>?_|refine s2 (λh=>?_) λh=>?_|fail)
  have:=hnx (u+1) Ua Ua;rw[<-Ef]at this;exact this
 .have e:u=T:=by omega
  subst e;cases D:mP ins[lW ins start u].op with
  |false=>
   rw[D]at j
   repeat' (first|refine st ?_|(refine pf 151 ?_;refine pm (j) ?_)|refine sb λG B=>?_|refine s2 (λh=>?_) λh=>?_|fail)
   exact hn
  |true=>
   rw[D]at j;cases b with
   |false=>exact absurd (hon D rfl) (Nat.lt_irrefl _)
   |true=>
    repeat' (first|refine st ?_|(refine pf 151 ?_;refine pm (j) ?_)|refine sb λG B=>?_|refine s2 (λh=>?_) λh=>?_|fail)
    exact hn
include hsg in
theorem Oi(Q:R)(n8:W.Kn)(hq:¬gg ins start->∀L,Q (.bool false) L)
  (hn:∀T,QE ins start g T->(¬mq ins (lW ins start T)\/g[lW ins start T]? =some true)->n8 [.lst (ins.map aS.enc),.sl b1 0 ins.length,.sl b2 0 ins.length,.Uf ins.length,.Uf (start+1:Nat)] [(b2,⟨1,(lX s ins start T).map aB⟩),(b1,⟨1,(lX g ins start T).map aB⟩)]) :
  W.loop (pj Q n8) [.lst (ins.map aS.enc),.sl b1 0 ins.length,.sl b2 0 ins.length,.Uf start,.Uf start,.Uf ins.length,.Uf start] [(b2,⟨1,s.map aB⟩),(b1,⟨1,g.map aB⟩)]:=by
 refine uq (λt:Nat=>([.lst (ins.map aS.enc),.sl b1 0 ins.length,.sl b2 0 ins.length,.Uf start,.Uf (lW ins start t:Nat),.Uf ins.length,.Uf start],[(b2,⟨1,(lX s ins start t).map aB⟩),(b1,⟨1,g.map aB⟩)])) (λt=>ins.length-t) (λt=>QE ins start g t) 0 ⟨hs,λu G=>absurd G (T0 _),λu G=>absurd G (T0 _),λu v _ hv=>absurd hv (T0 _)⟩ rfl rfl λt D nx hnx=>?_
 have hk:=D.lt;have hx:=ao (f:=aS.enc) hk;unfold aS.enc at hx;have j:=vq ins[lW ins start t].op;obtain⟨b,O⟩:=FQ (l:=g) (k:=lW ins start t) Ua;have hbm:=Ct O;obtain⟨c,hc⟩:=FQ (l:=lX s ins start t) (k:=lW ins start t) (by rw[i6];omega);have hcm:=Ct hc;refine vw ?_
 try dsimp only
 cases h1:mP ins[lW ins start t].op with
 |false=>
  rw[h1]at j;have Z:¬mq ins (lW ins start t):=λ⟨i,hi,N⟩=>by
   rw[mt hk]at hi;cases hi;have:mP ins[lW ins start t].op=true:=by simpa[mP,aS.sil]using N
   rw[h1]at this;cases this
  repeat' (first|refine st ?_|(refine pf 151 ?_;refine pm (j) ?_)|refine sb λE B=>?_|refine s2 (λh=>?_) λh=>?_|fail)
  exact J7 hf hs hg hl n8 t D (.inl Z) _ (hn t D (.inl Z))
 |true=>
  rw[h1]at j;have M:mq ins (lW ins start t):=⟨_,mt hk,by simpa[mP,aS.sil]using h1⟩;cases b with
  |true=>
   repeat' (first|refine st ?_|(refine pf 151 ?_;refine pm (j) ?_)|refine sb λE B=>?_|refine s2 (λh=>?_) λh=>?_|fail)
   exact J7 hf hs hg hl n8 t D (.inr O) _ (hn t D (.inr O))
  |false=>
   cases c with
   |true=>
    have:¬gg ins start:=by
     rcases nQ t hc with N|⟨u,G,N⟩
     .rw[hsg _ N]at O;cases O
     .exact J6 hf D.sil G N
    repeat' (first|refine st ?_|(refine pf 151 ?_;refine pm (j) ?_)|refine sb λE B=>?_|refine s2 (λh=>?_) λh=>?_|fail)
    exact hq this _
   |false=>
    have hfo:=G7 hf M;have S:QE ins start g (t+1):=⟨J4 hf M,λu G=>by
     rcases Fn u t with h|h
     .exact D.sil u h
     .rw[show u=t by omega];exact M,λu G=>by
     rcases Fn u t with h|h
     .exact D.bad u h
     .rw[show u=t by omega];exact O,λu v Y hv e=>by
     rcases Fn v t with h|h
     .exact D.inj u v Y h e
     .have N:v=t:=by omega
      subst N;rw[nR Ua v (.inr ⟨u,Y,e⟩)]at hc;cases hc⟩
    have hle:=Oh hf hs S
    repeat' (first|refine st ?_|(refine pf 151 ?_;refine pm (j) ?_)|(refine pf 152 ?_;refine pm (hfo) ?_)|refine sb λE B=>?_|refine s2 (λh=>?_) λh=>?_|fail)
    have:=hnx (t+1) S Ua;rw[<-Ef]at this;exact this
end
theorem Eg{ins:List aS}(hf:J3 ins):aq Tryz.prog 105 [.lst (ins.map aS.enc)] (.bool (gx (∀k,k<ins.length->gg ins k))):=by
 have hl:=hf.len;refine ac.fz (pk _ _ _ ?_);refine vw ?_;generalize hQ:(λ(v:AV) (L:SH)=>∃v2 L2,az [v] L [v2] L2/\v2=AV.bool (gx (∀k,k<ins.length->gg ins k))/\L2=[])=Q;have hq:∀b,gx (∀k,k<ins.length->gg ins k)=b->∀L,Q (.bool b) L:=λb hb L=>by subst hQ;exact⟨_,[],az.all (.refl _),by rw[hb],rfl⟩
 clear hQ
 repeat' (first|refine st ?_|refine sb λG E=>?_|refine s2 (λh=>?_) λh=>?_|fail)
 rename_i b1 _;revert G;intro b2 _;have M:∀k:Nat,(List.replicate ins.length false)[k]? =some true->gg ins k:=λk h=>by rw[TR]at h;split at h<;>cases h
 refine uq (α:=Nat×List Bool×List Bool) (λa=>([.lst (ins.map aS.enc),.sl b1 0 ins.length,.sl b2 0 ins.length,.Uf ins.length,.Uf (a.1:Nat)],[(b2,⟨1,a.2.2.map aB⟩),(b1,⟨1,a.2.1.map aB⟩)])) (λa=>ins.length-a.1)
  (λa=>a.1<=ins.length/\a.2.1.length=ins.length/\a.2.2.length=ins.length/\(∀k:Nat,a.2.2[k]? =some true->a.2.1[k]? =some true)/\(∀k:Nat,a.2.1[k]? =some true->gg ins k)/\∀k,k<a.1->gg ins k) (0,List.replicate ins.length false,List.replicate ins.length false)
  ⟨SL _,Ud,Ud,λk h=>h,M,λk h=>absurd h (T0 _)⟩ Ud (by simp[aB]) ?_
 rintro⟨a,g,s⟩ ⟨h1,h2,h3,Z,Y,S⟩ nx hnx;dsimp only at h1 h2 h3 Z Y S ⊢;refine vw ?_;rcases Nat.lt_or_ge a ins.length with h|h
 .have hd:=aW h
  repeat' (first|refine st ?_|refine sb λG E=>?_|refine s2 (λh=>?_) λh=>?_|fail)
  refine Oi hf h h2 h3 Z Q nx (λO L=>hq _ (dq λj=>O (j a h)) L) λT hw N=>?_
  have hT:gg ins (lW ins a T):=by
   rcases N with N|N
   .have B:=hw.lt;exact⟨0,.ev _ _ (mt B) λhs=>N ⟨_,mt B,hs⟩⟩
   .exact Y _ N
  have j:=Ee hf T hw.sil hT;refine hnx (a+1,lX g ins a T,lX s ins a T) ⟨h,by rw[i6,h2],by rw[i6,h3],λk B=>?_,λk B=>?_,λk B=>?_⟩ (by show ins.length-(a+1)<ins.length-a;omega)
  .have hkl:k<s.length:=by have:=(Tf.1 B).1;rwa [i6]at this
   rcases nQ T B with D|D
   .exact nR Ua T (.inl (Z k D))
   .exact nR Ua T (.inr D)
  .rcases nQ T B with D|⟨u,hu,D⟩
   .exact Y k D
   .rw[<-D];exact j u Ua
  .rcases Fn k a with D|D
   .exact S k D
   .rw[show k=a by dsimp only at B;omega];exact j 0 (Nat.zero_le _)
 .have hd:=aX h
  repeat' (first|refine st ?_|refine sb λG E=>?_|refine s2 (λh=>?_) λh=>?_|fail)
  exact hq _ (eC λk B=>S k Ua) _
end
section
structure ur(w:aI)(t n:Nat)(regs:Int)(k:Nat)(i:aS):Prop where
 lo:1<=i.op
 hi:i.op<=28
 last:i.op=28↔k+1=n
 fin:i.op=28->i.site=-1
 sin:i.op≠28->inB i.site w.sites.length=true
 sth:i.op≠28->(w.sites.getD i.site.toNat default).thread=t
 regs:∀r∈aN i,0<=r/\r<regs
 obj:j9 w i=true
 jmp:Ac n i=true
structure pp(w:aI)(t:Nat)(c:eb):Prop where
 r0:0<=c.regs
 r32:c.regs<=32
 ne:0<c.ins.length
 ins:∀(k:Nat) (h:k<c.ins.length),ur w t c.ins.length c.regs k c.ins[k]
 lans:∀k,k<c.ins.length->gg c.ins k
theorem ur.fit{w:aI}{t:Nat}{c:eb}(hl:c.ins.length<2^48)(h:∀(k:Nat) (h:k<c.ins.length),ur w t c.ins.length c.regs k c.ins[k]):J3 c.ins where
 len:=hl
 jmp:=λi j u=>by obtain⟨k,hk,rfl⟩:=List.mem_iff_getElem.1 j;have:=(h k hk).jmp;unfold Ac at this;rw[if_pos u]at this;exact av.1 this
 last:=λk i j=>by obtain⟨hk,rfl⟩:=Tf.1 j;exact(h k hk).last
theorem Bu(i:aS):(aN i).length<=3:=by
 unfold aN
 repeat' split
 all_goals simp
section
variable {w:aI} {t:Nat} {c:eb} {k:Nat} {i:aS} (h0:0<=c.regs) (Q:R) (n45:W.Kn)
 (hno:¬ur w t c.ins.length c.regs k i->Q (.bool false) [])
 (hgo:(∀r∈aN i,0<=r/\r<c.regs)->j9 w i=true->Ac c.ins.length i=true->n45 [.Uf t,.pptr [w.enc] 0 0,.pptr [c.enc] 0 0,.lst (c.ins.map aS.enc),.Uf c.ins.length,.Uf (k+1:Nat)] [])
 (hl:c.ins.length<2^48) (hk:k<c.ins.length)
include h0 hno hgo hl hk
theorem Oj(x:AV):lU Q n45 [.Uf t,.pptr [w.enc] 0 0,.pptr [c.enc] 0 0,x,.pptr [i.enc] 0 0,.lst (c.ins.map aS.enc),.Uf c.ins.length,.Uf k] []:=by
 have hr:=Cq i;have N:=Cp w c.ins.length i;obtain⟨S,E⟩:=SZ h0;have Z:IntKind.i64.wrap ((k:Int)+1)=((k+1:Nat):Int):=ax hk Ua;refine vw ?_
 repeat' (first|refine st ?_|(refine pf 103 ?_;refine pm (hr) ?_)|refine sb λD u=>?_|refine s2 (λh=>?_) λh=>?_|fail)
 refine eB (aN i).length (λj=>∀r∈(aN i).take j,0<=r/\r<c.regs) (λj=>[.Uf t,.pptr [w.enc] 0 0,.pptr [c.enc] 0 0,.pptr [i.enc] 0 0,.lst (c.ins.map aS.enc),.Uf c.ins.length,.Uf k,.lst ((aN i).map ah),.Uf (aN i).length,.Uf j]) (by have:=Bu i;omega) Ud Ud (λj M hd hi O Y hn=>?_) (λj M hd O Y=>?_)
 all_goals refine vw ?_
 .have hx:=ao (f:=ah) M;have G:=dR (aN i)[j] S;rw[<-E]at G;cases B:inB (aN i)[j] S with
  |false=>
   rw[B]at G;have:¬ur w t c.ins.length c.regs k i:=λh=>by have:=h.regs _ (Sy M);rw[E,<-av,B]at this;cases this
   repeat' (first|refine st ?_|(refine pf 102 ?_;refine pm (G) ?_)|refine sb λD u=>?_|refine s2 (λh=>?_) λh=>?_|fail)
   exact hno this
  |true=>
   rw[B]at G
   repeat' (first|refine st ?_|(refine pf 102 ?_;refine pm (G) ?_)|refine sb λD u=>?_|refine s2 (λh=>?_) λh=>?_|fail)
   refine hn (ye M O ?_);rw[E];exact av.1 B
 .subst M;rw[T4]at O;cases B:(j9 w i&&Ac c.ins.length i)with
  |false=>
   rw[B]at N;have:¬ur w t c.ins.length c.regs k i:=λh=>by rw[h.obj,h.jmp]at B;cases B
   repeat' (first|refine st ?_|(refine pf 104 ?_;refine pm (N) ?_)|refine sb λD u=>?_|refine s2 (λh=>?_) λh=>?_|fail)
   exact hno this
  |true=>
   rw[B]at N;rw[SN]at B
   repeat' (first|refine st ?_|(refine pf 104 ?_;refine pm (N) ?_)|refine sb λD u=>?_|refine s2 (λh=>?_) λh=>?_|fail)
   exact hgo O B.1 B.2
end
theorem yn(w:aI)(t:Nat)(c:eb)(hl:c.ins.length<2^48):aq Tryz.prog 61 [.agg w.enc,.Uf t,.agg c.enc] (.bool (gx (pp w t c))):=by
  refine lV _ _ _ _ _ ?_;refine vw ?_;generalize hQ:(λ(u:AV) (K:SH)=>u=AV.bool (gx (pp w t c))/\K=[])=Q;have O:∀b,gx (pp w t c)=b->Q (.bool b) []:=λb D=>by subst hQ;exact⟨by rw[D],rfl⟩
  clear hQ;by_cases h0:0<=c.regs/\c.regs<=32/\0<c.ins.length
  · obtain⟨h0,h32,hn0⟩:=h0
    have d1:decide (c.regs<0)=false:=by simpa using h0
    have d2:decide (c.regs > 32)=false:=by simpa using h32
    have d3:decide ((c.ins.length:Int)=0)=false:=decide_eq_false Ua
    repeat' (first|refine st ?_|refine sb λM E=>?_|refine s2 (λh=>?_) λh=>?_|fail)
    refine eB c.ins.length (λk=>∀j (h:j<c.ins.length),j<k->ur w t c.ins.length c.regs j c.ins[j]) (λk=>[.Uf t,.pptr [w.enc] 0 0,.pptr [c.enc] 0 0,.lst (c.ins.map aS.enc),.Uf c.ins.length,.Uf k]) Ua (λj h hj=>absurd hj (T0 _)) Ud (λk hk hd hi N nx hn=>?_) (λk hk hd N nx=>?_)
    all_goals refine vw ?_
    · have hx:=ao (f:=aS.enc) hk
      have hno:¬ur w t c.ins.length c.regs k c.ins[k]->Q (.bool false) []:=λh=>O _ (dq λh2=>h (h2.ins k hk))
      have hgo:ur w t c.ins.length c.regs k c.ins[k]->nx [.Uf t,.pptr [w.enc] 0 0,.pptr [c.enc] 0 0,.lst (c.ins.map aS.enc),.Uf c.ins.length,.Uf (k+1:Nat)] []:=λh=>hn λj hj hjk=>by
        rcases Fn j k with g|g
        · exact N j hj g
        · have e:j=k:=by omega
          subst e;exact h
      generalize c.ins[k]=i at hx hno hgo;have B:=λhgo x=>Oj (i:=i) (w:=w) (t:=t) (k:=k) h0 Q nx hno hgo hl hk x
      have hs1:IntKind.i64.wrap ((c.ins.length:Int)-1)=((c.ins.length-1:Nat):Int):=by rw[Te _ Ua];omega
      have hw:=dR i.site w.sites.length;obtain⟨op,ia,ib,ic,m,G⟩:=i;have he:aS.enc ⟨op,ia,ib,ic,m,G⟩=[.Uf op,.Uf ia,.Uf ib,.Uf ic,.Uf m,.Uf G]:=rfl;rw[he]at hx B;clear he;cases D:inB G w.sites.length with
      |false=>
        rw[D]at hw
        repeat' (first|with_reducible refine B (λr1 Z Y=>?_) _|refine st ?_|(refine pf 102 ?_;refine pm (hw) ?_)|refine sb λM E=>?_|refine s2 (λh=>?_) λh=>?_|fail)
        all_goals first
        | (refine hno fun h9 => ?_
           have g1:=h9.lo;have g2:=h9.hi;have g3:=h9.last;have g4:=h9.fin;have g5:=h9.sin;have g6:=h9.sth
           clear h9 hno hgo hn N B O
           (simp only[D,SO,decide_eq_true_eq,decide_eq_false_iff_not,ne_eq,Decidable.not_not,decide_eq_decide,imp_false]at *)
           omega)
        | (refine hgo ⟨?_, ?_, ?_, ?_, fun h9 => ?_, fun h9 => ?_, r1, Z, Y⟩
           all_goals clear hno hgo hn N B O r1 Z Y
           all_goals (simp only[D,SO,decide_eq_true_eq,decide_eq_false_iff_not,ne_eq,Decidable.not_not,decide_eq_decide,imp_false]at *)
           all_goals omega)
        |trace_state
      |true=>
        rw[D]at hw;obtain⟨ks,rfl⟩:=SZ (cG D);have S:ks<w.sites.length:=by have:=(av.1 D).2;omega
        have hx2:=ao (f:=bU.enc) S;unfold bU.enc at hx2
        repeat' (first|with_reducible refine B (λr1 Z Y=>?_) _|refine st ?_|(refine pf 102 ?_;refine pm (hw) ?_)|refine sb λM E=>?_|refine s2 (λh=>?_) λh=>?_|fail)
        all_goals first
        | (refine hno fun h9 => ?_
           have g1:=h9.lo;have g2:=h9.hi;have g3:=h9.last;have g4:=h9.fin;have g5:=h9.sin;have g6:=h9.sth
           clear h9 hno hgo hn N B O
           (simp only[Td,Tz,mt S,TC,D,imp_true_iff,decide_eq_true_eq,decide_eq_false_iff_not,ne_eq,Decidable.not_not,decide_eq_decide,imp_false]at *)
           omega)
        | (refine hgo ⟨?_, ?_, ?_, ?_, fun h9 => D, fun h9 => ?_, r1, Z, Y⟩
           all_goals clear hno hgo hn N B O r1 Z Y
           all_goals (simp only[Td,Tz,mt S,TC,D,imp_true_iff,decide_eq_true_eq,decide_eq_false_iff_not,ne_eq,Decidable.not_not,decide_eq_decide,imp_false]at *)
           all_goals omega)
        |trace_state
    · have ha:=Eg (ur.fit hl λj h=>N j h Ua)
      repeat' (first|refine st ?_|(refine pf 105 ?_;refine pm (ha) ?_)|refine sb λM E=>?_|refine s2 (λh=>?_) λh=>?_|fail)
      refine O _ ?_;cases D:gx (∀k,k<c.ins.length->gg c.ins k)with
      |true=>exact eC ⟨h0,h32,hn0,λj h=>N j h Ua,fH.1 D⟩
      |false=>exact dq λh=>by rw[eC h.lans]at D;cases D
  · have hno:=O _ (dq λh=>h0 ⟨h.r0,h.r32,h.ne⟩)
    repeat' (first|refine st ?_|refine sb λM E=>?_|refine s2 (λh=>?_) λh=>?_|fail)
    all_goals first
      |exact hno
      |(exfalso;refine h0 ?_;simp only[decide_eq_true_eq,decide_eq_false_iff_not]at *;omega)
end
def nS:RF:=nv (bO Tryz.prog Tryz.f153 [] [])
abbrev yo(a:AV)(L:SH)(Q:R):Prop:=Pc nS 20 Q 0 [] [a] L
def mu(j:AV)(L:SH)(Q:R)(h:yo j L Q):ac Tryz.prog 153 [j] L Q:=
 fv nS Tryz.func153 h
def pZ:RF:=nv (bO Tryz.prog Tryz.f177 [] [])
abbrev Ad(a:AV)(L:SH)(Q:R):Prop:=Pc pZ 20 Q 0 [] [a] L
def nT(j:AV)(L:SH)(Q:R)(h:Ad j L Q):ac Tryz.prog 177 [j] L Q:=
 fv pZ Tryz.func177 h
def p7:RF:=nv (bO Tryz.prog Tryz.f155 [] [])
abbrev Ae(a:AV)(L:SH)(Q:R):Prop:=Pc p7 20 Q 0 [] [a] L
def nU(j:AV)(L:SH)(Q:R)(h:Ae j L Q):ac Tryz.prog 155 [j] L Q:=
 fv p7 Tryz.func155 h
def kX:RF:=nv (bO Tryz.prog Tryz.f176 [] [])
abbrev ut(L:SH)(Q:R):Prop:=Pc kX 20 Q 0 [] [] L
def jK(L:SH)(Q:R)(h:ut L Q):ac Tryz.prog 176 [] L Q:=
 fv kX Tryz.func176 h
def jL:RF:=nv (bO Tryz.prog Tryz.f154 [(9,⟨[0,3,4],[],true,[]⟩)] [])
abbrev sD(a:AV)(L:SH)(Q:R):Prop:=Pc jL 20 Q 0 [] [a] L
def i7(j:AV)(L:SH)(Q:R)(h:sD j L Q):ac Tryz.prog 154 [j] L Q:=
 fv jL Tryz.func154 h
def nV:RF:=nv (bO Tryz.prog Tryz.f107 [(12,⟨[0,3],[],true,[]⟩)] [])
abbrev yp(a:AV)(L:SH)(Q:R):Prop:=Pc nV 20 Q 0 [] [a] L
def ik(j:AV)(L:SH)(Q:R)(h:yp j L Q):ac Tryz.prog 107 [j] L Q:=
 fv nV Tryz.func107 h
def kY:RF:=nv (bO Tryz.prog Tryz.f200 [] [])
abbrev uu(a:AV)(L:SH)(Q:R):Prop:=Pc kY 20 Q 0 [] [a] L
def sE(j:AV)(L:SH)(Q:R)(h:uu j L Q):ac Tryz.prog 200 [j] L Q:=
 fv kY Tryz.func200 h
def i8:RF:=nv (bO Tryz.prog Tryz.f189 [(15,⟨[1,4],[],true,[]⟩)] [(0,[1])])
abbrev qV(a:AV)(L:SH)(Q:R):Prop:=Pc i8 20 Q 0 [] [a] L
def pq(j:AV)(L:SH)(Q:R)(h:qV j L Q):ac Tryz.prog 189 [j] L Q:=
 fv i8 Tryz.func189 h
def p8:RF:=nv (bO Tryz.prog Tryz.f190 [] [(0,[1])])
abbrev Af(a:AV)(L:SH)(Q:R):Prop:=Pc p8 20 Q 0 [] [a] L
def yq(j:AV)(L:SH)(Q:R)(h:Af j L Q):ac Tryz.prog 190 [j] L Q:=
 fv p8 Tryz.func190 h
def cl:RF:=nv (bO Tryz.prog Tryz.f167 [(3902,⟨[1],[],true,[]⟩),(3002,⟨[1],[],true,[]⟩),(2402,⟨[1],[],true,[]⟩),(1802,⟨[1],[],true,[]⟩),(902,⟨[1],[],true,[]⟩)] [(0,[1])])
abbrev pr(Q:R)(a:SH)(b:AV):Prop:=Pc cl 15 Q 3902 [] [b] a
abbrev pt(Q:R)(a:SH)(b:AV):Prop:=Pc cl 16 Q 3002 [] [b] a
abbrev pw(Q:R)(a:SH)(b:AV):Prop:=Pc cl 17 Q 2402 [] [b] a
abbrev px(Q:R)(a:SH)(b:AV):Prop:=Pc cl 18 Q 1802 [] [b] a
abbrev py(Q:R)(a:SH)(b:AV):Prop:=Pc cl 19 Q 902 [] [b] a
abbrev qW(a:AV)(L:SH)(Q:R):Prop:=Pc cl 20 Q 0 [] [a] L
def pz(j:AV)(L:SH)(Q:R)(h:qW j L Q):ac Tryz.prog 167 [j] L Q:=
 fv cl Tryz.func167 h
def iy:RF:=nv (bO Tryz.prog Tryz.f132 [(6,⟨[0,3],[],true,[]⟩)] [])
abbrev pB(a:AV)(L:SH)(Q:R):Prop:=Pc iy 20 Q 0 [] [a] L
def nW(j:AV)(L:SH)(Q:R)(h:pB j L Q):ac Tryz.prog 132 [j] L Q:=
 fv iy Tryz.func132 h
def ef:RF:=nv (bO Tryz.prog Tryz.f131 [(1502,⟨[1],[],true,[]⟩),(902,⟨[1],[],true,[]⟩)] [(0,[1])])
abbrev pC(Q:R)(a:SH)(b:AV):Prop:=Pc ef 18 Q 1502 [] [b] a
abbrev pD(Q:R)(a:SH)(b:AV):Prop:=Pc ef 19 Q 902 [] [b] a
abbrev qX(a:AV)(L:SH)(Q:R):Prop:=Pc ef 20 Q 0 [] [a] L
def pE(j:AV)(L:SH)(Q:R)(h:qX j L Q):ac Tryz.prog 131 [j] L Q:=
 fv ef Tryz.func131 h
def nX:RF:=nv (bO Tryz.prog Tryz.f89 [(33,⟨[1,4,5,6],[21],true,[]⟩),(21,⟨[1,4],[],true,[]⟩),(6,⟨[1,3],[],true,[]⟩)] [(0,[1]),(9,[5])])
abbrev yr(a:AV)(L:SH)(Q:R):Prop:=Pc nX 20 Q 0 [] [a] L
def wx(j:AV)(L:SH)(Q:R)(h:yr j L Q):ac Tryz.prog 89 [j] L Q:=
 fv nX Tryz.func89 h
def yu:RF:=nv (bO Tryz.prog Tryz.f108 [(6,⟨[0,1,5],[],true,[]⟩)] [])
abbrev FR(a b:AV)(L:SH)(Q:R):Prop:=Pc yu 20 Q 0 [] [a,b] L
def jM(j t1:AV)(L:SH)(Q:R)(h:FR j t1 L Q):ac Tryz.prog 108 [j,t1] L Q:=
 fv yu Tryz.func108 h
def nY:RF:=nv (bO Tryz.prog Tryz.f133 [(6,⟨[0,1,5],[],true,[]⟩)] [])
abbrev yv(a b:AV)(L:SH)(Q:R):Prop:=Pc nY 20 Q 0 [] [a,b] L
def wA(j t1:AV)(L:SH)(Q:R)(h:yv j t1 L Q):ac Tryz.prog 133 [j,t1] L Q:=
 fv nY Tryz.func133 h
def kZ:RF:=nv (bO Tryz.prog Tryz.f134 [(6,⟨[0,1,5],[],true,[]⟩)] [])
abbrev uv(a b:AV)(L:SH)(Q:R):Prop:=Pc kZ 20 Q 0 [] [a,b] L
def sF(j t1:AV)(L:SH)(Q:R)(h:uv j t1 L Q):ac Tryz.prog 134 [j,t1] L Q:=
 fv kZ Tryz.func134 h
def nZ:RF:=nv (bO Tryz.prog Tryz.f191 [(60055,⟨[3,7,56],[],true,[]⟩)] [(0,[3])])
abbrev yw(a b c:AV)(L:SH)(Q:R):Prop:=Pc nZ 20 Q 0 [] [a,b,c] L
def wB(j t1 t2:AV)(L:SH)(Q:R)(h:yw j t1 t2 L Q):ac Tryz.prog 191 [j,t1,t2] L Q:=
 fv nZ Tryz.func191 h
def sG:RF:=nv (bO Tryz.prog Tryz.f170 [] [(0,[5])])
abbrev Cu(a b c d e:AV)(L:SH)(Q:R):Prop:=Pc sG 20 Q 0 [] [a,b,c,d,e] L
def qa(u t1 t2 t3 j:AV)(L:SH)(Q:R)(h:Cu u t1 t2 t3 j L Q):ac Tryz.prog 170 [u,t1,t2,t3,j] L Q:=
 fv sG Tryz.func170 h
def qc:RF:=nv (bO Tryz.prog Tryz.f192 [(9,⟨[1,4,5,6],[],true,[]⟩)] [(0,[1])])
abbrev Ag(a:AV)(L:SH)(Q:R):Prop:=Pc qc 20 Q 0 [] [a] L
def yx(j:AV)(L:SH)(Q:R)(h:Ag j L Q):ac Tryz.prog 192 [j] L Q:=
 fv qc Tryz.func192 h
def kg:RF:=nv (bO Tryz.prog Tryz.f193 [(24,⟨[1,3,5,7,8],[],true,[]⟩),(24019,⟨[1,3,5,7],[],true,[]⟩)] [(0,[3,5])])
abbrev yz(Q:R):Vs->SH->Prop:=Jp kg 19 Q 24019 []
abbrev Ah(a b c:AV)(L:SH)(Q:R):Prop:=Pc kg 20 Q 0 [] [a,b,c] L
def yA(j t1 t2:AV)(L:SH)(Q:R)(h:Ah j t1 t2 L Q):ac Tryz.prog 193 [j,t1,t2] L Q:=
 fv kg Tryz.func193 h
def sH:RF:=nv (bO Tryz.prog Tryz.f171 [] [(0,[3,5])])
abbrev Cv(a b c:AV)(L:SH)(Q:R):Prop:=Pc sH 20 Q 0 [] [a,b,c] L
def Ai(j t1 t2:AV)(L:SH)(Q:R)(h:Cv j t1 t2 L Q):ac Tryz.prog 171 [j,t1,t2] L Q:=
 fv sH Tryz.func171 h
def mv:RF:=nv (bO Tryz.prog Tryz.f172 [] [])
abbrev wC(a:AV)(L:SH)(Q:R):Prop:=Pc mv 20 Q 0 [] [a] L
def uw(j:AV)(L:SH)(Q:R)(h:wC j L Q):ac Tryz.prog 172 [j] L Q:=
 fv mv Tryz.func172 h
def yB:RF:=nv (bO Tryz.prog Tryz.f169 [] [])
abbrev FS(a b:AV)(L:SH)(Q:R):Prop:=Pc yB 20 Q 0 [] [a,b] L
def Eh(j t1:AV)(L:SH)(Q:R)(h:FS j t1 L Q):ac Tryz.prog 169 [j,t1] L Q:=
 fv yB Tryz.func169 h
def qd:RF:=nv (bO Tryz.prog Tryz.f92 [(9,⟨[0,3,4],[],true,[]⟩)] [])
abbrev Aj(a:AV)(L:SH)(Q:R):Prop:=Pc qd 20 Q 0 [] [a] L
def yC(j:AV)(L:SH)(Q:R)(h:Aj j L Q):ac Tryz.prog 92 [j] L Q:=
 fv qd Tryz.func92 h
def gj(c:Int):Bool:=(decide (97<=c)&&decide (c<=122))||(decide (65<=c)&&decide (c<=90))
def ux(c:Int):Bool:=decide (48<=c)&&decide (c<=57)
def gM(c:Int):Bool:=gj c||ux c||decide (c=95)
def Bv(c:Int):aq Tryz.prog 153 [.int .u8 c] (.bool (gj c)):=by
 refine mu _ _ _ ?_;refine vw ?_
 repeat' (first|refine st ?_|refine sb λu j=>?_|refine s2 (λh=>?_) λh=>?_|fail)
 all_goals (refine⟨?_,rfl⟩;simp_all[gj]<;>omega)
def J8(c:Int):aq Tryz.prog 177 [.int .u8 c] (.bool (ux c)):=by
 refine nT _ _ _ ?_;refine vw ?_
 repeat' (first|refine st ?_|refine sb λu j=>?_|refine s2 (λh=>?_) λh=>?_|fail)
 all_goals (refine⟨?_,rfl⟩;simp_all[ux]<;>omega)
def J9(c:Int):aq Tryz.prog 155 [.int .u8 c] (.bool (gM c)):=by
 refine nU _ _ _ ?_;refine vw ?_
 repeat' (first|refine st ?_|(refine pf 153 ?_;refine pm (Bv _) ?_)|(refine pf 177 ?_;refine pm (J8 _) ?_)|refine sb λu j=>?_|refine s2 (λh=>?_) λh=>?_|fail)
 all_goals (refine⟨?_,rfl⟩;simp_all[gM]<;>omega)
def my:List bu:=[[118,97,114],[118,111,108,97,116,105,108,101],[109,117,116,101,120],[114,119,108,111,99,107],[99,111,110,100],[102,117,116,117,114,101],[116,104,114,101,97,100],[105,102],[101,108,115,101],[119,104,105,108,101],[108,111,99,107],[114,101,97,100],[119,114,105,116,101],[116,114,97,110,115,97,99,116,105,111,110],[97,116,111,109,105,99],[119,97,105,116],[110,111,116,105,102,121],[110,111,116,105,102,121,97,108,108],[115,112,97,119,110],[106,111,105,110],[115,101,116],[103,101,116]]
def L8:aq Tryz.prog 176 [] (.lst (my.map au)):=by
 refine ac.fz (jK _ _ ?_);refine vw ?_
 repeat' (first|refine st ?_|refine sb λu j=>?_|refine s2 (λh=>?_) λh=>?_|fail)
 exact⟨_,[],az.all (Fz.sls (l:=my) (f:=au) rp rfl Ue rfl),rfl,rfl⟩
def Cw(s:bu):Bool:=my.any λx=>decide (x=s)
def Ol(s:bu):aq Tryz.prog 154 [.str s] (.bool (Cw s)):=by
 refine i7 _ _ _ ?_;refine vw ?_
 repeat' (first|refine st ?_|(refine pf 176 ?_;refine pm (L8) ?_)|refine sb λu j=>?_|refine s2 (λh=>?_) λh=>?_|fail)
 refine dy my (λx=>decide (x=s)) (λi=>[.str s,.lst (my.map au),.Uf i]) Ue rfl (λi D M O B E G=>?_) (λi D M B E=>?_)
 all_goals refine vw ?_
 .have N:=ao (f:=au) D
  repeat' (first|refine st ?_|refine sb λu j=>?_|refine s2 (λh=>?_) λh=>?_|fail)
  .exact⟨by rw[Cw,GW D h],rfl⟩
  .exact G h
 .repeat' (first|refine st ?_|refine sb λu j=>?_|refine s2 (λh=>?_) λh=>?_|fail)
  exact⟨by rw[Cw,JF B],rfl⟩
def dW(s:bu):Bool:=decide (1<=(s.length:Int))&&decide ((s.length:Int)<=12)&&gj (s.getD 0 0).toNat&&!Cw s&&s.all λc=>gM c.toNat
def H4(s:bu)(S:s.length<2^62):aq Tryz.prog 107 [.str s] (.bool (dW s)):=by
 refine ik _ _ _ ?_;refine vw ?_;generalize M:(λ(u:AV) (K:SH)=>u=AV.bool (dW s)/\K=[])=Q;have E:Q (.bool (dW s)) []:=by subst M;exact⟨rfl,rfl⟩
 clear M;by_cases h0:0<s.length
 .have d1:decide ((s.length:Int)<1)=false:=by simpa using(by omega:(1:Int)<=s.length)
  repeat' (first|refine st ?_|refine GX (i:=0) ?_ h0|(refine pf 153 ?_;refine pm (Bv _) ?_)|(refine pf 154 ?_;refine pm (Ol _) ?_)|refine sb λB j=>?_|refine s2 (λh=>?_) λh=>?_|fail)
  all_goals first
   |(refine Eq.mp (congrArg (λb=>Q (AV.bool b) []) ?_) E;simp_all[dW]<;>omega;done)
   |skip
  refine dy s (λc=>!gM c.toNat) (λi=>[.str s,.Uf i]) S rfl (λi G Z hi D N Y=>?_) (λi G Z D N=>?_)
  all_goals refine vw ?_
  .repeat' (first|refine st ?_|refine GX ?_|(refine pf 155 ?_;refine pm (J9 _) ?_)|refine sb λB j=>?_|refine s2 (λh=>?_) λh=>?_|fail)
   .refine Eq.mp (congrArg (λb=>Q (AV.bool b) []) ?_) E;have:(s.all λc=>gM c.toNat)=false:=FI G (by simpa[List.getD,G]using h);simp[dW,this]
   .exact Y (by simpa[List.getD,G]using h)
  .repeat' (first|refine st ?_|refine sb λB j=>?_|refine s2 (λh=>?_) λh=>?_|fail)
   refine Eq.mp (congrArg (λb=>Q (AV.bool b) []) ?_) E;have:(s.all λc=>gM c.toNat)=true:=SM.2 λx O=>by simpa using D x O
   simp_all[dW]<;>omega
 .have d1:decide ((s.length:Int)<1)=true:=by simpa using(by omega:(s.length:Int)<1)
  repeat' (first|refine st ?_|refine sb λB j=>?_|refine s2 (λh=>?_) λh=>?_|fail)
  refine Eq.mp (congrArg (λb=>Q (AV.bool b) []) ?_) E;simp_all[dW]
structure qY(c:aH)(l:List aH):Prop where
 lo:1<=c.size
 hi:c.size<=4
 fits:c.size<=l.length
 eq:∀k:Nat,(k:Int)<c.size->l[k]? =some ⟨c.name,k,c.size,false,c.init⟩
inductive c9:List aH->List bu->Prop where
 |nil:c9 [] []
 |one (c:aH) (l:List aH) (ns:List bu):c.size=0->c.index=0->c9 l ns->c9 (c::l) (c.name::ns)
 |arr (c:aH) (l:List aH) (ns:List bu):c.size≠0->qY c (c::l)->c9 (l.drop (c.size.toNat-1)) ns->c9 (c::l) (c.name::ns)
def c9.nil_iff{j:List bu}:c9 [] j↔j=[]:=⟨λh=>by cases h;rfl,λh=>by subst h;exact .nil⟩
def c9.one_iff{c:aH}{l:List aH}{D:List bu}(E:c.size=0):c9 (c::l) D↔c.index=0/\∃j,D=c.name::j/\c9 l j:=by
 constructor
 .intro h;cases h with
  |one _ _ j _ B u=>exact⟨B,j,rfl,u⟩
  |arr _ _ j G=>exact absurd E G
 .rintro⟨B,j,rfl,u⟩;exact .one _ _ _ E B u
def c9.arr_iff{c:aH}{l:List aH}{D:List bu}(E:c.size≠0):c9 (c::l) D↔qY c (c::l)/\∃j,D=c.name::j/\c9 (l.drop (c.size.toNat-1)) j:=by
 constructor
 .intro h;cases h with
  |one _ _ j G=>exact absurd G E
  |arr _ _ j _ B u=>exact⟨B,j,rfl,u⟩
 .rintro⟨B,j,rfl,u⟩;exact .arr _ _ _ E B u
def fi(l:List aH)(i:Nat)(acc:List bu):Prop:=i<=l.length/\acc.length<=i/\∀ns,c9 l ns↔∃n2,ns=acc++n2/\c9 (l.drop i) n2
def fi.zero(l:List aH):fi l 0 []:=⟨SL _,Fd _,λj=>by simp⟩
def fi.step{l:List aH}{i:Nat}{j:List bu}(h:fi l i j)(B:i<l.length)(D:l[i].size=0)(M:l[i].index=0):fi l (i+1) (j++[l[i].name]):=by
 refine⟨B,by have:=h.2.1;simp;omega,λE=>?_⟩;rw[h.2.2 E,TA B];constructor
 .rintro⟨N,rfl,G⟩;obtain⟨_,n3,rfl,u⟩:=(c9.one_iff D).1 G;exact⟨n3,Ud,u⟩
 .rintro⟨n3,rfl,u⟩;exact⟨l[i].name::n3,Ud,(c9.one_iff D).2 ⟨M,n3,rfl,u⟩⟩
def fi.jump{l:List aH}{i:Nat}{j:List bu}(h:fi l i j)(G:i<l.length)(D:l[i].size≠0)(u:qY l[i] (l.drop i)):fi l (i+l[i].size.toNat) (j++[l[i].name]):=by
 have S:=u.lo;have M:=u.fits;rw[TV]at M;refine⟨Ua,by have:=h.2.1;simp;omega,λE=>?_⟩;rw[h.2.2 E];rw[TA G]at u ⊢;have e:(l.drop (i+1)).drop (l[i].size.toNat-1)=l.drop (i+l[i].size.toNat):=by rw[List.drop_drop];congr 1;omega
 constructor
 .rintro⟨O,rfl,N⟩;obtain⟨_,n3,rfl,B⟩:=(c9.arr_iff D).1 N;exact⟨n3,Ud,e▸B⟩
 .rintro⟨n3,rfl,B⟩;exact⟨l[i].name::n3,Ud,(c9.arr_iff D).2 ⟨u,n3,rfl,e▸B⟩⟩
def fi.done{l:List aH}{i:Nat}{j:List bu}(h:fi l i j)(u:l.length<=i):c9 l j:=by rw[h.2.2 j,List.drop_eq_nil_of_le u];exact⟨[],Ud,.nil⟩
def fi.no1{l:List aH}{i:Nat}{u:List bu}(h:fi l i u)(D:i<l.length)(M:l[i].size=0)(G:l[i].index≠0):∀j,¬c9 l j:=λj B=>by rw[h.2.2 j,TA D]at B;obtain⟨N,_,E⟩:=B;exact G ((c9.one_iff M).1 E).1
def fi.no2{l:List aH}{i:Nat}{B:List bu}(h:fi l i B)(E:i<l.length)(M:l[i].size≠0)(D:¬qY l[i] (l.drop i)):∀j,¬c9 l j:=λj u=>by rw[h.2.2 j]at u;rw[TA E]at u D;obtain⟨N,_,G⟩:=u;exact D ((c9.arr_iff M).1 G).1
def c9.uniq{l:List aH}{a b:List bu}(h:c9 l a):c9 l b->a=b:=by
 induction h generalizing b with
 |nil=>intro j;rw[c9.nil_iff.1 j]
 |one c l E D M _ u=>intro j;obtain⟨_,G,rfl,B⟩:=(c9.one_iff D).1 j;rw[u B]
 |arr c l E D M _ u=>intro j;obtain⟨_,G,rfl,B⟩:=(c9.arr_iff D).1 j;rw[u B]
def c9.len{l:List aH}{a:List bu}(h:c9 l a):a.length<=l.length:=by
 induction h with
 |nil=>exact Fd _
 |one c l u D B _ j=>simpa using j
 |arr c l u D B _ j=>rw[TV]at j;simp only[SQ];omega
def dS(w:aI)(ns:List bu):List bu:=ns++w.locks.map bC.name++w.conds.map bR.name++w.futures++w.threads
def uy(n:Nat):Int->Int->List bU->Prop
 |_,_,[]=>True
 |t,x,s::l=>t<=s.thread/\s.thread<n/\s.stmt=(if t<s.thread then 0 else x)/\uy n s.thread (s.stmt+1) l
structure uz(w:aI):Prop where
 c12:w.cells.length<=12
 l4:w.locks.length<=4
 d2:w.conds.length<=2
 f2:w.futures.length<=2
 s60:w.sites.length<=60
 t1:1<=w.threads.length
 t4:w.threads.length<=4
 names:∃ns,c9 w.cells ns/\(∀s∈dS w ns,dW s=true)/\(dS w ns).Nodup
 mtx:∀c∈w.conds,jw w c.mutex false=true
 sites:uy w.threads.length 0 0 w.sites
section
theorem oa{α:Type}(S:α->List AV×SH)(m:α->Nat)(G:α->Prop){B:List AV->SH->W.Kn->Prop}{vs:List AV}{L:SH}(D:α)(Y:G D)(N:az vs L (S D).1 (S D).2)
  (h:∀a,G a->∀M:W.Kn,(∀u,G u->m u<m a->∀j E,az j E (S u).1 (S u).2->M j E)->B (S a).1 (S a).2 M):W.loop B vs L:=by
 refine⟨λn vs L=>∃a,G a/\m a=n/\vs=(S a).1/\L=(S a).2,⟨m D,_,_,N,D,Y,rfl,rfl,rfl⟩,?_⟩;rintro n vs L ⟨a,O,rfl,rfl,rfl⟩;exact h a O _ λu g1 g2 j E Z=>⟨m u,_,_,g2,Z,u,g1,rfl,rfl,rfl⟩
theorem L9{K:AV->Prop}(x y:aH)(h:K (.bool (gx (x≠y)))):W.bin Tryz.prog Fl .neq 90 (.agg x.enc) (.agg y.enc) K:=by
 rw[eP];refine⟨.bool (gx (x≠y)),?_,h⟩;have hF:Fl 90=some [9,3,3,4,2]:=by kernel_rfl
 have hi:Tryz.prog.underlying 3=some (.int .i64):=by kernel_rfl
 have hj:Tryz.prog.underlying 2=some (.int .i64):=by kernel_rfl
 have hb:Tryz.prog.underlying 4=some .bool:=by kernel_rfl
 have hs:Tryz.prog.underlying 9=some .string:=by kernel_rfl
 obtain⟨Y,S,O,N,M⟩:=x;obtain⟨G,E,D,B,u⟩:=y;have he:gx ((⟨Y,S,O,N,M⟩:aH)≠⟨G,E,D,B,u⟩)=!(decide (Y=G)&&decide (S=E)&&decide (O=D)&&decide (N=B)&&decide (M=u)):=by
  cases hd:(decide (Y=G)&&decide (S=E)&&decide (O=D)&&decide (N=B)&&decide (M=u))with
  |true=>exact dq λj=>j (by simpa[and_assoc]using hd)
  |false=>
   refine eC λj=>?_
   rw[aH.mk.injEq]at j;obtain⟨h1,h2,h3,h4,Z⟩:=j;simp[h1,h2,h3,h4,Z]at hd
 rw[he];simp only[gC,aH.enc,hF,Tk,xn,tH,hi,hj,hb,hs,if_true];by_cases h1:Y=G<;>by_cases h2:S=E<;>by_cases h3:O=D<;>by_cases h4:N=B<;>by_cases Z:M=u<;>simp[h1,h2,h3,h4,Z]
theorem H5{K:AV->Prop}(x y:aH)(h:K (.bool (gx (x≠y)))):wb .neq 90 (.agg x.enc) (.agg y.enc) K:=jt (L9 x y h)
section
variable {l:List aH} {Q:R} {nm:bu} {sz ini:Int} {i nb bs bw:Nat} {n1:W.Kn} (hl:l.length<=12) (h1:1<=sz) (h4:sz<=4) (hf:sz<=(l.length-i:Nat))
 (hno:¬qY ⟨nm,0,sz,false,ini⟩ (l.drop i)->∀L,Q (.tup [.nils,.bool false]) L) (x:AV) (X Y:Blk)
 (hgo:qY ⟨nm,0,sz,false,ini⟩ (l.drop i)->∀ix,n1 [.lst (l.map aH.enc),x,.Uf ((i+sz.toNat:Nat):Int)] [(nb,X),(bs,Y),(bw,⟨5,[[.str nm,.Uf ix,.Uf sz,.bool false,.Uf ini]]⟩)])
include hl h1 h4 hf hno hgo
theorem QF(S:Int):W.loop (mN Q n1) [.lst (l.map aH.enc),x,.Uf (i:Int),.ptr bw 0 0,.Uf sz,.Uf 0] [(nb,X),(bs,Y),(bw,⟨5,[[.str nm,.Uf S,.Uf sz,.bool false,.Uf ini]]⟩)]:=by
 obtain⟨m,rfl⟩:=Int.eq_ofNat_of_zero_le (show 0<=sz by omega);refine oa (α:=Nat×Int) (λa=>([.lst (l.map aH.enc),x,.Uf (i:Int),.ptr bw 0 0,.Uf (m:Int),.Uf (a.1:Int)],[(nb,X),(bs,Y),(bw,⟨5,[[.str nm,.Uf a.2,.Uf (m:Int),.bool false,.Uf ini]]⟩)])) (λa=>m-a.1) (λa=>a.1<=m/\∀j,j<a.1->l[i+j]? =some ⟨nm,j,m,false,ini⟩) (0,S) ⟨Nat.zero_le _,λj h=>absurd h (Nat.not_lt_zero _)⟩ (.refl _ _) ?_;rintro⟨k,y⟩ ⟨hk,hG⟩ nx hnx;refine vw ?_;dsimp only at *;rcases Nat.lt_or_ge k m with h|h
 .have d1:decide ((k:Int)<(m:Int))=true:=aW h;have hw1:IntKind.i64.wrap ((k:Int)+1)=((k+1:Nat):Int):=ax h Ua;have N:IntKind.i64.wrap ((i:Int)+(k:Int))=((i+k:Nat):Int):=by rw[Te _ Ua];omega
  have D:i+k<l.length:=by omega
  have hx:=ao (f:=aH.enc) D;have u:l[i+k]? =some l[i+k]:=mt D;generalize l[i+k]=c at hx u;have O:gx (c≠⟨nm,k,m,false,ini⟩)=true->∀L,Q (.tup [.nils,.bool false]) L:=λE=>hno λhb=>by have h2:=hb.eq k (by show(k:Int)<(m:Int);omega);rw[Ti,u]at h2;cases h2;exact fH.1 E rfl
  have M:gx (c≠⟨nm,k,m,false,ini⟩)=false->∀j,j<k+1->l[i+j]? =some ⟨nm,j,m,false,ini⟩:=λE j Z=>by
   rcases Fn j k with g|g
   .exact hG j g
   .have e:j=k:=by omega
    subst e;rw[u];by_cases hc:c=⟨nm,j,m,false,ini⟩
    .rw[hc]
    .rw[eC hc]at E;cases E
  repeat' (first|refine st ?_|refine H5 c ⟨nm,k,m,false,ini⟩ ?_|refine sb λG B=>?_|refine s2 (λh=>?_) λh=>?_|fail)
  .exact O Ub _
  .exact hnx (k+1,k) ⟨by dsimp only;omega,M Ub⟩ (by dsimp only;omega) _ _ (.refl _ _)
 .have d1:decide ((k:Int)<(m:Int))=false:=aX h;have N:IntKind.i64.wrap ((i:Int)+(m:Int))=((i+m:Nat):Int):=by rw[Te _ Ua];omega
  obtain rfl:k=m:=by omega
  repeat' (first|refine st ?_|refine sb λG B=>?_|refine s2 (λh=>?_) λh=>?_|fail)
  exact hgo ⟨h1,h4,by rw[TV];omega,λj Z=>by rw[Ti];exact hG j (by simpa using Z)⟩ y
end
theorem qe (l : List aH) (hl : l.length <= 12) {Q : R} (hy : ∀ M L v, c9 l M -> Fz L v (.lst (M.map au)) -> Q (.tup [v, .bool true]) L) (hn : (∀ M, ¬ c9 l M) -> ∀ L, Q (.tup [.nils, .bool false]) L) :
    gZ (.lst (l.map aH.enc)) [] Q:=by
  refine vw ?_;refine oa (α:=Nat×List bu×Option Nat) (λa=>([.lst (l.map aH.enc),aj a.2.2 a.2.1.length,.Uf (a.1:Int)],ab a.2.2 1 (a.2.1.map au))) (λa=>l.length-a.1) (λa=>fi l a.1 a.2.1/\(a.2.2=none->a.2.1=[])) (0,[],none) ⟨.zero l,λ_=>rfl⟩ (az.drop (K:=[]) (.refl _) rfl ((fU.cons (.refl _) (.cons .nile (.cons (.refl _) .nil))).at_.2)) ?_;rintro⟨i,D,o⟩ ⟨hV,ho⟩ nx hnx;refine vw ?_;dsimp only at *;have hva:=hV.2.1;rcases Nat.lt_or_ge i l.length with h|h
  · have hx:=ao (f:=aH.enc) h
    have d1:decide ((i:Int)<(l.length:Int))=true:=aW h;have hw1:IntKind.i64.wrap ((i:Int)+1)=((i+1:Nat):Int):=ax h Ua;have hw2:IntKind.i64.wrap ((l.length:Int)-(i:Int))=((l.length-i:Nat):Int):=by rw[Te _ Ua];omega
    have Z:l[i].size=0->l[i].index≠0->∀M,¬c9 l M:=hV.no1 h;have Y:l[i].size=0->l[i].index=0->fi l (i+1) (D++[l[i].name]):=hV.step h;have G:l[i].size≠0->¬qY l[i] (l.drop i)->∀M,¬c9 l M:=hV.no2 h;have S:l[i].size≠0->qY l[i] (l.drop i)->fi l (i+l[i].size.toNat) (D++[l[i].name]):=hV.jump h;have hgo:∀j B L',fi l j (D++[l[i].name])->i<j->fV L' [(B,⟨1,D.map au++[[.str l[i].name]]⟩)]->nx [.lst (l.map aH.enc),.sl B 0 (D.length+1),.Uf (j:Int)] L':=λj B L' h1 E h3=>
      hnx (j,D++[l[i].name],some B) ⟨h1,nofun⟩ (by have:=h1.1;dsimp only;omega) _ _ (az.pickE h3 (by simp[aj]) (by simp[ab,au]))
    have O:(l.drop i)[0]? =some l[i]:=by rw[Ti];exact mt h
    clear hnx hV;generalize l[i]=c at *;obtain⟨nm,ix,sz,vo,ini⟩:=c;unfold aH.enc at hx;dsimp only at *;have hbe:qY ⟨nm,ix,sz,vo,ini⟩ (l.drop i)->1<=sz/\sz<=4/\vo=false/\sz<=(l.length-i:Nat):=λu=>by have h1:=u.lo;have E:=u.eq 0 (by show(0:Int)<sz;have:=u.lo;dsimp only at this;omega);rw[O]at E;cases E;exact⟨h1,u.hi,rfl,by have:=u.fits;rw[List.length_drop]at this;exact this⟩
    have hbq:qY ⟨nm,0,sz,false,ini⟩ (l.drop i)->qY ⟨nm,ix,sz,vo,ini⟩ (l.drop i):=λu=>by have E:=u.eq 0 (by show(0:Int)<sz;have:=u.lo;dsimp only at this;omega);rw[O]at E;cases E;exact u
    repeat' (first|refine st ?_|refine bF mm rp Ud (λe=>by simp[ho e]) Uc Ud (by simp;omega) (by simp;omega) Uc (λB N=>?_)|refine sb λB N=>?_|refine s2 (λh=>?_) λh=>?_|fail)
    all_goals first
      |exact hn (Z (of_decide_eq_true Ub) (of_decide_eq_true Ub)) _
      |(refine hgo (i+1) _ _ (Y (of_decide_eq_true Ub) ?_) (Nat.lt_succ_self _) rp;clear hgo hn hy Z Y G S hbe hbq;simp only[ne_eq,decide_eq_false_iff_not,Decidable.not_not]at *;assumption)
      | (refine hn (G (of_decide_eq_false Ub) fun u => ?_) _
         have u:=hbe u;clear hgo hn hy Z Y G S hbe hbq
         (simp only[decide_eq_true_eq,decide_eq_false_iff_not]at *;simp_all<;>omega))
      |skip
    rename_i h1 E h3 h4;subst h4;simp only[decide_eq_false_iff_not]at h h1 E h3;refine QF hl Ua Ua Ua (λu=>hn (G Ua λhc=>u ?_)) _ _ _ (λu y=>hgo _ _ _ (S Ua (hbq u)) (by have:=u.lo;dsimp only at this;omega) rp) ix;have h5:=hc.eq 0 (by show(0:Int)<sz;omega);rw[O]at h5;cases h5;exact hc
  · have d1:decide ((i:Int)<(l.length:Int))=false:=aX h
    repeat' (first|refine st ?_|refine sb λB N=>?_|refine s2 (λh=>?_) λh=>?_|fail)
    exact hy D _ _ (hV.done h) (Fz.slot rfl (λe=>by simp[ho e]) Ue (λ_ _=>rfl) λ_ _ q a a2 h1 E=>by rw[h1]at E;cases E;exact .refl _)
end
def cP:RF:=nv (bO Tryz.prog Tryz.f99 [(51,⟨[10,51,52,53],[],true,[]⟩),(27,⟨[2,5,30,31,32],[],true,[]⟩),(12,⟨[2,5,17,18,19],[],true,[]⟩)] [(0,[2]),(5,[7]),(10,[9])])
abbrev mQ(Q:R):Vs->SH->Kn->Prop:=Lp cP 17 Q 51 []
abbrev mR(Q:R):Vs->SH->Kn->Prop:=Lp cP 18 Q 27 []
abbrev mS(Q:R):Vs->SH->Kn->Prop:=Lp cP 19 Q 12 []
abbrev hC(a b:AV)(L:SH)(Q:R):Prop:=Pc cP 20 Q 0 [] [a,b] L
def mT(j t1:AV)(L:SH)(Q:R)(h:hC j t1 L Q):ac Tryz.prog 99 [j,t1] L Q:=
 fv cP Tryz.func99 h
def oe:RF:=nv (bO Tryz.prog Tryz.f146 [(12,⟨[18],[],true,[]⟩)] [])
abbrev yD(a:AV)(L:SH)(Q:R):Prop:=Pc oe 20 Q 0 [] [a] L
def wD(j:AV)(L:SH)(Q:R)(h:yD j L Q):ac Tryz.prog 146 [j] L Q:=
 fv oe Tryz.func146 h
def jN:RF:=nv (bO Tryz.prog Tryz.f174 [(6,⟨[0,5,6],[],true,[]⟩)] [])
abbrev sI(a:AV)(L:SH)(Q:R):Prop:=Pc jN 20 Q 0 [] [a] L
def qZ(j:AV)(L:SH)(Q:R)(h:sI j L Q):ac Tryz.prog 174 [j] L Q:=
 fv jN Tryz.func174 h
end Go.Proofs.YtbofdbhnbodbiaaGreatDoor.Am
