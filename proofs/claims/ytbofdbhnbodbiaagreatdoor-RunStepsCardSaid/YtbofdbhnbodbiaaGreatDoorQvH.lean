/- A part of the proof; the statement is proved in the last part. -/
import Derived.Test.YtbofdbhnbodbiaaGreatDoorQvG
set_option linter.all false
set_option maxRecDepth 100000
set_option maxHeartbeats 20000000
namespace Go.Proofs.YtbofdbhnbodbiaaGreatDoor.Am
def OZ(p:bT)(bw:Nat)(s:mc)(m:Nat)(u:AV)(K:SH):Prop:=
 ∃(e:Int) (s':mc),u=.Uf e/\K.Perm (s'.L p bw)/\s'.Ok m/\s'.t=s.t/\s'.o1=s.o1/\s'.ar=s.ar/\s'.k=s.k
def O0 (p : bT) (Y : Nat) (s : mc) (x : aa) (m : Nat) (hw : p.wt < 2 ^ 40) (ht : s.t < p.threads.length) (j : s.Ok m) (hm : m < 2 ^ 40) (hx : x.wt < 2 ^ 40) :
    ac Tryz.prog 135 [.ptr Y 0 0,.agg x.row] (s.L p Y) (OZ p Y s (m+1)):=by
  have M:=x.wt_eq;have hl1:=p.decls_len;have hl2:=p.threads_len;obtain⟨op,line,u,arg,index,e,body,els⟩:=x;simp only[aa.name,aa.arg,aa.index,aa.expr,aa.body,aa.els]at M;have E:=λ(a b:Int) (nm:bu)=>Iz Y (.lst (p.decls.map aM.enc)) (.lst (p.threads.map ai.enc)) (.Uf s.t) (aj s.o2 s.sp.length) (aj s.o3 s.se.length) s.o1 s.ar s.k (ab s.o2 1 (s.sp.map au)++ab s.o3 1 (s.se.map au)) a b nm j.a0 j.ak j.k6;have cw:=λ(nm:bu) (a b:Int)=>KX p s.t nm a b hw ht;obtain⟨w5,g5,h5⟩:=Mv p s.t u hw ht;have ce:=λ(y:aw) (hy:y.wt<2^40)=>OY p s.t y hw ht hy;have G:=ce e Ua;unfold aw.row at G;have hda:=iO p.decls u Ua;have N:=me p.threads u Ua;have hlen2:s.sp.length<=2^40:=by have:=j.pm;omega
  have hlen3:s.se.length<=2^40:=by have:=j.em;omega
  have hat2:=ac.within (R:=[]) (KY s.o2 s.sp _ u j.p0 Ua) ((show ea s.o2 1 (s.sp.map au) (s.L p Y) _ by unfold mc.L;repeat constructor).perm.trans (.of_eq (Ta _).symm));have hat3:=ac.within (R:=[]) (KY s.o3 s.se _ u j.e0 Ua) ((show ea s.o3 1 (s.se.map au) (s.L p Y) _ by unfold mc.L;repeat constructor).perm.trans (.of_eq (Ta _).symm));refine ac.fz (tg _ _ _ _ ?_);refine vw ?_;generalize hQ:(λ(v:AV) (L:SH)=>∃v2 L2,az [v] L [v2] L2/\OZ p Y s (m+1) v2 L2)=Q;have O:∀(v:Int) (K:SH) (Z:mc),fV K (Z.L p Y)->Z.Ok (m+1)->Z.t=s.t->Z.o1=s.o1->Z.ar=s.ar->Z.k=s.k->Q (.Uf v) K:=λv K Z h1 h2 h3 h4 h5 h6=>by subst hQ;exact⟨_,_,az.pick h1 rfl,v,Z,rfl,.refl _,h2,h3,h4,h5,h6⟩
  have S:∀(v:Int),Q (.Uf v) (s.L p Y):=λv=>by subst hQ;exact⟨_,_,az.refl _ _,v,s,rfl,.refl _,⟨j.a0,j.ak,j.k6,j.p0,j.e0,TO j.pm,TO j.em⟩,rfl,rfl,rfl,rfl⟩
  clear hQ;unfold mc.L mc.row at *;unfold aa.row;dsimp only[aa.op,aa.line,aa.name,aa.arg,aa.index,aa.expr,aa.body,aa.els];by_cases p1:op=1
  · subst p1
    cases index with
    |nil=>
      repeat' (first|refine st ?_|(refine pf 170 ?_;refine pm (h5) ?_)|(refine pf 170 ?_;refine pm (cw _ _ _) ?_)|((with_reducible refine bb 168 ?_);(refine vm (E _ _ _) ?_;rintro _ _ ⟨r_,rfl,rfl⟩))|(refine pf 172 ?_;refine pm (o5 _) ?_)|(refine pf 169 ?_;refine pm (Mu _ _) ?_)|(refine pf 171 ?_;refine pm (G) ?_)|(refine pf 134 ?_;refine pm (N) ?_)|refine sb λB D=>?_|refine s2 (λh=>?_) λh=>?_|fail)
      exact S _
    |cons i r=>
      have hei:=ce i (by simp only[aw.wts]at M;omega);unfold aw.row at hei;have hx0:=yb (l:=i::r) (i:=0) Ud;have d1:decide (((i::r).length:Int)=0)=false:=by simp;omega
      repeat' (first|refine st ?_|(refine pf 170 ?_;refine pm (h5) ?_)|(refine pf 170 ?_;refine pm (cw _ _ _) ?_)|((with_reducible refine bb 168 ?_);(refine vm (E _ _ _) ?_;rintro _ _ ⟨r_,rfl,rfl⟩))|(refine pf 172 ?_;refine pm (o5 _) ?_)|(refine pf 169 ?_;refine pm (Mu _ _) ?_)|(refine pf 171 ?_;refine pm (G) ?_)|(refine pf 134 ?_;refine pm (N) ?_)|(refine pf 171 ?_;refine pm (hei) ?_)|refine sb λB D=>?_|refine s2 (λh=>?_) λh=>?_|fail)
      exact S _
  have d1:decide (op=1)=false:=decide_eq_false p1;have fin:w5=0->∃k:Nat,k<p.decls.length/\aq Tryz.prog 133 [.lst (p.decls.map aM.enc),.str u] (.Uf (k:Int)):=λh=>by obtain⟨k,h1,h2⟩:=g5 h;exact⟨k,h1,h2▸hda⟩
  by_cases hz:w5=0
  · obtain⟨k,g1,hdk⟩:=fin hz
    have hy:=ao (f:=aM.enc) g1;clear fin hda g5 hz p1 M ce
    repeat' (first|refine st ?_|(refine pf 170 ?_;refine pm (h5) ?_)|(refine pf 170 ?_;refine pm (cw _ _ _) ?_)|((with_reducible refine bb 168 ?_);(refine vm (E _ _ _) ?_;rintro _ _ ⟨r_,rfl,rfl⟩))|(refine pf 172 ?_;refine pm (o5 _) ?_)|(refine pf 169 ?_;refine pm (Mu _ _) ?_)|(refine pf 171 ?_;refine pm (G) ?_)|(refine pf 134 ?_;refine pm (N) ?_)|(refine pf 133 ?_;refine pm (hdk) ?_)|((with_reducible refine eh 168 ?_);refine lQ (E _ _ _) ?_;rintro _ _ ⟨r_,rfl,rfl⟩)|((with_reducible refine eh 108 ?_);first|(refine lQ hat2 ?_;rintro _ _ ⟨r_,rfl,rfl⟩)|(refine lQ hat3 ?_;rintro _ _ ⟨r_,rfl,rfl⟩))|refine bF rp rp Ud (λe=>by first|simp[j.p0 e]|simp[j.e0 e]) Uc Ud (by simp;omega) (by simp;omega) Uc (λB D=>?_)|refine sb λB D=>?_|refine s2 (λh=>?_) λh=>?_|fail)
    all_goals first
      |exact S _
      | (refine O _ _ { s with o2 := some B, sp := s.sp ++ [u] } ?_ ⟨j.a0, j.ak, j.k6, nofun, j.e0, by have := j.pm; simp; omega, TO j.em⟩ rfl rfl rfl rfl
         simp only[aj,ab,SD,SQ,S2,LT,Sx,S6];exact .one (.there _ (.there _ (.here _))) (.slot (.there _ (.there _ (.here _))) (.one (.here _) (.slotl (.there _ .last)))))
      | (refine O _ _ { s with o3 := some B, se := s.se ++ [u] } ?_ ⟨j.a0, j.ak, j.k6, j.p0, nofun, TO j.pm, by have := j.em; simp; omega⟩ rfl rfl rfl rfl
         simp only[aj,ab,SD,SQ,S2,LT,Sx,S6];exact .one (.there _ (.there _ (.here _))) (.slot (.there _ (.there _ (.here _))) (.slot (.there _ (.there _ (.here _))) (.one (.here _) (.nil _)))))
  · have dz:decide (w5≠0)=true:=decide_eq_true hz
    clear fin hda g5 hz p1 M ce
    repeat' (first|refine st ?_|(refine pf 170 ?_;refine pm (h5) ?_)|(refine pf 170 ?_;refine pm (cw _ _ _) ?_)|((with_reducible refine bb 168 ?_);(refine vm (E _ _ _) ?_;rintro _ _ ⟨r_,rfl,rfl⟩))|(refine pf 172 ?_;refine pm (o5 _) ?_)|(refine pf 169 ?_;refine pm (Mu _ _) ?_)|(refine pf 171 ?_;refine pm (G) ?_)|(refine pf 134 ?_;refine pm (N) ?_)|((with_reducible refine eh 108 ?_);first|(refine lQ hat2 ?_;rintro _ _ ⟨r_,rfl,rfl⟩)|(refine lQ hat3 ?_;rintro _ _ ⟨r_,rfl,rfl⟩))|refine bF rp rp Ud (λe=>by first|simp[j.p0 e]|simp[j.e0 e]) Uc Ud (by simp;omega) (by simp;omega) Uc (λB D=>?_)|refine sb λB D=>?_|refine s2 (λh=>?_) λh=>?_|fail)
    all_goals first
      |exact S _
      | (refine O _ _ { s with o2 := some B, sp := s.sp ++ [u] } ?_ ⟨j.a0, j.ak, j.k6, nofun, j.e0, by have := j.pm; simp; omega, TO j.em⟩ rfl rfl rfl rfl
         simp only[aj,ab,SD,SQ,S2,LT,Sx,S6];exact .one (.there _ (.there _ (.here _))) (.slot (.there _ (.there _ (.here _))) (.one (.here _) (.slotl (.there _ .last)))))
      | (refine O _ _ { s with o3 := some B, se := s.se ++ [u] } ?_ ⟨j.a0, j.ak, j.k6, j.p0, nofun, TO j.pm, by have := j.em; simp; omega⟩ rfl rfl rfl rfl
         simp only[aj,ab,SD,SQ,S2,LT,Sx,S6];exact .one (.there _ (.there _ (.here _))) (.slot (.there _ (.there _ (.here _))) (.slot (.there _ (.there _ (.here _))) (.one (.here _) (.nil _)))))
end Go.Proofs.YtbofdbhnbodbiaaGreatDoor.Am
