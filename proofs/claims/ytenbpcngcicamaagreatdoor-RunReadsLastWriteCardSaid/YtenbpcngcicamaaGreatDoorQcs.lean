/- A part of the proof; the statement is proved in the last part. -/
import Derived.Test.YtenbpcngcicamaaGreatDoorQcr
set_option linter.unusedSimpArgs false
set_option linter.unusedVariables false
namespace Go.Proofs.YtenbpcngcicamaaGreatDoor.Am
section
set_option maxRecDepth 100000
set_option maxHeartbeats 4000000
def Ss(p:bO)(bw:Nat)(s:na)(m:Nat)(u:AV)(K:SH):Prop:=
 ∃(e:Int) (s':na),u=.W9 e∧K.Perm (s'.L p bw)∧s'.Ok m∧s'.t=s.t∧s'.o1=s.o1∧s'.ar=s.ar∧s'.k=s.k
theorem St (p : bO) (bw : Nat) (s : na) (x : ab) (m : Nat) (hw : p.wt < 2 ^ 40) (ht : s.t < p.threads.length) (hs : s.Ok m) (hm : m < 2 ^ 40) (hx : x.wt < 2 ^ 40) :
    ai Tryz.prog 65 [.ptr bw 0 0,.agg x.row] (s.L p bw) (Ss p bw s (m+1)):=by
  have hxw:=x.wt_eq;have hl1:=p.decls_len;have hl2:=p.threads_len;obtain⟨op,line,name,arg,index,e,body,els⟩:=x;simp only[ab.name,ab.arg,ab.index,ab.expr,ab.body,ab.els]at hxw;have hin:=λ(a b:Int) (nm:bj)=>Mf bw (.lst (p.decls.map aH.enc)) (.lst (p.threads.map aj.enc)) (.W9 s.t) (aq s.o2 s.sp.length) (aq s.o3 s.se.length) s.o1 s.ar s.k (ah s.o2 1 (s.sp.map aw)++ah s.o3 1 (s.se.map aw)) a b nm hs.a0 hs.ak hs.k6;have cw:=λ(nm:bj) (a b:Int)=>Ow p s.t nm a b hw ht;obtain⟨w5,g5,h5⟩:=P3 p s.t name hw ht;have ce:=λ(y:au) (hy:y.wt<2^40)=>Sr p s.t y hw ht hy;have hex:=ce e W4;unfold au.row at hex;have hda:=i8 p.decls name W4;have hta:=np p.threads name W4;have hlen2:s.sp.length≤2^40:=by have:=hs.pm;omega
  have hlen3:s.se.length≤2^40:=by have:=hs.em;omega
  have hat2:=ai.within (R:=[]) (Ox s.o2 s.sp _ name hs.p0 W4) ((show dQ s.o2 1 (s.sp.map aw) (s.L p bw) _ by unfold na.L;repeat constructor).perm.trans (.of_eq (V5 _).symm));have hat3:=ai.within (R:=[]) (Ox s.o3 s.se _ name hs.e0 W4) ((show dQ s.o3 1 (s.se.map aw) (s.L p bw) _ by unfold na.L;repeat constructor).perm.trans (.of_eq (V5 _).symm));refine ai.fz (yf _ _ _ _ ?_);unfold ml;generalize hQ:(λ(v:AV) (L:SH)=>∃v2 L2,aI [v] L [v2] L2∧Ss p bw s (m+1) v2 L2)=Q;have hqg:∀(v:Int) (K:SH) (s':na),gI K (s'.L p bw)→s'.Ok (m+1)→s'.t=s.t→s'.o1=s.o1→s'.ar=s.ar→s'.k=s.k→Q (.W9 v) K:=λv K s' h1 h2 h3 h4 h5 h6=>by subst hQ;exact⟨_,_,aI.pick h1 rfl,v,s',rfl,.refl _,h2,h3,h4,h5,h6⟩
  have hq0:∀(v:Int),Q (.W9 v) (s.L p bw):=λv=>by subst hQ;exact⟨_,_,aI.refl _ _,v,s,rfl,.refl _,⟨hs.a0,hs.ak,hs.k6,hs.p0,hs.e0,Wu hs.pm,Wu hs.em⟩,rfl,rfl,rfl,rfl⟩
  clear hQ;unfold na.L na.row at *;unfold ab.row;dsimp only[ab.op,ab.line,ab.name,ab.arg,ab.index,ab.expr,ab.body,ab.els];by_cases p1:op=1
  · subst p1
    cases index with
    |nil=>
      repeat' (first|refine st ?_|(refine pf 102 ?_;refine pm (h5) ?_)|(refine pf 102 ?_;refine pm (cw _ _ _) ?_)|((with_reducible refine aZ 100 ?_);(refine AW (hin _ _ _) ?_;rintro _ _ ⟨r_,rfl,rfl⟩))|(refine pf 104 ?_;refine pm (qt _) ?_)|(refine pf 101 ?_;refine pm (P2 _ _) ?_)|(refine pf 103 ?_;refine pm (hex) ?_)|(refine pf 63 ?_;refine pm (hta) ?_)|refine sb λnb_ hnb_=>?_|refine s2 (λh=>?_) λh=>?_|fail)
      exact hq0 _
    |cons i r=>
      have hei:=ce i (by simp only[au.wts]at hxw;omega);unfold au.row at hei;have hx0:=De (l:=i::r) (i:=0) W7;have d1:decide (((i::r).length:Int)=0)=false:=by simp;omega
      repeat' (first|refine st ?_|(refine pf 102 ?_;refine pm (h5) ?_)|(refine pf 102 ?_;refine pm (cw _ _ _) ?_)|((with_reducible refine aZ 100 ?_);(refine AW (hin _ _ _) ?_;rintro _ _ ⟨r_,rfl,rfl⟩))|(refine pf 104 ?_;refine pm (qt _) ?_)|(refine pf 101 ?_;refine pm (P2 _ _) ?_)|(refine pf 103 ?_;refine pm (hex) ?_)|(refine pf 63 ?_;refine pm (hta) ?_)|(refine pf 103 ?_;refine pm (hei) ?_)|refine sb λnb_ hnb_=>?_|refine s2 (λh=>?_) λh=>?_|fail)
      exact hq0 _
  have d1:decide (op=1)=false:=decide_eq_false p1;have fin:w5=0→∃k:Nat,k<p.decls.length∧aB Tryz.prog 62 [.lst (p.decls.map aH.enc),.str name] (.W9 (k:Int)):=λh=>by obtain⟨k,h1,h2⟩:=g5 h;exact⟨k,h1,h2▸hda⟩
  by_cases hz:w5=0
  · obtain⟨k,g1,hdk⟩:=fin hz
    have hy:=az (f:=aH.enc) g1;clear fin hda g5 hz p1 hxw ce
    repeat' (first|refine st ?_|(refine pf 102 ?_;refine pm (h5) ?_)|(refine pf 102 ?_;refine pm (cw _ _ _) ?_)|((with_reducible refine aZ 100 ?_);(refine AW (hin _ _ _) ?_;rintro _ _ ⟨r_,rfl,rfl⟩))|(refine pf 104 ?_;refine pm (qt _) ?_)|(refine pf 101 ?_;refine pm (P2 _ _) ?_)|(refine pf 103 ?_;refine pm (hex) ?_)|(refine pf 63 ?_;refine pm (hta) ?_)|(refine pf 62 ?_;refine pm (hdk) ?_)|((with_reducible refine ef 100 ?_);refine sR (hin _ _ _) ?_;rintro _ _ ⟨r_,rfl,rfl⟩)|((with_reducible refine ef 64 ?_);first|(refine sR hat2 ?_;rintro _ _ ⟨r_,rfl,rfl⟩)|(refine sR hat3 ?_;rintro _ _ ⟨r_,rfl,rfl⟩))|refine cy rp rp W7 (λe=>by first|simp[hs.p0 e]|simp[hs.e0 e]) W6 W7 (by simp;omega) (by simp;omega) W6 (λnb_ hnb_=>?_)|refine sb λnb_ hnb_=>?_|refine s2 (λh=>?_) λh=>?_|fail)
    all_goals first
      |exact hq0 _
      | (refine hqg _ _ { s with o2 := some nb_, sp := s.sp ++ [name] } ?_ ⟨hs.a0, hs.ak, hs.k6, nofun, hs.e0, by have := hs.pm; simp; omega, Wu hs.em⟩ rfl rfl rfl rfl
         simp only[aq,ah,Vy,VL,VU,Vr,Vp,V9];exact .one (.there _ (.there _ (.here _))) (.slot (.there _ (.there _ (.here _))) (.one (.here _) (.slotl (.there _ .last)))))
      | (refine hqg _ _ { s with o3 := some nb_, se := s.se ++ [name] } ?_ ⟨hs.a0, hs.ak, hs.k6, hs.p0, nofun, Wu hs.pm, by have := hs.em; simp; omega⟩ rfl rfl rfl rfl
         simp only[aq,ah,Vy,VL,VU,Vr,Vp,V9];exact .one (.there _ (.there _ (.here _))) (.slot (.there _ (.there _ (.here _))) (.slot (.there _ (.there _ (.here _))) (.one (.here _) (.nil _)))))
  · have dz:decide (w5≠0)=true:=decide_eq_true hz
    clear fin hda g5 hz p1 hxw ce
    repeat' (first|refine st ?_|(refine pf 102 ?_;refine pm (h5) ?_)|(refine pf 102 ?_;refine pm (cw _ _ _) ?_)|((with_reducible refine aZ 100 ?_);(refine AW (hin _ _ _) ?_;rintro _ _ ⟨r_,rfl,rfl⟩))|(refine pf 104 ?_;refine pm (qt _) ?_)|(refine pf 101 ?_;refine pm (P2 _ _) ?_)|(refine pf 103 ?_;refine pm (hex) ?_)|(refine pf 63 ?_;refine pm (hta) ?_)|((with_reducible refine ef 64 ?_);first|(refine sR hat2 ?_;rintro _ _ ⟨r_,rfl,rfl⟩)|(refine sR hat3 ?_;rintro _ _ ⟨r_,rfl,rfl⟩))|refine cy rp rp W7 (λe=>by first|simp[hs.p0 e]|simp[hs.e0 e]) W6 W7 (by simp;omega) (by simp;omega) W6 (λnb_ hnb_=>?_)|refine sb λnb_ hnb_=>?_|refine s2 (λh=>?_) λh=>?_|fail)
    all_goals first
      |exact hq0 _
      | (refine hqg _ _ { s with o2 := some nb_, sp := s.sp ++ [name] } ?_ ⟨hs.a0, hs.ak, hs.k6, nofun, hs.e0, by have := hs.pm; simp; omega, Wu hs.em⟩ rfl rfl rfl rfl
         simp only[aq,ah,Vy,VL,VU,Vr,Vp,V9];exact .one (.there _ (.there _ (.here _))) (.slot (.there _ (.there _ (.here _))) (.one (.here _) (.slotl (.there _ .last)))))
      | (refine hqg _ _ { s with o3 := some nb_, se := s.se ++ [name] } ?_ ⟨hs.a0, hs.ak, hs.k6, hs.p0, nofun, Wu hs.pm, by have := hs.em; simp; omega⟩ rfl rfl rfl rfl
         simp only[aq,ah,Vy,VL,VU,Vr,Vp,V9];exact .one (.there _ (.there _ (.here _))) (.slot (.there _ (.there _ (.here _))) (.slot (.there _ (.there _ (.here _))) (.one (.here _) (.nil _)))))
end
end Go.Proofs.YtenbpcngcicamaaGreatDoor.Am
