/- A part of the proof; the statement is proved in the last part. -/
import Derived.Test.YtdnpdghlggbklaaGreatDoorQtu
set_option linter.unusedSimpArgs false
set_option linter.unusedVariables false
namespace Go.Proofs.YtdnpdghlggbklaaGreatDoor.Am
section
set_option maxRecDepth 100000
set_option maxHeartbeats 4000000
def U2(p:bZ)(bw:Nat)(s:oq)(m:Nat)(u:AV)(K:SH):Prop:=
 ∃(e:Int) (s':oq),u=.ZO e∧K.Perm (s'.L p bw)∧s'.Ok m∧s'.t=s.t∧s'.o1=s.o1∧s'.ar=s.ar∧s'.k=s.k
theorem U3 (p : bZ) (bw : Nat) (s : oq) (x : ab) (m : Nat) (hw : p.wt < 2 ^ 40) (ht : s.t < p.threads.length) (hs : s.Ok m) (hm : m < 2 ^ 40) (hx : x.wt < 2 ^ 40) :
    af Tryz.prog 91 [.ptr bw 0 0,.agg x.row] (s.L p bw) (U2 p bw s (m+1)):=by
  have hxw:=x.wt_eq;have hl1:=p.decls_len;have hl2:=p.threads_len;obtain⟨op,line,name,arg,index,e,body,els⟩:=x;simp only[ab.name,ab.arg,ab.index,ab.expr,ab.body,ab.els]at hxw;have hin:=λ(a b:Int) (nm:bC)=>On bw (.lst (p.decls.map aJ.enc)) (.lst (p.threads.map ah.enc)) (.ZO s.t) (ao s.o2 s.sp.length) (ao s.o3 s.se.length) s.o1 s.ar s.k (ae s.o2 1 (s.sp.map av)++ae s.o3 1 (s.se.map av)) a b nm hs.a0 hs.ak hs.k6;have cw:=λ(nm:bC) (a b:Int)=>QN p s.t nm a b hw ht;obtain⟨w5,g5,h5⟩:=Sv p s.t name hw ht;have ce:=λ(y:aq) (hy:y.wt<2^40)=>U1 p s.t y hw ht hy;have hex:=ce e ZJ;unfold aq.row at hex;have hda:=jv p.decls name ZJ;have hta:=ov p.threads name ZJ;have hlen2:s.sp.length≤2^40:=by have:=hs.pm;omega
  have hlen3:s.se.length≤2^40:=by have:=hs.em;omega
  have hat2:=af.within (R:=[]) (QO s.o2 s.sp _ name hs.p0 ZJ) ((show dW s.o2 1 (s.sp.map av) (s.L p bw) _ by unfold oq.L;repeat constructor).perm.trans (.of_eq (YM _).symm));have hat3:=af.within (R:=[]) (QO s.o3 s.se _ name hs.e0 ZJ) ((show dW s.o3 1 (s.se.map av) (s.L p bw) _ by unfold oq.L;repeat constructor).perm.trans (.of_eq (YM _).symm));refine af.fz (zK _ _ _ _ ?_);unfold mU;generalize hQ:(λ(v:AV) (L:SH)=>∃v2 L2,aG [v] L [v2] L2∧U2 p bw s (m+1) v2 L2)=Q;have hqg:∀(v:Int) (K:SH) (s':oq),gJ K (s'.L p bw)→s'.Ok (m+1)→s'.t=s.t→s'.o1=s.o1→s'.ar=s.ar→s'.k=s.k→Q (.ZO v) K:=λv K s' h1 h2 h3 h4 h5 h6=>by subst hQ;exact⟨_,_,aG.pick h1 rfl,v,s',rfl,.refl _,h2,h3,h4,h5,h6⟩
  have hq0:∀(v:Int),Q (.ZO v) (s.L p bw):=λv=>by subst hQ;exact⟨_,_,aG.refl _ _,v,s,rfl,.refl _,⟨hs.a0,hs.ak,hs.k6,hs.p0,hs.e0,Zi hs.pm,Zi hs.em⟩,rfl,rfl,rfl,rfl⟩
  clear hQ;unfold oq.L oq.row at *;unfold ab.row;dsimp only[ab.op,ab.line,ab.name,ab.arg,ab.index,ab.expr,ab.body,ab.els];by_cases p1:op=1
  · subst p1
    cases index with
    |nil=>
      repeat' (first|refine st ?_|(refine pf 124 ?_;refine pm (h5) ?_)|(refine pf 124 ?_;refine pm (cw _ _ _) ?_)|((with_reducible refine bz 122 ?_);(refine Cm (hin _ _ _) ?_;rintro _ _ ⟨r_,rfl,rfl⟩))|(refine pf 126 ?_;refine pm (rC _) ?_)|(refine pf 123 ?_;refine pm (Su _ _) ?_)|(refine pf 125 ?_;refine pm (hex) ?_)|(refine pf 89 ?_;refine pm (hta) ?_)|refine sb λnb_ hnb_=>?_|refine s2 (λh=>?_) λh=>?_|fail)
      exact hq0 _
    |cons i r=>
      have hei:=ce i (by simp only[aq.wts]at hxw;omega);unfold aq.row at hei;have hx0:=EI (l:=i::r) (i:=0) ZM;have d1:decide (((i::r).length:Int)=0)=false:=by simp;omega
      repeat' (first|refine st ?_|(refine pf 124 ?_;refine pm (h5) ?_)|(refine pf 124 ?_;refine pm (cw _ _ _) ?_)|((with_reducible refine bz 122 ?_);(refine Cm (hin _ _ _) ?_;rintro _ _ ⟨r_,rfl,rfl⟩))|(refine pf 126 ?_;refine pm (rC _) ?_)|(refine pf 123 ?_;refine pm (Su _ _) ?_)|(refine pf 125 ?_;refine pm (hex) ?_)|(refine pf 89 ?_;refine pm (hta) ?_)|(refine pf 125 ?_;refine pm (hei) ?_)|refine sb λnb_ hnb_=>?_|refine s2 (λh=>?_) λh=>?_|fail)
      exact hq0 _
  have d1:decide (op=1)=false:=decide_eq_false p1;have fin:w5=0→∃k:Nat,k<p.decls.length∧az Tryz.prog 88 [.lst (p.decls.map aJ.enc),.str name] (.ZO (k:Int)):=λh=>by obtain⟨k,h1,h2⟩:=g5 h;exact⟨k,h1,h2▸hda⟩
  by_cases hz:w5=0
  · obtain⟨k,g1,hdk⟩:=fin hz
    have hy:=ay (f:=aJ.enc) g1;clear fin hda g5 hz p1 hxw ce
    repeat' (first|refine st ?_|(refine pf 124 ?_;refine pm (h5) ?_)|(refine pf 124 ?_;refine pm (cw _ _ _) ?_)|((with_reducible refine bz 122 ?_);(refine Cm (hin _ _ _) ?_;rintro _ _ ⟨r_,rfl,rfl⟩))|(refine pf 126 ?_;refine pm (rC _) ?_)|(refine pf 123 ?_;refine pm (Su _ _) ?_)|(refine pf 125 ?_;refine pm (hex) ?_)|(refine pf 89 ?_;refine pm (hta) ?_)|(refine pf 88 ?_;refine pm (hdk) ?_)|((with_reducible refine eD 122 ?_);refine uf (hin _ _ _) ?_;rintro _ _ ⟨r_,rfl,rfl⟩)|((with_reducible refine eD 90 ?_);first|(refine uf hat2 ?_;rintro _ _ ⟨r_,rfl,rfl⟩)|(refine uf hat3 ?_;rintro _ _ ⟨r_,rfl,rfl⟩))|refine cx rp rp ZM (λe=>by first|simp[hs.p0 e]|simp[hs.e0 e]) ZL ZM (by simp;omega) (by simp;omega) ZL (λnb_ hnb_=>?_)|refine sb λnb_ hnb_=>?_|refine s2 (λh=>?_) λh=>?_|fail)
    all_goals first
      |exact hq0 _
      | (refine hqg _ _ { s with o2 := some nb_, sp := s.sp ++ [name] } ?_ ⟨hs.a0, hs.ak, hs.k6, nofun, hs.e0, by have := hs.pm; simp; omega, Zi hs.em⟩ rfl rfl rfl rfl
         simp only[ao,ae,Yf,Ys,YC,Yc,Yb,YT];exact .one (.there _ (.there _ (.here _))) (.slot (.there _ (.there _ (.here _))) (.one (.here _) (.slotl (.there _ .last)))))
      | (refine hqg _ _ { s with o3 := some nb_, se := s.se ++ [name] } ?_ ⟨hs.a0, hs.ak, hs.k6, hs.p0, nofun, Zi hs.pm, by have := hs.em; simp; omega⟩ rfl rfl rfl rfl
         simp only[ao,ae,Yf,Ys,YC,Yc,Yb,YT];exact .one (.there _ (.there _ (.here _))) (.slot (.there _ (.there _ (.here _))) (.slot (.there _ (.there _ (.here _))) (.one (.here _) (.nil _)))))
  · have dz:decide (w5≠0)=true:=decide_eq_true hz
    clear fin hda g5 hz p1 hxw ce
    repeat' (first|refine st ?_|(refine pf 124 ?_;refine pm (h5) ?_)|(refine pf 124 ?_;refine pm (cw _ _ _) ?_)|((with_reducible refine bz 122 ?_);(refine Cm (hin _ _ _) ?_;rintro _ _ ⟨r_,rfl,rfl⟩))|(refine pf 126 ?_;refine pm (rC _) ?_)|(refine pf 123 ?_;refine pm (Su _ _) ?_)|(refine pf 125 ?_;refine pm (hex) ?_)|(refine pf 89 ?_;refine pm (hta) ?_)|((with_reducible refine eD 90 ?_);first|(refine uf hat2 ?_;rintro _ _ ⟨r_,rfl,rfl⟩)|(refine uf hat3 ?_;rintro _ _ ⟨r_,rfl,rfl⟩))|refine cx rp rp ZM (λe=>by first|simp[hs.p0 e]|simp[hs.e0 e]) ZL ZM (by simp;omega) (by simp;omega) ZL (λnb_ hnb_=>?_)|refine sb λnb_ hnb_=>?_|refine s2 (λh=>?_) λh=>?_|fail)
    all_goals first
      |exact hq0 _
      | (refine hqg _ _ { s with o2 := some nb_, sp := s.sp ++ [name] } ?_ ⟨hs.a0, hs.ak, hs.k6, nofun, hs.e0, by have := hs.pm; simp; omega, Zi hs.em⟩ rfl rfl rfl rfl
         simp only[ao,ae,Yf,Ys,YC,Yc,Yb,YT];exact .one (.there _ (.there _ (.here _))) (.slot (.there _ (.there _ (.here _))) (.one (.here _) (.slotl (.there _ .last)))))
      | (refine hqg _ _ { s with o3 := some nb_, se := s.se ++ [name] } ?_ ⟨hs.a0, hs.ak, hs.k6, hs.p0, nofun, Zi hs.pm, by have := hs.em; simp; omega⟩ rfl rfl rfl rfl
         simp only[ao,ae,Yf,Ys,YC,Yc,Yb,YT];exact .one (.there _ (.there _ (.here _))) (.slot (.there _ (.there _ (.here _))) (.slot (.there _ (.there _ (.here _))) (.one (.here _) (.nil _)))))
end
end Go.Proofs.YtdnpdghlggbklaaGreatDoor.Am
