/- part -/
import Derived.Test.YtfckbjehkbhkgaaGreatQwz
set_option linter.all false
set_option maxRecDepth 100000
set_option maxHeartbeats 0
namespace Go.Proofs.YtfckbjehkbhkgaaGreat.Am
def Xv(p:cJ)(bw:Nat)(s:oV)(m:Nat)(u:AV)(K:SH):Prop:=
 ∃(e:Int) (s':oV),u=.acU e/\K.Perm (s'.L p bw)/\s'.Ok m/\s'.t=s.t/\s'.o1=s.o1/\s'.ar=s.ar/\s'.k=s.k
def Xw (p : cJ) (O : Nat) (s : oV) (x : ae) (m : Nat) (hw : p.wt < 2 ^ 40) (ht : s.t < p.threads.length) (j : s.Ok m) (hm : m < 2 ^ 40) (hx : x.wt < 2 ^ 40) :
    ac Tryz.prog 181 [.ptr O 0 0,.agg x.row] (s.L p O) (Xv p O s (m+1)):=by
  have G:=x.wt_eq;have hl1:=p.decls_len;have hl2:=p.threads_len;obtain⟨op,line,u,arg,index,e,body,els⟩:=x;simp only[ae.name,ae.arg,ae.index,ae.expr,ae.body,ae.els]at G;have E:=λ(a b:Int) (nm:bU)=>PI O (.lst (p.decls.map aZ.enc)) (.lst (p.threads.map am.enc)) (.acU s.t) (af s.o2 s.sp.length) (af s.o3 s.se.length) s.o1 s.ar s.k (ab s.o2 1 (s.sp.map ay)++ab s.o3 1 (s.se.map ay)) a b nm j.a0 j.ak j.k6;have cw:=λ(nm:bU) (a b:Int)=>Sp p s.t nm a b hw ht;obtain⟨w5,g5,h5⟩:=UP p s.t u hw ht;have ce:=λ(y:aB) (hy:y.wt<2^40)=>Xu p s.t y hw ht hy;have hex:=ce e acN;unfold aB.row at hex;have hda:=ky p.decls u acN;have hta:=o6 p.threads u acN;have hlen2:s.sp.length<=2^40:=by have:=j.pm;omega
  have hlen3:s.se.length<=2^40:=by have:=j.em;omega
  have hat2:=ac.within (R:=[]) (Sq s.o2 s.sp _ u j.p0 acN) ((show eG s.o2 1 (s.sp.map ay) (s.L p O) _ by unfold oV.L;repeat constructor).perm.trans (.of_eq (aby _).symm));have Z:=ac.within (R:=[]) (Sq s.o3 s.se _ u j.e0 acN) ((show eG s.o3 1 (s.se.map ay) (s.L p O) _ by unfold oV.L;repeat constructor).perm.trans (.of_eq (aby _).symm));refine ac.fz (xe _ _ _ _ ?_);refine vw ?_;generalize hQ:(λ(v:AV) (L:SH)=>∃v2 L2,ax [v] L [v2] L2/\Xv p O s (m+1) v2 L2)=Q;have M:∀(v:Int) (K:SH) (S:oV),cO K (S.L p O)->S.Ok (m+1)->S.t=s.t->S.o1=s.o1->S.ar=s.ar->S.k=s.k->Q (.acU v) K:=λv K S h1 h2 h3 h4 h5 h6=>by subst hQ;exact⟨_,_,ax.pick h1 rfl,v,S,rfl,.refl _,h2,h3,h4,h5,h6⟩
  have N:∀(v:Int),Q (.acU v) (s.L p O):=λv=>by subst hQ;exact⟨_,_,ax.refl _ _,v,s,rfl,.refl _,⟨j.a0,j.ak,j.k6,j.p0,j.e0,acq j.pm,acq j.em⟩,rfl,rfl,rfl,rfl⟩
  clear hQ;unfold oV.L oV.row at *;unfold ae.row;dsimp only[ae.op,ae.line,ae.name,ae.arg,ae.index,ae.expr,ae.body,ae.els];by_cases p1:op=1
  · subst p1
    cases index with
    |nil=>
      repeat' (first|refine sy ?_|(refine pf 200 ?_;refine pm (cw _ _ _) ?_)|((with_reducible refine aN 198 ?_);(refine zw (E _ _ _) ?_;rintro _ _ ⟨Y,rfl,rfl⟩))|(refine pf 202 ?_;refine pm (rY _) ?_)|(refine pf 199 ?_;refine pm (UO _ _) ?_)|refine s2 ?_ ?_|intro)
      exact N _
    |cons i r=>
      have hei:=ce i (by simp only[aB.wts]at G;omega);unfold aB.row at hei;have hx0:=BO (l:=i::r) (i:=0) acQ;have d1:decide (((i::r).length:Int)=0)=false:=by simp;omega
      repeat' (first|refine sy ?_|(refine pf 200 ?_;refine pm (cw _ _ _) ?_)|((with_reducible refine aN 198 ?_);(refine zw (E _ _ _) ?_;rintro _ _ ⟨Y,rfl,rfl⟩))|(refine pf 202 ?_;refine pm (rY _) ?_)|(refine pf 199 ?_;refine pm (UO _ _) ?_)|refine s2 ?_ ?_|intro)
      exact N _
  have d1:decide (op=1)=false:=decide_eq_false p1;have fin:w5=0->∃k:Nat,k<p.decls.length/\aq Tryz.prog 179 [.lst (p.decls.map aZ.enc),.str u] (.acU (k:Int)):=λh=>by obtain⟨k,h1,h2⟩:=g5 h;exact⟨k,h1,h2▸hda⟩
  by_cases hz:w5=0
  · obtain⟨k,g1,hdk⟩:=fin hz
    have hy:=aj (f:=aZ.enc) g1;clear fin hda g5 hz p1 G ce
    repeat' (first|refine sx ?_|(refine pf 200 ?_;refine pm (cw _ _ _) ?_)|((with_reducible refine aN 198 ?_);(refine zw (E _ _ _) ?_;rintro _ _ ⟨Y,rfl,rfl⟩))|(refine pf 202 ?_;refine pm (rY _) ?_)|(refine pf 199 ?_;refine pm (UO _ _) ?_)|((with_reducible refine cy 198 ?_);refine qj (E _ _ _) ?_;rintro _ _ ⟨Y,rfl,rfl⟩)|((with_reducible refine cy 118 ?_);first|(refine qj hat2 ?_;rintro _ _ ⟨Y,rfl,rfl⟩)|(refine qj Z ?_;rintro _ _ ⟨Y,rfl,rfl⟩))|refine aM rp rp acQ (λe=>by first|simp[j.p0 e]|simp[j.e0 e]) acP acQ acS acS acP (λB D=>?_)|refine sb λB D=>?_|refine s2 ?_ ?_|intro)
    all_goals first
      |exact N _
      | (refine M _ _ { s with o2 := some B, sp := s.sp ++ [u] } ?_ ⟨j.a0, j.ak, j.k6, nofun, j.e0, by have := j.pm; simp; omega, acq j.em⟩ rfl rfl rfl rfl
         simp only[af,ab,aal,abi,abq,ST,aai,abF];exact .one (.there _ (.there _ (.here _))) (.slot (.there _ (.there _ (.here _))) (.one (.here _) (.slotl (.there _ .last)))))
      | (refine M _ _ { s with o3 := some B, se := s.se ++ [u] } ?_ ⟨j.a0, j.ak, j.k6, j.p0, nofun, acq j.pm, by have := j.em; simp; omega⟩ rfl rfl rfl rfl
         simp only[af,ab,aal,abi,abq,ST,aai,abF];exact .one (.there _ (.there _ (.here _))) (.slot (.there _ (.there _ (.here _))) (.slot (.there _ (.there _ (.here _))) (.one (.here _) (.nil _)))))
  · have dz:decide (w5≠0)=true:=decide_eq_true hz
    clear fin hda g5 hz p1 G ce
    repeat' (first|refine sx ?_|(refine pf 200 ?_;refine pm (cw _ _ _) ?_)|((with_reducible refine aN 198 ?_);(refine zw (E _ _ _) ?_;rintro _ _ ⟨Y,rfl,rfl⟩))|(refine pf 202 ?_;refine pm (rY _) ?_)|(refine pf 199 ?_;refine pm (UO _ _) ?_)|((with_reducible refine cy 118 ?_);first|(refine qj hat2 ?_;rintro _ _ ⟨Y,rfl,rfl⟩)|(refine qj Z ?_;rintro _ _ ⟨Y,rfl,rfl⟩))|refine aM rp rp acQ (λe=>by first|simp[j.p0 e]|simp[j.e0 e]) acP acQ acS acS acP (λB D=>?_)|refine sb λB D=>?_|refine s2 ?_ ?_|intro)
    all_goals first
      |exact N _
      | (refine M _ _ { s with o2 := some B, sp := s.sp ++ [u] } ?_ ⟨j.a0, j.ak, j.k6, nofun, j.e0, by have := j.pm; simp; omega, acq j.em⟩ rfl rfl rfl rfl
         simp only[af,ab,aal,abi,abq,ST,aai,abF];exact .one (.there _ (.there _ (.here _))) (.slot (.there _ (.there _ (.here _))) (.one (.here _) (.slotl (.there _ .last)))))
      | (refine M _ _ { s with o3 := some B, se := s.se ++ [u] } ?_ ⟨j.a0, j.ak, j.k6, j.p0, nofun, acq j.pm, by have := j.em; simp; omega⟩ rfl rfl rfl rfl
         simp only[af,ab,aal,abi,abq,ST,aai,abF];exact .one (.there _ (.there _ (.here _))) (.slot (.there _ (.there _ (.here _))) (.slot (.there _ (.there _ (.here _))) (.one (.here _) (.nil _)))))
