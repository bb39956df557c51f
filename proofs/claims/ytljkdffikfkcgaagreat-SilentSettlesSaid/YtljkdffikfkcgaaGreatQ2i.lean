/- A part of the proof; the statement is proved in the last part. -/
import Derived.Test.YtljkdffikfkcgaaGreatQ2h
set_option linter.unusedSimpArgs false
set_option linter.unusedVariables false
section
namespace Go.Proofs.YtljkdffikfkcgaaGreat.Am
set_option maxRecDepth 100000
set_option linter.unusedVariables false
def df(p:aL)(loc:List aM)(x:aa):Prop:=
 if x.op=1 then(match x.index with
  | []=>dB (aE p loc x.name) 8 1=0∧gB p loc x.expr=0
  | i::_=>dB (aE p loc x.name) 2 2=0∧gB p loc i=0∧gB p loc x.expr=0)
 else if x.op=2∨x.op=3 then gB p loc x.expr=0
 else if x.op=4 then dB (aE p loc x.name) 3 3=0
 else if x.op=5∨x.op=6 then dB (aE p loc x.name) 4 4=0
 else if x.op=7∨x.op=8 then True
 else if x.op=9∨x.op=10∨x.op=11 then dB (aE p loc x.name) 5 5=0
 else if x.op=12∨x.op=13 then dB (aE p loc x.name) 7 7=0
 else if x.op=14 then dB (aE p loc x.name) 6 6=0∧gB p loc x.expr=0
 else dB (aE p loc x.name) 8 8=0∧dB (aE p loc x.arg) 6 6=0
theorem tv{p:aL}{loc:List aM}{nm:aM}(h:kS p.decls nm=none):dB (aE p loc nm) 5 5≠0:=by
 unfold aE
 rw[h,Bo]
 cases decide (0≤fP loc nm)<;>cases decide (0≤cC p.threads nm)<;>decide
def IU(p:aL)(bw:Nat)(s:jZ)(m:Nat)(good:Prop)(u:AV)(K:SH):Prop:=
 ∃(e:Int) (s':jZ),u=.int .i64 e∧K.Perm (s'.L p bw)∧s'.Ok m∧s'.t=s.t∧s'.o1=s.o1∧s'.ar=s.ar∧s'.k=s.k∧(e=0→good)
theorem ck{a b:Int}:KW a b=0↔a=0∧b=0:=by unfold KW;split<;>simp_all
set_option maxHeartbeats 4000000 in
theorem IV(p:aL)(bw:Nat)(s:jZ)(x:aa)(m:Nat)(hw:p.wt<2^40)(ht:s.t<p.threads.length)(hs:s.Ok m)(hm:m<2^40)(hx:x.wt<2^40):
  aj Tryz.prog 57 [.ptr bw 0 0,.agg x.row] (s.L p bw) (IU p bw s (m+1) (df p p.threads[s.t].locals x)):=by
 have hxw:=x.wt_eq
 have hl1:=p.decls_len
 have hl2:=p.threads_len
 obtain⟨op,line,name,arg,index,e,body,els⟩:=x
 simp only[aa.name,aa.arg,aa.index,aa.expr,aa.body,aa.els]at hxw
 have hin:=fun(a b:Int) (nm:aM)=>DI bw (.lst (p.decls.map au.enc)) (.lst (p.threads.map ai.enc)) (.int .i64 s.t) (aq s.o2 s.sp.length) (aq s.o3 s.se.length) s.o1 s.ar s.k (am s.o2 1 (s.sp.map aA)++am s.o3 1 (s.se.map aA)) a b nm hs.a0 hs.ak hs.k6
 have cw:=fun(nm:aM) (a b:Int)=>zU p s.t nm a b hw ht
 have ce:=fun(y:ae) (hy:y.wt<2^40)=>GP p s.t y hw ht hy
 have hex:=ce e (by omega)
 unfold ae.row at hex
 have hda:=f8 p.decls name (by omega)
 have hta:=ij p.threads name (by omega)
 have hlen2:s.sp.length≤2^40:=by have:=hs.pm;omega
 have hlen3:s.se.length≤2^40:=by have:=hs.em;omega
 refine aj.fz (rH _ _ _ _ ?_)
 unfold i6
 generalize hQ:(fun(v:AV) (L:SH)=>∃v2 L2,aN [v] L [v2] L2∧IU p bw s (m+1) (df p p.threads[s.t].locals (.mk op line name arg index e body els)) v2 L2)=Q
 have hqg:∀(v:Int) (K:SH) (s':jZ),eo K (s'.L p bw)→s'.Ok (m+1)→s'.t=s.t→s'.o1=s.o1→s'.ar=s.ar→s'.k=s.k→(v=0→df p p.threads[s.t].locals (.mk op line name arg index e body els))→Q (.int .i64 v) K:=fun v K s' h1 h2 h3 h4 h5 h6 h7=>by
  subst hQ;exact⟨_,_,aN.pick h1 rfl,v,s',rfl,.refl _,h2,h3,h4,h5,h6,h7⟩
 have hq0:∀(v:Int),(v=0→df p p.threads[s.t].locals (.mk op line name arg index e body els))→Q (.int .i64 v) (s.L p bw):=fun v h2=>by
  subst hQ;exact⟨_,_,aN.refl _ _,v,s,rfl,.refl _,⟨hs.a0,hs.ak,hs.k6,hs.p0,hs.e0,Nat.le_succ_of_le hs.pm,Nat.le_succ_of_le hs.em⟩,rfl,rfl,rfl,rfl,h2⟩
 clear hQ
 unfold jZ.L jZ.row at *
 unfold aa.row
 generalize hloc:p.threads[s.t].locals=loc at *
 clear hloc
 dsimp only[aa.op,aa.line,aa.name,aa.arg,aa.index,aa.expr,aa.body,aa.els]
 by_cases p1:1≤op∧op≤14
 ·have:op=1∨op=2∨op=3∨op=4∨op=5∨op=6∨op=7∨op=8∨op=9∨op=10∨op=11∨op=12∨op=13∨op=14:=by omega
  clear p1
  rcases this with rfl | rfl | rfl | rfl | rfl | rfl | rfl | rfl | rfl | rfl | rfl | rfl | rfl | rfl
  ·cases index with
   | nil=>
    repeat' (first | refine st ?_ | ((with_reducible refine ao 76 ?_);refine af (cw _ _ _) ?_) | ((with_reducible refine al 76 ?_);refine ab (cw _ _ _) ?_) | ((with_reducible refine ao 74 ?_);(refine cz (hin _ _ _) ?_;rintro _ _ ⟨r_,rfl,rfl⟩)) | ((with_reducible refine ao 75 ?_);refine af (bQ _ _) ?_) | ((with_reducible refine al 75 ?_);refine ab (bQ _ _) ?_) | ((with_reducible refine ao 77 ?_);refine af (hex) ?_) | ((with_reducible refine al 77 ?_);refine ab (hex) ?_) | refine sb (fun nb_ hnb_=>?_) | refine s2 (fun h=>?_) (fun h=>?_) | fail)
    exact hq0 _ (fun h0=>by simpa[df,aa.op,aa.name,aa.index,aa.expr,ck]using h0)
   | cons i r=>
    have hei:=ce i (by simp only[ae.wts]at hxw;omega)
    unfold ae.row at hei
    have hx0:=A6 (l:=i::r) (i:=0) (by simp)
    have d1:decide (((i::r).length:Int)=0)=false:=by simp;omega
    repeat' (first | refine st ?_ | ((with_reducible refine ao 76 ?_);refine af (cw _ _ _) ?_) | ((with_reducible refine al 76 ?_);refine ab (cw _ _ _) ?_) | ((with_reducible refine ao 74 ?_);(refine cz (hin _ _ _) ?_;rintro _ _ ⟨r_,rfl,rfl⟩)) | ((with_reducible refine ao 75 ?_);refine af (bQ _ _) ?_) | ((with_reducible refine al 75 ?_);refine ab (bQ _ _) ?_) | ((with_reducible refine ao 77 ?_);refine af (hei) ?_) | ((with_reducible refine al 77 ?_);refine ab (hei) ?_) | ((with_reducible refine ao 77 ?_);refine af (hex) ?_) | ((with_reducible refine al 77 ?_);refine ab (hex) ?_) | refine sb (fun nb_ hnb_=>?_) | refine s2 (fun h=>?_) (fun h=>?_) | fail)
    exact hq0 _ (fun h0=>by simpa[df,aa.op,aa.name,aa.index,aa.expr,ck]using h0)
  ·repeat' (first | refine st ?_ | ((with_reducible refine ao 76 ?_);refine af (cw _ _ _) ?_) | ((with_reducible refine al 76 ?_);refine ab (cw _ _ _) ?_) | ((with_reducible refine ao 74 ?_);(refine cz (hin _ _ _) ?_;rintro _ _ ⟨r_,rfl,rfl⟩)) | ((with_reducible refine ao 78 ?_);refine af (aC _) ?_) | ((with_reducible refine al 78 ?_);refine ab (aC _) ?_) | ((with_reducible refine ao 75 ?_);refine af (bQ _ _) ?_) | ((with_reducible refine al 75 ?_);refine ab (bQ _ _) ?_) | ((with_reducible refine ao 77 ?_);refine af (hex) ?_) | ((with_reducible refine al 77 ?_);refine ab (hex) ?_) | ((with_reducible refine ao 55 ?_);refine af (hta) ?_) | ((with_reducible refine al 55 ?_);refine ab (hta) ?_) | refine sb (fun nb_ hnb_=>?_) | refine s2 (fun h=>?_) (fun h=>?_) | fail)
   all_goals exact hq0 _ (fun h0=>by simp_all[df,aa.op,aa.name,aa.index,aa.expr,ck])
  ·repeat' (first | refine st ?_ | ((with_reducible refine ao 76 ?_);refine af (cw _ _ _) ?_) | ((with_reducible refine al 76 ?_);refine ab (cw _ _ _) ?_) | ((with_reducible refine ao 74 ?_);(refine cz (hin _ _ _) ?_;rintro _ _ ⟨r_,rfl,rfl⟩)) | ((with_reducible refine ao 78 ?_);refine af (aC _) ?_) | ((with_reducible refine al 78 ?_);refine ab (aC _) ?_) | ((with_reducible refine ao 75 ?_);refine af (bQ _ _) ?_) | ((with_reducible refine al 75 ?_);refine ab (bQ _ _) ?_) | ((with_reducible refine ao 77 ?_);refine af (hex) ?_) | ((with_reducible refine al 77 ?_);refine ab (hex) ?_) | ((with_reducible refine ao 55 ?_);refine af (hta) ?_) | ((with_reducible refine al 55 ?_);refine ab (hta) ?_) | refine sb (fun nb_ hnb_=>?_) | refine s2 (fun h=>?_) (fun h=>?_) | fail)
   all_goals exact hq0 _ (fun h0=>by simp_all[df,aa.op,aa.name,aa.index,aa.expr,ck])
  ·repeat' (first | refine st ?_ | ((with_reducible refine ao 76 ?_);refine af (cw _ _ _) ?_) | ((with_reducible refine al 76 ?_);refine ab (cw _ _ _) ?_) | ((with_reducible refine ao 74 ?_);(refine cz (hin _ _ _) ?_;rintro _ _ ⟨r_,rfl,rfl⟩)) | ((with_reducible refine ao 78 ?_);refine af (aC _) ?_) | ((with_reducible refine al 78 ?_);refine ab (aC _) ?_) | ((with_reducible refine ao 75 ?_);refine af (bQ _ _) ?_) | ((with_reducible refine al 75 ?_);refine ab (bQ _ _) ?_) | ((with_reducible refine ao 77 ?_);refine af (hex) ?_) | ((with_reducible refine al 77 ?_);refine ab (hex) ?_) | ((with_reducible refine ao 55 ?_);refine af (hta) ?_) | ((with_reducible refine al 55 ?_);refine ab (hta) ?_) | refine sb (fun nb_ hnb_=>?_) | refine s2 (fun h=>?_) (fun h=>?_) | fail)
   all_goals exact hq0 _ (fun h0=>by simp_all[df,aa.op,aa.name,aa.index,aa.expr,ck])
  ·repeat' (first | refine st ?_ | ((with_reducible refine ao 76 ?_);refine af (cw _ _ _) ?_) | ((with_reducible refine al 76 ?_);refine ab (cw _ _ _) ?_) | ((with_reducible refine ao 74 ?_);(refine cz (hin _ _ _) ?_;rintro _ _ ⟨r_,rfl,rfl⟩)) | ((with_reducible refine ao 78 ?_);refine af (aC _) ?_) | ((with_reducible refine al 78 ?_);refine ab (aC _) ?_) | ((with_reducible refine ao 75 ?_);refine af (bQ _ _) ?_) | ((with_reducible refine al 75 ?_);refine ab (bQ _ _) ?_) | ((with_reducible refine ao 77 ?_);refine af (hex) ?_) | ((with_reducible refine al 77 ?_);refine ab (hex) ?_) | ((with_reducible refine ao 55 ?_);refine af (hta) ?_) | ((with_reducible refine al 55 ?_);refine ab (hta) ?_) | refine sb (fun nb_ hnb_=>?_) | refine s2 (fun h=>?_) (fun h=>?_) | fail)
   all_goals exact hq0 _ (fun h0=>by simp_all[df,aa.op,aa.name,aa.index,aa.expr,ck])
  ·repeat' (first | refine st ?_ | ((with_reducible refine ao 76 ?_);refine af (cw _ _ _) ?_) | ((with_reducible refine al 76 ?_);refine ab (cw _ _ _) ?_) | ((with_reducible refine ao 74 ?_);(refine cz (hin _ _ _) ?_;rintro _ _ ⟨r_,rfl,rfl⟩)) | ((with_reducible refine ao 78 ?_);refine af (aC _) ?_) | ((with_reducible refine al 78 ?_);refine ab (aC _) ?_) | ((with_reducible refine ao 75 ?_);refine af (bQ _ _) ?_) | ((with_reducible refine al 75 ?_);refine ab (bQ _ _) ?_) | ((with_reducible refine ao 77 ?_);refine af (hex) ?_) | ((with_reducible refine al 77 ?_);refine ab (hex) ?_) | ((with_reducible refine ao 55 ?_);refine af (hta) ?_) | ((with_reducible refine al 55 ?_);refine ab (hta) ?_) | refine sb (fun nb_ hnb_=>?_) | refine s2 (fun h=>?_) (fun h=>?_) | fail)
   all_goals exact hq0 _ (fun h0=>by simp_all[df,aa.op,aa.name,aa.index,aa.expr,ck])
  ·repeat' (first | refine st ?_ | ((with_reducible refine ao 76 ?_);refine af (cw _ _ _) ?_) | ((with_reducible refine al 76 ?_);refine ab (cw _ _ _) ?_) | ((with_reducible refine ao 74 ?_);(refine cz (hin _ _ _) ?_;rintro _ _ ⟨r_,rfl,rfl⟩)) | ((with_reducible refine ao 78 ?_);refine af (aC _) ?_) | ((with_reducible refine al 78 ?_);refine ab (aC _) ?_) | ((with_reducible refine ao 75 ?_);refine af (bQ _ _) ?_) | ((with_reducible refine al 75 ?_);refine ab (bQ _ _) ?_) | ((with_reducible refine ao 77 ?_);refine af (hex) ?_) | ((with_reducible refine al 77 ?_);refine ab (hex) ?_) | ((with_reducible refine ao 55 ?_);refine af (hta) ?_) | ((with_reducible refine al 55 ?_);refine ab (hta) ?_) | refine sb (fun nb_ hnb_=>?_) | refine s2 (fun h=>?_) (fun h=>?_) | fail)
   all_goals exact hq0 _ (fun h0=>by simp_all[df,aa.op,aa.name,aa.index,aa.expr,ck])
  ·repeat' (first | refine st ?_ | ((with_reducible refine ao 76 ?_);refine af (cw _ _ _) ?_) | ((with_reducible refine al 76 ?_);refine ab (cw _ _ _) ?_) | ((with_reducible refine ao 74 ?_);(refine cz (hin _ _ _) ?_;rintro _ _ ⟨r_,rfl,rfl⟩)) | ((with_reducible refine ao 78 ?_);refine af (aC _) ?_) | ((with_reducible refine al 78 ?_);refine ab (aC _) ?_) | ((with_reducible refine ao 75 ?_);refine af (bQ _ _) ?_) | ((with_reducible refine al 75 ?_);refine ab (bQ _ _) ?_) | ((with_reducible refine ao 77 ?_);refine af (hex) ?_) | ((with_reducible refine al 77 ?_);refine ab (hex) ?_) | ((with_reducible refine ao 55 ?_);refine af (hta) ?_) | ((with_reducible refine al 55 ?_);refine ab (hta) ?_) | refine sb (fun nb_ hnb_=>?_) | refine s2 (fun h=>?_) (fun h=>?_) | fail)
   all_goals exact hq0 _ (fun h0=>by simp_all[df,aa.op,aa.name,aa.index,aa.expr,ck])
  ·rcases ep (p:=fun x:au=>decide (x.name=name)) p.decls 0 with⟨g1,g2⟩ | ⟨k,g1,g2,g3⟩
   ·have d1:decide (dB (aE p loc name) 5 5≠0)=true:=by simpa using tv g2
    repeat' (first | refine st ?_ | ((with_reducible refine ao 76 ?_);refine af (cw _ _ _) ?_) | ((with_reducible refine al 76 ?_);refine ab (cw _ _ _) ?_) | ((with_reducible refine ao 74 ?_);(refine cz (hin _ _ _) ?_;rintro _ _ ⟨r_,rfl,rfl⟩)) | ((with_reducible refine ao 78 ?_);refine af (aC _) ?_) | ((with_reducible refine al 78 ?_);refine ab (aC _) ?_) | ((with_reducible refine ao 75 ?_);refine af (bQ _ _) ?_) | ((with_reducible refine al 75 ?_);refine ab (bQ _ _) ?_) | ((with_reducible refine ao 77 ?_);refine af (hex) ?_) | ((with_reducible refine al 77 ?_);refine ab (hex) ?_) | ((with_reducible refine ao 55 ?_);refine af (hta) ?_) | ((with_reducible refine al 55 ?_);refine ab (hta) ?_) | refine sb (fun nb_ hnb_=>?_) | refine s2 (fun h=>?_) (fun h=>?_) | fail)
    exact hq0 _ (fun h0=>absurd h0 (of_decide_eq_true d1))
   ·have e1:bY p.decls name=(k:Nat):=by rw[bY,g2];simp
    rw[e1]at hda
    have hy:=aw (f:=au.enc) g1
    repeat' (first | refine st ?_ | ((with_reducible refine ao 76 ?_);refine af (cw _ _ _) ?_) | ((with_reducible refine al 76 ?_);refine ab (cw _ _ _) ?_) | ((with_reducible refine ao 74 ?_);(refine cz (hin _ _ _) ?_;rintro _ _ ⟨r_,rfl,rfl⟩)) | ((with_reducible refine ao 78 ?_);refine af (aC _) ?_) | ((with_reducible refine al 78 ?_);refine ab (aC _) ?_) | ((with_reducible refine ao 75 ?_);refine af (bQ _ _) ?_) | ((with_reducible refine al 75 ?_);refine ab (bQ _ _) ?_) | ((with_reducible refine ao 77 ?_);refine af (hex) ?_) | ((with_reducible refine al 77 ?_);refine ab (hex) ?_) | ((with_reducible refine ao 55 ?_);refine af (hta) ?_) | ((with_reducible refine al 55 ?_);refine ab (hta) ?_) | ((with_reducible refine ao 54 ?_);refine af (hda) ?_) | ((with_reducible refine al 54 ?_);refine ab (hda) ?_) | ((with_reducible refine al 74 ?_);refine wi (hin _ _ _) ?_;rintro _ _ ⟨r_,rfl,rfl⟩) | refine sb (fun nb_ hnb_=>?_) | refine s2 (fun h=>?_) (fun h=>?_) | fail)
    all_goals exact hq0 _ (fun h0=>by simp_all[df,aa.op,aa.name,aa.index,aa.expr,ck])
  ·rcases ep (p:=fun x:au=>decide (x.name=name)) p.decls 0 with⟨g1,g2⟩ | ⟨k,g1,g2,g3⟩
   ·have d1:decide (dB (aE p loc name) 5 5≠0)=true:=by simpa using tv g2
    repeat' (first | refine st ?_ | ((with_reducible refine ao 76 ?_);refine af (cw _ _ _) ?_) | ((with_reducible refine al 76 ?_);refine ab (cw _ _ _) ?_) | ((with_reducible refine ao 74 ?_);(refine cz (hin _ _ _) ?_;rintro _ _ ⟨r_,rfl,rfl⟩)) | ((with_reducible refine ao 78 ?_);refine af (aC _) ?_) | ((with_reducible refine al 78 ?_);refine ab (aC _) ?_) | ((with_reducible refine ao 75 ?_);refine af (bQ _ _) ?_) | ((with_reducible refine al 75 ?_);refine ab (bQ _ _) ?_) | ((with_reducible refine ao 77 ?_);refine af (hex) ?_) | ((with_reducible refine al 77 ?_);refine ab (hex) ?_) | ((with_reducible refine ao 55 ?_);refine af (hta) ?_) | ((with_reducible refine al 55 ?_);refine ab (hta) ?_) | refine sb (fun nb_ hnb_=>?_) | refine s2 (fun h=>?_) (fun h=>?_) | fail)
    exact hq0 _ (fun h0=>absurd h0 (of_decide_eq_true d1))
   ·have e1:bY p.decls name=(k:Nat):=by rw[bY,g2];simp
    rw[e1]at hda
    have hy:=aw (f:=au.enc) g1
    repeat' (first | refine st ?_ | ((with_reducible refine ao 76 ?_);refine af (cw _ _ _) ?_) | ((with_reducible refine al 76 ?_);refine ab (cw _ _ _) ?_) | ((with_reducible refine ao 74 ?_);(refine cz (hin _ _ _) ?_;rintro _ _ ⟨r_,rfl,rfl⟩)) | ((with_reducible refine ao 78 ?_);refine af (aC _) ?_) | ((with_reducible refine al 78 ?_);refine ab (aC _) ?_) | ((with_reducible refine ao 75 ?_);refine af (bQ _ _) ?_) | ((with_reducible refine al 75 ?_);refine ab (bQ _ _) ?_) | ((with_reducible refine ao 77 ?_);refine af (hex) ?_) | ((with_reducible refine al 77 ?_);refine ab (hex) ?_) | ((with_reducible refine ao 55 ?_);refine af (hta) ?_) | ((with_reducible refine al 55 ?_);refine ab (hta) ?_) | ((with_reducible refine ao 54 ?_);refine af (hda) ?_) | ((with_reducible refine al 54 ?_);refine ab (hda) ?_) | ((with_reducible refine al 74 ?_);refine wi (hin _ _ _) ?_;rintro _ _ ⟨r_,rfl,rfl⟩) | refine sb (fun nb_ hnb_=>?_) | refine s2 (fun h=>?_) (fun h=>?_) | fail)
    all_goals exact hq0 _ (fun h0=>by simp_all[df,aa.op,aa.name,aa.index,aa.expr,ck])
  ·rcases ep (p:=fun x:au=>decide (x.name=name)) p.decls 0 with⟨g1,g2⟩ | ⟨k,g1,g2,g3⟩
   ·have d1:decide (dB (aE p loc name) 5 5≠0)=true:=by simpa using tv g2
    repeat' (first | refine st ?_ | ((with_reducible refine ao 76 ?_);refine af (cw _ _ _) ?_) | ((with_reducible refine al 76 ?_);refine ab (cw _ _ _) ?_) | ((with_reducible refine ao 74 ?_);(refine cz (hin _ _ _) ?_;rintro _ _ ⟨r_,rfl,rfl⟩)) | ((with_reducible refine ao 78 ?_);refine af (aC _) ?_) | ((with_reducible refine al 78 ?_);refine ab (aC _) ?_) | ((with_reducible refine ao 75 ?_);refine af (bQ _ _) ?_) | ((with_reducible refine al 75 ?_);refine ab (bQ _ _) ?_) | ((with_reducible refine ao 77 ?_);refine af (hex) ?_) | ((with_reducible refine al 77 ?_);refine ab (hex) ?_) | ((with_reducible refine ao 55 ?_);refine af (hta) ?_) | ((with_reducible refine al 55 ?_);refine ab (hta) ?_) | refine sb (fun nb_ hnb_=>?_) | refine s2 (fun h=>?_) (fun h=>?_) | fail)
    exact hq0 _ (fun h0=>absurd h0 (of_decide_eq_true d1))
   ·have e1:bY p.decls name=(k:Nat):=by rw[bY,g2];simp
    rw[e1]at hda
    have hy:=aw (f:=au.enc) g1
    repeat' (first | refine st ?_ | ((with_reducible refine ao 76 ?_);refine af (cw _ _ _) ?_) | ((with_reducible refine al 76 ?_);refine ab (cw _ _ _) ?_) | ((with_reducible refine ao 74 ?_);(refine cz (hin _ _ _) ?_;rintro _ _ ⟨r_,rfl,rfl⟩)) | ((with_reducible refine ao 78 ?_);refine af (aC _) ?_) | ((with_reducible refine al 78 ?_);refine ab (aC _) ?_) | ((with_reducible refine ao 75 ?_);refine af (bQ _ _) ?_) | ((with_reducible refine al 75 ?_);refine ab (bQ _ _) ?_) | ((with_reducible refine ao 77 ?_);refine af (hex) ?_) | ((with_reducible refine al 77 ?_);refine ab (hex) ?_) | ((with_reducible refine ao 55 ?_);refine af (hta) ?_) | ((with_reducible refine al 55 ?_);refine ab (hta) ?_) | ((with_reducible refine ao 54 ?_);refine af (hda) ?_) | ((with_reducible refine al 54 ?_);refine ab (hda) ?_) | ((with_reducible refine al 74 ?_);refine wi (hin _ _ _) ?_;rintro _ _ ⟨r_,rfl,rfl⟩) | refine sb (fun nb_ hnb_=>?_) | refine s2 (fun h=>?_) (fun h=>?_) | fail)
    all_goals exact hq0 _ (fun h0=>by simp_all[df,aa.op,aa.name,aa.index,aa.expr,ck])
  ·have hat:=aj.within (R:=[]) (Fk s.o2 s.sp _ name hs.p0 (by omega)) ((show da s.o2 1 (s.sp.map aA) ((bw,(⟨6,[[.lst (p.decls.map au.enc),.lst (p.threads.map ai.enc),.int .i64 s.t,aq s.o1 s.k,aq s.o2 s.sp.length,aq s.o3 s.se.length]]⟩:Blk))::(am s.o1 11 (s.ar.map aa.enc)++(am s.o2 1 (s.sp.map aA)++am s.o3 1 (s.se.map aA)))) _ by repeat constructor).perm.trans (.of_eq (List.append_nil _).symm))
   repeat' (first | refine st ?_ | ((with_reducible refine ao 76 ?_);refine af (cw _ _ _) ?_) | ((with_reducible refine al 76 ?_);refine ab (cw _ _ _) ?_) | ((with_reducible refine ao 74 ?_);(refine cz (hin _ _ _) ?_;rintro _ _ ⟨r_,rfl,rfl⟩)) | ((with_reducible refine ao 78 ?_);refine af (aC _) ?_) | ((with_reducible refine al 78 ?_);refine ab (aC _) ?_) | ((with_reducible refine ao 75 ?_);refine af (bQ _ _) ?_) | ((with_reducible refine al 75 ?_);refine ab (bQ _ _) ?_) | ((with_reducible refine ao 77 ?_);refine af (hex) ?_) | ((with_reducible refine al 77 ?_);refine ab (hex) ?_) | ((with_reducible refine ao 55 ?_);refine af (hta) ?_) | ((with_reducible refine al 55 ?_);refine ab (hta) ?_) | ((with_reducible refine al 56 ?_);refine wi hat ?_;rintro _ _ ⟨r_,rfl,rfl⟩) | refine cG rp rp (by simp) (fun e=>by first | simp[hs.p0 e]) (by rfl) (by simp) (by simp;omega) (by simp;omega) (by rfl) (fun nb_ hnb_=>?_) | refine sb (fun nb_ hnb_=>?_) | refine s2 (fun h=>?_) (fun h=>?_) | fail)
   all_goals first
    | exact hq0 _ (fun h0=>by simp_all[df,aa.op,aa.name,aa.index,aa.expr,ck])
    | skip
   all_goals
    refine hqg _ _ {s with o2:=some nb_,sp:=s.sp++[name]} ?_ ⟨hs.a0,hs.ak,hs.k6,nofun,hs.e0,by have:=hs.pm;simp;omega,Nat.le_succ_of_le hs.em⟩ rfl rfl rfl rfl (fun h0=>by simp_all[df,aa.op,aa.name,aa.index,aa.expr,ck])
    simp only[aq,am,List.length_append,List.length_cons,List.length_nil,List.map_append,List.map_cons,List.map_nil]
    exact .one (.there _ (.there _ (.here _))) (.slot (.there _ (.there _ (.here _))) (.one (.here _) (.slotl (.there _ .last))))
  ·repeat' (first | refine st ?_ | ((with_reducible refine ao 76 ?_);refine af (cw _ _ _) ?_) | ((with_reducible refine al 76 ?_);refine ab (cw _ _ _) ?_) | ((with_reducible refine ao 74 ?_);(refine cz (hin _ _ _) ?_;rintro _ _ ⟨r_,rfl,rfl⟩)) | ((with_reducible refine ao 78 ?_);refine af (aC _) ?_) | ((with_reducible refine al 78 ?_);refine ab (aC _) ?_) | ((with_reducible refine ao 75 ?_);refine af (bQ _ _) ?_) | ((with_reducible refine al 75 ?_);refine ab (bQ _ _) ?_) | ((with_reducible refine ao 77 ?_);refine af (hex) ?_) | ((with_reducible refine al 77 ?_);refine ab (hex) ?_) | ((with_reducible refine ao 55 ?_);refine af (hta) ?_) | ((with_reducible refine al 55 ?_);refine ab (hta) ?_) | refine sb (fun nb_ hnb_=>?_) | refine s2 (fun h=>?_) (fun h=>?_) | fail)
   all_goals exact hq0 _ (fun h0=>by simp_all[df,aa.op,aa.name,aa.index,aa.expr,ck])
  ·have hat:=aj.within (R:=[]) (Fk s.o3 s.se _ name hs.e0 (by omega)) ((show da s.o3 1 (s.se.map aA) ((bw,(⟨6,[[.lst (p.decls.map au.enc),.lst (p.threads.map ai.enc),.int .i64 s.t,aq s.o1 s.k,aq s.o2 s.sp.length,aq s.o3 s.se.length]]⟩:Blk))::(am s.o1 11 (s.ar.map aa.enc)++(am s.o2 1 (s.sp.map aA)++am s.o3 1 (s.se.map aA)))) _ by repeat constructor).perm.trans (.of_eq (List.append_nil _).symm))
   repeat' (first | refine st ?_ | ((with_reducible refine ao 76 ?_);refine af (cw _ _ _) ?_) | ((with_reducible refine al 76 ?_);refine ab (cw _ _ _) ?_) | ((with_reducible refine ao 74 ?_);(refine cz (hin _ _ _) ?_;rintro _ _ ⟨r_,rfl,rfl⟩)) | ((with_reducible refine ao 78 ?_);refine af (aC _) ?_) | ((with_reducible refine al 78 ?_);refine ab (aC _) ?_) | ((with_reducible refine ao 75 ?_);refine af (bQ _ _) ?_) | ((with_reducible refine al 75 ?_);refine ab (bQ _ _) ?_) | ((with_reducible refine ao 77 ?_);refine af (hex) ?_) | ((with_reducible refine al 77 ?_);refine ab (hex) ?_) | ((with_reducible refine ao 55 ?_);refine af (hta) ?_) | ((with_reducible refine al 55 ?_);refine ab (hta) ?_) | ((with_reducible refine al 56 ?_);refine wi hat ?_;rintro _ _ ⟨r_,rfl,rfl⟩) | refine cG rp rp (by simp) (fun e=>by first | simp[hs.e0 e]) (by rfl) (by simp) (by simp;omega) (by simp;omega) (by rfl) (fun nb_ hnb_=>?_) | refine sb (fun nb_ hnb_=>?_) | refine s2 (fun h=>?_) (fun h=>?_) | fail)
   all_goals
    refine hqg _ _ {s with o3:=some nb_,se:=s.se++[name]} ?_ ⟨hs.a0,hs.ak,hs.k6,hs.p0,nofun,Nat.le_succ_of_le hs.pm,by have:=hs.em;simp;omega⟩ rfl rfl rfl rfl (fun h0=>by simp_all[df,aa.op,aa.name,aa.index,aa.expr,ck])
    simp only[aq,am,List.length_append,List.length_cons,List.length_nil,List.map_append,List.map_cons,List.map_nil]
    exact .one (.there _ (.there _ (.here _))) (.slot (.there _ (.there _ (.here _))) (.slot (.there _ (.there _ (.here _))) (.one (.here _) (.nil _))))
 ·have dk:∀k:Int,1≤k→k≤14→decide (op=k)=false:=fun k h1 h2=>by simpa using(by omega:¬op=k)
  have d1:=dk 1 (by omega) (by omega)
  have d2:=dk 2 (by omega) (by omega)
  have d3:=dk 3 (by omega) (by omega)
  have d4:=dk 4 (by omega) (by omega)
  have d5:=dk 5 (by omega) (by omega)
  have d6:=dk 6 (by omega) (by omega)
  have d7:=dk 7 (by omega) (by omega)
  have d8:=dk 8 (by omega) (by omega)
  have d9:=dk 9 (by omega) (by omega)
  have d10:=dk 10 (by omega) (by omega)
  have d11:=dk 11 (by omega) (by omega)
  have d12:=dk 12 (by omega) (by omega)
  have d13:=dk 13 (by omega) (by omega)
  have d14:=dk 14 (by omega) (by omega)
  repeat' (first | refine st ?_ | ((with_reducible refine ao 76 ?_);refine af (cw _ _ _) ?_) | ((with_reducible refine al 76 ?_);refine ab (cw _ _ _) ?_) | ((with_reducible refine ao 74 ?_);(refine cz (hin _ _ _) ?_;rintro _ _ ⟨r_,rfl,rfl⟩)) | ((with_reducible refine ao 78 ?_);refine af (aC _) ?_) | ((with_reducible refine al 78 ?_);refine ab (aC _) ?_) | ((with_reducible refine ao 75 ?_);refine af (bQ _ _) ?_) | ((with_reducible refine al 75 ?_);refine ab (bQ _ _) ?_) | ((with_reducible refine ao 77 ?_);refine af (hex) ?_) | ((with_reducible refine al 77 ?_);refine ab (hex) ?_) | ((with_reducible refine ao 55 ?_);refine af (hta) ?_) | ((with_reducible refine al 55 ?_);refine ab (hta) ?_) | refine sb (fun nb_ hnb_=>?_) | refine s2 (fun h=>?_) (fun h=>?_) | fail)
  all_goals exact hq0 _ (fun h0=>by simp_all[df,aa.op,aa.name,aa.arg,aa.index,aa.expr,ck])
end Go.Proofs.YtljkdffikfkcgaaGreat.Am
end
