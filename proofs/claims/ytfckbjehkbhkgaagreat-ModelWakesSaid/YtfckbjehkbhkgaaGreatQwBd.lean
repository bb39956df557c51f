/- ModelWakes: the number of threads that a notification wakes does not depend on which threads earlier notifications woke: the law returns true for every input. -/
import Derived.Test.YtfckbjehkbhkgaaGreatQwBc
import Derived.Test.YtfckbjehkbhkgaaGreatChecked
import Derived.Test.YtfckbjehkbhkgaaGreatRows
set_option linter.all false
set_option maxRecDepth 100000
set_option maxHeartbeats 0
section
namespace Go.Proofs.YtfckbjehkbhkgaaGreat.modelWakes
open Go.ChangeShapes Go.WideShapes Go.ChangeAt Go.RowKit
def facts:joinedFacts Tryz.pinned.checked.prog 9 Tryz.f9 Rows.modelWakesSpec Rows.modelWakesRow=true:=by kernel_rfl
end Go.Proofs.YtfckbjehkbhkgaaGreat.modelWakes
end
section
namespace Go.Proofs.YtfckbjehkbhkgaaGreat.modelWakes
open Go.ChangeShapes Go.WideShapes Go.ChangeAt Go.RowKit Am
def law(v:jW)(G:v.Ok)(l:List Int)(N:l.length<=maxLen/\∀x∈l,(Lit.int .u8 x).wf=true)(o:List Int)(M:o.length<=maxLen/\∀x∈o,(Lit.int .u8 x).wf=true):
  aq Tryz.prog 9 [.agg v.enc,.lst (l.map Qk),.lst (o.map Qk)] (.bool true):=by
 obtain⟨p,u,B,z,y,O,hp,D,E⟩:=jz G;rw[O];rw[<-jo λx j=>ma (N.2 x j),<-jo λx j=>ma (M.2 x j)];exact Tg p u B hp z y D E (Qc l) (Qc o)
def own:ownKnob Tryz.prog.godebug=none:=by kernel_rfl
def laidOut:laidOutB Tryz.prog=true:=by kernel_rfl
def agg_of{n:Nat}(j:n≠1){v:Value}(h:v.cells.toList.length=n):∃cs:List Value,v=.agg cs.toArray/\v.cells.toList=cs:=by
 cases v with
 |agg a=>exact⟨a.toList,acQ,rfl⟩
 |_=>simp[Value.cells]at h;omega
def lifted(os:Os)(B:os.Started)(H:Type)(enc:TypeId×Value->H):
  ReturnsInHanded {} Tryz.checked os 9 .any (Rows.modelWakesSpec.pre6 enc Tryz.prog Tryz.f9 Rows.modelWakesRow.domain false) (Rows.modelWakesSpec.post enc Tryz.prog Tryz.f9 false true false false):=by
 refine returnsInHanded_of_change (C:=Tryz.checked) own B (by kernel_rfl) Tryz.func9
  (ChangeSpec.witness6 (enc:=enc) (C:=Tryz.checked) false ⟨#[],#[.agg #[.slice none 0 0,.slice none 0 0,.slice none 0 0,.int .u8 0,.int .u8 0],.slice none 0 0,.slice none 0 0],[]⟩ 8 (by kernel_rfl) (by kernel_rfl) (by kernel_rfl) (by kernel_rfl)) ?_
 intro W N u ds gs O E hW hcnd _;have D:∀(j:Nat) t v,Tryz.f9.params[j]? =some t->u[j]? =some v->Value.okWide Tryz.prog W .any N t v:=E;have hW':=hW;obtain⟨p,q,hA0,hV,rfl,hfz,hnd⟩:=hW;have hA:DataW.TrodAll enc Tryz.prog W 0 (λ_=>true) true Tryz.f9.params.toList u.toList ds p:=hA0;rw[Tryz.params9]at hA D;obtain⟨v0,vs0,d0,ds0,p0,q0,hargs,rfl,rfl,h0,r0⟩:=trodAll_cons hA;obtain⟨v1,vs1,d1,ds1,p1,q1,rfl,rfl,rfl,h1,r1⟩:=trodAll_cons r0;obtain⟨v2,vs2,d2,ds2,p2,q2,rfl,rfl,rfl,h2,r2⟩:=trodAll_cons r1;obtain⟨rfl,rfl,rfl⟩:=trodAll_nil r2;obtain rfl:u=#[v0,v1,v2]:=by cases u;simp_all
 obtain⟨rfl,rfl⟩:=trodVars_none hV;obtain⟨fuel0,Z⟩:=h0;obtain⟨x0,g0,G⟩:=mb _ _ _ Z;obtain⟨cs0,rfl,M⟩:=agg_of (n:=5) acR (v:=v0) (by rw[<-G.1];first|rfl|exact enc_len _|simp);rw[M]at G;have G:=fw (bC.agg _ _ G.1 G.2);obtain⟨fuel1,Y⟩:=h1;obtain⟨a1,n1,c1,rfl⟩:=okWide_slice Tryz.underlying22 (D 1 22 v1 rfl rfl);obtain⟨x1,g1,k1⟩:=mG _ _ _ Y;obtain⟨fuel2,S⟩:=h2;obtain⟨a2,n2,c2,rfl⟩:=okWide_slice Tryz.underlying22 (D 2 22 v2 rfl rfl);obtain⟨x2,g2,k2⟩:=mG _ _ _ S;refine(iv (law x0 g0 x1 g1 x2 g2) W (bL G (bL k1 (bL k2 hD)))).mono λe W' ⟨he,hb⟩=>⟨.bool true,he,?_⟩
 exact law_post laidOut (of_decide_eq_true (by kernel_rfl)) rfl rfl Tryz.underlying4 hW' rfl rfl rfl hb
def over:Rows.modelWakesRow.holds Tryz.pinned (OpenSpec.ofChange Rows.modelWakesSpec):=
 OpenClaim.holds_of_wide 9 Tryz.f9 rfl rfl rfl rfl rfl rfl rfl ⟨rfl,rfl,rfl,rfl,rfl⟩ rfl rfl rfl rfl rfl (by kernel_rfl) Tryz.func9 facts
  (of_decide_eq_true (by kernel_rfl)) (by unfold Func.isWrapper;first|(rw[if_pos (by decide +kernel)];kernel_rfl)|(rw[if_neg (by decide +kernel)];exact⟨rfl,rfl⟩))
  (λB j H u _=>lifted B j H u)
def proved:Rows.ModelWakesSaid:=
 over
#print axioms proved
end Go.Proofs.YtfckbjehkbhkgaaGreat.modelWakes
end
