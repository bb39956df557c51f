/- ModelRuns: Run returns the specified configuration for reorderings, with any choice at their end: the law returns true for every input. -/
import Derived.Test.YtfckbjehkbhkgaaGreatQwAc
import Derived.Test.YtfckbjehkbhkgaaGreatChecked
import Derived.Test.YtfckbjehkbhkgaaGreatRows
import Derived.WalkKit
import Derived.ProofKit
import Derived.OpenShut
import Derived.Handy
import Derived.Outline
import Derived.Lib.Hide
import Derived.Deep.Slices
import Derived.Deep.Fields
import Derived.ChangeSame
import Derived.Carry
import Derived.Deep.Draws
import Derived.Laws.AppendOwn
set_option linter.all false
set_option maxRecDepth 100000
set_option maxHeartbeats 0
section
namespace Go.Proofs.YtfckbjehkbhkgaaGreat.modelRuns
open Go.ChangeShapes Go.WideShapes Go.ChangeAt Go.RowKit
def facts:joinedFacts Tryz.pinned.checked.prog 4 Tryz.f4 Rows.modelRunsSpec Rows.modelRunsRow=true:=by kernel_rfl
end Go.Proofs.YtfckbjehkbhkgaaGreat.modelRuns
end
section
namespace Go.Proofs.YtfckbjehkbhkgaaGreat.modelRuns
open Go.ChangeShapes Go.WideShapes Go.ChangeAt Go.RowKit Am
def law(v:jW)(G:v.Ok)(l:List Int)(M:l.length<=maxLen/\∀x∈l,(Lit.int .u8 x).wf=true)(c:aD)(O:True):
  aq Tryz.prog 4 [.agg v.enc,.lst (l.map Qk),.agg c.enc] (.bool true):=by
 obtain⟨p,u,j,z,y,N,hp,B,D⟩:=jz G;rw[N];rw[<-jo λx E=>ma (M.2 x E)];exact Vn p u j hp z y B D (Qc l) c.thread c.wake
def own:ownKnob Tryz.prog.godebug=none:=by kernel_rfl
def laidOut:laidOutB Tryz.prog=true:=by kernel_rfl
def agg_of{n:Nat}(j:n≠1){v:Value}(h:v.cells.toList.length=n):∃cs:List Value,v=.agg cs.toArray/\v.cells.toList=cs:=by
 cases v with
 |agg a=>exact⟨a.toList,acQ,rfl⟩
 |_=>simp[Value.cells]at h;omega
def lifted(os:Os)(B:os.Started)(H:Type)(enc:TypeId×Value->H):
  ReturnsInHanded {} Tryz.checked os 4 .any (Rows.modelRunsSpec.pre6 enc Tryz.prog Tryz.f4 Rows.modelRunsRow.domain false) (Rows.modelRunsSpec.post enc Tryz.prog Tryz.f4 false true false false):=by
 refine returnsInHanded_of_change (C:=Tryz.checked) own B (by kernel_rfl) Tryz.func4
  (ChangeSpec.witness6 (enc:=enc) (C:=Tryz.checked) false ⟨#[],#[.agg #[.slice none 0 0,.slice none 0 0,.slice none 0 0,.int .u8 0,.int .u8 0],.slice none 0 0,.agg #[.int .i64 0,.int .i64 0]],[]⟩ 8 (by kernel_rfl) (by kernel_rfl) (by kernel_rfl) (by kernel_rfl)) ?_
 intro W S u ds gs Y E hW hcnd _;have D:∀(j:Nat) t v,Tryz.f4.params[j]? =some t->u[j]? =some v->Value.okWide Tryz.prog W .any S t v:=E;have hW':=hW;obtain⟨p,q,hA0,hV,rfl,hfz,hnd⟩:=hW;have hA:DataW.TrodAll enc Tryz.prog W 0 (λ_=>true) true Tryz.f4.params.toList u.toList ds p:=hA0;rw[Tryz.params4]at hA D;obtain⟨v0,vs0,d0,ds0,p0,q0,hargs,rfl,rfl,h0,r0⟩:=trodAll_cons hA;obtain⟨v1,vs1,d1,ds1,p1,q1,rfl,rfl,rfl,h1,r1⟩:=trodAll_cons r0;obtain⟨v2,vs2,d2,ds2,p2,q2,rfl,rfl,rfl,h2,r2⟩:=trodAll_cons r1;obtain⟨rfl,rfl,rfl⟩:=trodAll_nil r2;obtain rfl:u=#[v0,v1,v2]:=by cases u;simp_all
 obtain⟨rfl,rfl⟩:=trodVars_none hV;obtain⟨fuel0,hf0⟩:=h0;obtain⟨x0,g0,M⟩:=mb _ _ _ hf0;obtain⟨cs0,rfl,O⟩:=agg_of (n:=5) acR (v:=v0) (by rw[<-M.1];first|rfl|exact enc_len _|simp);rw[O]at M;have M:=fw (bC.agg _ _ M.1 M.2);obtain⟨fuel1,hf1⟩:=h1;obtain⟨a1,n1,c1,rfl⟩:=okWide_slice Tryz.underlying22 (D 1 22 v1 rfl rfl);obtain⟨x1,g1,k1⟩:=mG _ _ _ hf1;obtain⟨fuel2,Z⟩:=h2;obtain⟨x2,g2,G⟩:=GU _ _ _ Z;obtain⟨cs2,rfl,N⟩:=agg_of (n:=2) acR (v:=v2) (by rw[<-G.1];first|rfl|exact enc_len _|simp);rw[N]at G;have G:=fw (bC.agg _ _ G.1 G.2);refine(iv (law x0 g0 x1 g1 x2 g2) W (bL M (bL k1 (bL G hD)))).mono λe W' ⟨he,hb⟩=>⟨.bool true,he,?_⟩
 exact law_post laidOut (of_decide_eq_true (by kernel_rfl)) rfl rfl Tryz.underlying4 hW' rfl rfl rfl hb
def over:Rows.modelRunsRow.holds Tryz.pinned (OpenSpec.ofChange Rows.modelRunsSpec):=
 OpenClaim.holds_of_wide 4 Tryz.f4 rfl rfl rfl rfl rfl rfl rfl ⟨rfl,rfl,rfl,rfl,rfl⟩ rfl rfl rfl rfl rfl (by kernel_rfl) Tryz.func4 facts
  (of_decide_eq_true (by kernel_rfl)) (by unfold Func.isWrapper;first|(rw[if_pos (by decide +kernel)];kernel_rfl)|(rw[if_neg (by decide +kernel)];exact⟨rfl,rfl⟩))
  (λB j H u _=>lifted B j H u)
def proved:Rows.ModelRunsSaid:=
 over
#print axioms proved
end Go.Proofs.YtfckbjehkbhkgaaGreat.modelRuns
end
