/- ModelRecorded: the recorded order is a feasible reordering, after which every event is executed, every read is fixed and everything is known: the law returns true for every input. -/
import Derived.Test.YtfckbjehkbhkgaaGreatQwFa
import Derived.Test.YtfckbjehkbhkgaaGreatChecked
import Derived.Test.YtfckbjehkbhkgaaGreatRows
import Derived.WalkKit
import Derived.ProofKit
import Derived.OpenShut
import Derived.Handy
import Derived.Outline
import Derived.Lib.Hide
import Derived.Deep.Slices
import Derived.Deep.Fields
import Derived.ChangeSame
import Derived.Carry
import Derived.Deep.Draws
import Derived.Laws.AppendOwn
import Derived.IntWalk
import Derived.Test.YtfckbjehkbhkgaaGreatProg
import Derived.KernelRfl
import Derived.LoopN
import Derived.MapKept
import Derived.Lib.OthersKept
import Derived.Laws.RangeString
import Derived.Deep.AppendSrc
import Derived.Lib.Strings
import Derived.Laws.StructEq
import Derived.Laws.Cells
import Derived.Laws.CopyRow
import Derived.Laws.Entries
import Derived.RowKit
import Derived.Calls
import Derived.Orders
import Derived.Below
import Derived.Sort.OwnSortedInts
import Derived.Laws.OwnMore
import Derived.Laws.MakeOwn
import Derived.OwnWalk
import Derived.Shelf.Small.Wraps
import Derived.Shelf.Sort.Plain
import Derived.Shelf.Slices.Turned
import Derived.Ground.Names2Prog
import Derived.Shelf.Slices.Clone
import Derived.Shelf.Slices.CompactI
import Derived.Shelf.Slices.In.SortNone
import Derived.Ground.SlgnProg
import Derived.Shelf.SlicesE.Clone
import Derived.WalkSpells
import Derived.Deep.DeepMust
set_option linter.all false
set_option maxRecDepth 100000
set_option maxHeartbeats 0
section
namespace Go.Proofs.YtfckbjehkbhkgaaGreat.modelRecorded
open Go.ChangeShapes Go.WideShapes Go.ChangeAt Go.RowKit
def facts:joinedFacts Tryz.pinned.checked.prog 10 Tryz.f10 Rows.modelRecordedSpec Rows.modelRecordedRow=true:=by kernel_rfl
end Go.Proofs.YtfckbjehkbhkgaaGreat.modelRecorded
end
section
namespace Go.Proofs.YtfckbjehkbhkgaaGreat.modelRecorded
open Go.ChangeShapes Go.WideShapes Go.ChangeAt Go.RowKit Am
def law(v:jW)(E:v.Ok):
  aq Tryz.prog 10 [.agg v.enc] (.bool true):=by
 obtain⟨p,u,j,z,y,G,hp,B,D⟩:=jz E;rw[G];exact Lz p u j hp z y B D
def own:ownKnob Tryz.prog.godebug=none:=by kernel_rfl
def laidOut:laidOutB Tryz.prog=true:=by kernel_rfl
def agg_of{n:Nat}(j:n≠1){v:Value}(h:v.cells.toList.length=n):∃cs:List Value,v=.agg cs.toArray/\v.cells.toList=cs:=by
 cases v with
 |agg a=>exact⟨a.toList,acQ,rfl⟩
 |_=>simp[Value.cells]at h;omega
def lifted(os:Os)(B:os.Started)(H:Type)(enc:TypeId×Value->H):
  ReturnsInHanded {} Tryz.checked os 10 .any (Rows.modelRecordedSpec.pre6 enc Tryz.prog Tryz.f10 Rows.modelRecordedRow.domain false) (Rows.modelRecordedSpec.post enc Tryz.prog Tryz.f10 false true false false):=by
 refine returnsInHanded_of_change (C:=Tryz.checked) own B (by kernel_rfl) Tryz.func10
  (ChangeSpec.witness6 (enc:=enc) (C:=Tryz.checked) false ⟨#[],#[.agg #[.slice none 0 0,.slice none 0 0,.slice none 0 0,.int .u8 0,.int .u8 0]],[]⟩ 8 (by kernel_rfl) (by kernel_rfl) (by kernel_rfl) (by kernel_rfl)) ?_
 intro W N u ds gs O D hW hcnd _;have G:∀(j:Nat) t v,Tryz.f10.params[j]? =some t->u[j]? =some v->Value.okWide Tryz.prog W .any N t v:=D;have Z:=hW;obtain⟨p,q,hA0,hV,rfl,hfz,hnd⟩:=hW;have hA:DataW.TrodAll enc Tryz.prog W 0 (λ_=>true) true Tryz.f10.params.toList u.toList ds p:=hA0;rw[Tryz.params10]at hA G;obtain⟨v0,vs0,d0,ds0,p0,q0,Y,rfl,rfl,h0,r0⟩:=trodAll_cons hA;obtain⟨rfl,rfl,rfl⟩:=trodAll_nil r0;obtain rfl:u=#[v0]:=by cases u;simp_all
 obtain⟨rfl,rfl⟩:=trodVars_none hV;obtain⟨fuel0,S⟩:=h0;obtain⟨x0,g0,E⟩:=mb _ _ _ S;obtain⟨cs0,rfl,M⟩:=agg_of (n:=5) acR (v:=v0) (by rw[<-E.1];first|rfl|exact enc_len _|simp);rw[M]at E;have E:=fw (bC.agg _ _ E.1 E.2);refine(iv (law x0 g0) W (bL E hD)).mono λe W' ⟨he,hb⟩=>⟨.bool true,he,?_⟩
 exact law_post laidOut (of_decide_eq_true (by kernel_rfl)) rfl rfl Tryz.underlying4 Z rfl rfl rfl hb
def over:Rows.modelRecordedRow.holds Tryz.pinned (OpenSpec.ofChange Rows.modelRecordedSpec):=
 OpenClaim.holds_of_wide 10 Tryz.f10 rfl rfl rfl rfl rfl rfl rfl ⟨rfl,rfl,rfl,rfl,rfl⟩ rfl rfl rfl rfl rfl (by kernel_rfl) Tryz.func10 facts
  (of_decide_eq_true (by kernel_rfl)) (by unfold Func.isWrapper;first|(rw[if_pos (by decide +kernel)];kernel_rfl)|(rw[if_neg (by decide +kernel)];exact⟨rfl,rfl⟩))
  (λB j H u _=>lifted B j H u)
def proved:Rows.ModelRecordedSaid:=
 over
#print axioms proved
end Go.Proofs.YtfckbjehkbhkgaaGreat.modelRecorded
end
