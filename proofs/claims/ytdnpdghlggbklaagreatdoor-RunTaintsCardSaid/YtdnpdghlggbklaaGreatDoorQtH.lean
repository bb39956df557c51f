/- RunTaints: lists of events name earlier loads and gets, and cover what a value depends on: the law returns true for every input. The two package-level tables start as the program's text lays them (the card ties them). -/
import Derived.Test.YtdnpdghlggbklaaGreatDoorQtG
import Derived.Test.YtdnpdghlggbklaaGreatDoorChecked
import Derived.Test.YtdnpdghlggbklaaGreatDoorTie
import Derived.Test.YtdnpdghlggbklaaGreatDoorCards
import Derived.ProofKit
import Derived.LaidMore
import Derived.Stop.Joined
set_option linter.unusedSimpArgs false
set_option linter.unusedVariables false
section
namespace Go.Proofs.YtdnpdghlggbklaaGreatDoor.runTaints
open Go.ChangeShapes Go.WideShapes Go.ChangeAt Go.RowKit Am
set_option linter.unusedSimpArgs false
theorem law(l0:List Int)(h0:l0.length≤maxLen∧∀x∈l0,(Lit.int .u8 x).wf=true)(l1:List Int)(h1:l1.length≤maxLen∧∀x∈l1,(Lit.int .u8 x).wf=true)(l2:List Int)(h2:l2.length≤maxLen∧∀x∈l2,(Lit.int .u8 x).wf=true):
  az Tryz.prog 5 [.lst (l0.map Xs),.lst (l1.map Xs),.lst (l2.map Xs)] (.bool true):=by
 rw[←Jc λx hx=>Ro (h0.2 x hx),←Jc λx hx=>Ro (h1.2 x hx),←Jc λx hx=>Ro (h2.2 x hx)];exact OF _ _ _
theorem own:ownKnob Tryz.prog.godebug=none:=by kernel_rfl
theorem laidOut:laidOutB Tryz.prog=true:=by kernel_rfl
theorem agg_of{n:Nat}(hn:n≠1){v:Value}(h:v.cells.toList.length=n):∃cs:List Value,v=.agg cs.toArray∧v.cells.toList=cs:=by
 cases v with
 |agg a=>exact⟨a.toList,ZM,rfl⟩
 |_=>simp[Value.cells]at h;omega
def laidL : List (String × DataW Unit) := [("interleave/token.keywords", Rows.laid_interleave_token_keywords), ("interleave/run.kinds", Rows.laid_interleave_run_kinds)]
theorem door_met(os:Os)(args:Array Value):laidMetH Tryz.prog laidL ((World.doorLaid Tryz.prog 400 os).forCall (λ_ _=>0) ⟨#[],args,[]⟩).memory:=
 laidMetH_of_parts3 (fuel:=8) (laidMet_of_run' 8 (by kernel_rfl) (by kernel_rfl)) (by kernel_rfl) (by kernel_rfl)
set_option maxRecDepth 100000 in
theorem lifted(os:Os)(started:os.Started)(H:Type)(enc:TypeId×Value→H):
  ReturnsInHanded {} Tryz.checked os 5 .any (λw args=>(Rows.runTaintsSpec.pre enc Tryz.prog Tryz.f5 [] false w args∧laidMetH Tryz.prog laidL w)∧sizedMet enc Tryz.prog Tryz.f5 (OpenSpec.ofChange Rows.runTaintsSpec) false w args) (Rows.runTaintsSpec.post enc Tryz.prog Tryz.f5 false true false false):=by
 refine returnsInHanded_of_change_and (C:=Tryz.checked) (X:=λw _=>laidMetH Tryz.prog laidL w) (λ_ _ _ hh h=>h.of_heap hh) own started (by kernel_rfl) Tryz.func5
  (ChangeSpec.witness_shaped (enc:=enc) (C:=Tryz.checked) (os:=os) (X:=λw _=>laidMetH Tryz.prog laidL w) false (World.doorLaid Tryz.prog 400 os) #[.slice none 0 0,.slice none 0 0,.slice none 0 0] 8 rfl (World.shaped_of_RefB (by kernel_rfl) (by kernel_rfl)) (by kernel_rfl) (by kernel_rfl) (by kernel_rfl) (door_met os _)) ?_
 intro W base args ds gs before hval0 hW hcnd hsz hL _;have hval:∀(j:Nat) t v,Tryz.f5.params[j]? =some t→args[j]? =some v→Value.okWide Tryz.prog W .any base t v:=hval0;have hW':=hW;obtain⟨p,q,hA0,hV,rfl,hfz,hnd⟩:=hW;have hA:DataW.TrodAll enc Tryz.prog W 0 (λ_=>true) true Tryz.f5.params.toList args.toList ds p:=hA0;rw[Tryz.params5]at hA hval;obtain⟨v0,vs0,d0,ds0,p0,q0,hargs,rfl,rfl,h0,r0⟩:=trodAll_cons hA;obtain⟨v1,vs1,d1,ds1,p1,q1,rfl,rfl,rfl,h1,r1⟩:=trodAll_cons r0;obtain⟨v2,vs2,d2,ds2,p2,q2,rfl,rfl,rfl,h2,r2⟩:=trodAll_cons r1;obtain⟨rfl,rfl,rfl⟩:=trodAll_nil r2;obtain rfl:args=#[v0,v1,v2]:=by cases args;simp_all
 obtain⟨rfl,rfl⟩:=trodVars_none hV;obtain⟨fuel0,hf0⟩:=h0;obtain⟨a0,n0,c0,rfl⟩:=okWide_slice Tryz.underlying22 (hval 0 22 v0 rfl rfl);obtain⟨x0,g0,k0⟩:=Mu _ _ _ hf0;obtain⟨fuel1,hf1⟩:=h1;obtain⟨a1,n1,c1,rfl⟩:=okWide_slice Tryz.underlying22 (hval 1 22 v1 rfl rfl);obtain⟨x1,g1,k1⟩:=Mu _ _ _ hf1;obtain⟨fuel2,hf2⟩:=h2;obtain⟨a2,n2,c2,rfl⟩:=okWide_slice Tryz.underlying22 (hval 2 22 v2 rfl rfl);obtain⟨x2,g2,k2⟩:=Mu _ _ _ hf2;refine(OI (law x0 g0 x1 g1 x2 g2) W (Cb k0 (Cb k1 (Cb k2 Rm))) (ST hL)).mono λe W' ⟨he,hb⟩=>⟨.bool true,he,?_⟩
 exact law_post laidOut (of_decide_eq_true (by kernel_rfl)) rfl rfl Tryz.underlying4 hW' rfl rfl rfl hb
theorem over:Rows.RunTaintsSaid:=
 OpenClaim.holds_of_wide 5 Tryz.f5 rfl rfl rfl rfl rfl rfl rfl ⟨rfl,rfl,rfl,rfl,rfl⟩ rfl rfl rfl rfl rfl (by kernel_rfl) Tryz.func5 (by kernel_rfl)
  (of_decide_eq_true (by kernel_rfl)) (by unfold Func.isWrapper;first|(rw[if_pos (by decide +kernel)];kernel_rfl)|(rw[if_neg (by decide +kernel)];exact⟨rfl,rfl⟩))
  (λos started H enc _=>lifted os started H enc)
theorem proved:Rows.RunTaintsCardSaid:=
 Claim7.holds_tied_plain_at .later [] [.data,.data] true Rows.runTaintsCard.stood.harness false
  over (λ_ h=>by cases h) (by kernel_rfl) (λ_ h=>by cases h) runTaints_row_tie rfl ⟨rfl,rfl⟩ (by kernel_rfl) rfl
  (λf fn hf hfn=>by
   obtain rfl : f = 5 := Option.some.inj ((show Tryz.prog.funcNamed "interleave/interleavelaw09.RunTaints" = some 5 by kernel_rfl).symm.trans hf) |>.symm
   obtain rfl:fn=Tryz.f5:=(ZE (Tryz.func5.symm.trans hfn)).symm;exact⟨by kernel_rfl,λj t ht=>by
    rw[Tryz.params5]at ht;have hm:=Array.mem_of_getElem? ht;have hall:(#[22,22,22].all λu=>!Tryz.prog.wantsStandIn u)=true:=by kernel_rfl
    rw[Array.all_eq_true_iff_forall_mem]at hall;have:=hall t hm;exact(show Tryz.prog.wantsStandIn t=false by simpa using this)⟩)
  (by kernel_rfl)
#print axioms proved
end Go.Proofs.YtdnpdghlggbklaaGreatDoor.runTaints
end
