/- RunCompletes: Complete gives what the reference gives, and in the end no thread is enabled: the law returns true for every input. The two package-level tables start as the program's text lays them (the card ties them). -/
import Derived.Test.YtfcfhjadaknphaaGreatDoorQxAm
import Derived.Test.YtfcfhjadaknphaaGreatDoorChecked
import Derived.Test.YtfcfhjadaknphaaGreatDoorTie
import Derived.Test.YtfcfhjadaknphaaGreatDoorCards
import Derived.LaidMore
import Derived.Stop.Joined
import Derived.Test.YtfcfhjadaknphaaGreatDoorRows
import Derived.Test.YtfcfhjadaknphaaGreatDoorProg
set_option linter.all false
set_option maxRecDepth 100000
set_option maxHeartbeats 0
section
namespace Go.Proofs.YtfcfhjadaknphaaGreatDoor.runCompletes
open Go.ChangeShapes Go.WideShapes Go.ChangeAt Go.RowKit Am
def law(u:List Int)(E:u.length<=maxLen/\∀x∈u,(Lit.int .u8 x).wf=true)(j:List Int)(D:j.length<=maxLen/\∀x∈j,(Lit.int .u8 x).wf=true):
  ao Tryz.prog 4 [.lst (u.map T7),.lst (j.map T7)] (.bool true):=by
 rw[<-zL λx B=>KM (E.2 x B),<-zL λx B=>KM (D.2 x B)];exact Dp _ _
def own:ownKnob Tryz.prog.godebug=none:=by kernel_rfl
def laidOut:laidOutB Tryz.prog=true:=by kernel_rfl
def agg_of{n:Nat}(j:n≠1){v:Value}(h:v.cells.toList.length=n):∃cs:List Value,v=.agg cs.toArray/\v.cells.toList=cs:=by
 cases v with
 |agg a=>exact⟨a.toList,YF,rfl⟩
 |_=>simp[Value.cells]at h;omega
def laidL : List (String × DataW Unit) := [("interleave/token.keywords", Rows.laid_interleave_token_keywords), ("interleave/run.kinds", Rows.laid_interleave_run_kinds)]
def door_met(os:Os)(args:Array Value):laidMetH Tryz.prog laidL ((World.doorLaid Tryz.prog 400 os).forCall (λ_ _=>0) ⟨#[],args,[]⟩).memory:=
 laidMetH_of_parts3 (fuel:=8) (laidMet_of_run' 8 (by kernel_rfl) (by kernel_rfl)) (by kernel_rfl) (by kernel_rfl)
def lifted(os:Os)(u:os.Started)(H:Type)(enc:TypeId×Value->H):
  ReturnsInHanded {} Tryz.checked os 4 .any (λw args=>(Rows.runCompletesSpec.pre enc Tryz.prog Tryz.f4 [] false w args/\laidMetH Tryz.prog laidL w)/\sizedMet enc Tryz.prog Tryz.f4 (OpenSpec.ofChange Rows.runCompletesSpec) false w args) (Rows.runCompletesSpec.post enc Tryz.prog Tryz.f4 false true false false):=by
 refine returnsInHanded_of_change_and (C:=Tryz.checked) (X:=λw _=>laidMetH Tryz.prog laidL w) (λ_ _ _ hh h=>h.of_heap hh) own u (by kernel_rfl) Tryz.func4
  (ChangeSpec.witness_shaped (enc:=enc) (C:=Tryz.checked) (os:=os) (X:=λw _=>laidMetH Tryz.prog laidL w) false (World.doorLaid Tryz.prog 400 os) #[.slice none 0 0,.slice none 0 0] 8 rfl (World.shaped_of_RefB (by kernel_rfl) (by kernel_rfl)) (by kernel_rfl) (by kernel_rfl) (by kernel_rfl) (door_met os _)) ?_
 intro W E args ds gs G D hW hcnd hsz hL _;have B:∀(j:Nat) t v,Tryz.f4.params[j]? =some t->args[j]? =some v->Value.okWide Tryz.prog W .any E t v:=D;have Y:=hW;obtain⟨p,q,Z,hV,rfl,hfz,hnd⟩:=hW;have hA:DataW.TrodAll enc Tryz.prog W 0 (λ_=>true) true Tryz.f4.params.toList args.toList ds p:=Z;rw[Tryz.params4]at hA B;obtain⟨v0,vs0,d0,ds0,p0,q0,S,rfl,rfl,h0,r0⟩:=trodAll_cons hA;obtain⟨v1,vs1,d1,ds1,p1,q1,rfl,rfl,rfl,h1,r1⟩:=trodAll_cons r0;obtain⟨rfl,rfl,rfl⟩:=trodAll_nil r1;obtain rfl:args=#[v0,v1]:=by cases args;simp_all
 obtain⟨rfl,rfl⟩:=trodVars_none hV;obtain⟨fuel0,O⟩:=h0;obtain⟨a0,n0,c0,rfl⟩:=okWide_slice Tryz.underlying22 (B 0 22 v0 rfl rfl);obtain⟨x0,g0,k0⟩:=FS _ _ _ O;obtain⟨fuel1,M⟩:=h1;obtain⟨a1,n1,c1,rfl⟩:=okWide_slice Tryz.underlying22 (B 1 22 v1 rfl rfl);obtain⟨x1,g1,k1⟩:=FS _ _ _ M;refine(Ee (law x0 g0 x1 g1) W (qY k0 (qY k1 Im)) (KO hL)).mono λe W' ⟨he,hb⟩=>⟨.bool true,he,?_⟩
 exact law_post laidOut (of_decide_eq_true (by kernel_rfl)) rfl rfl Tryz.underlying4 Y rfl rfl rfl hb
def over:Rows.RunCompletesSaid:=
 OpenClaim.holds_of_wide 4 Tryz.f4 rfl rfl rfl rfl rfl rfl rfl ⟨rfl,rfl,rfl,rfl,rfl⟩ rfl rfl rfl rfl rfl (by kernel_rfl) Tryz.func4 (by kernel_rfl)
  (of_decide_eq_true (by kernel_rfl)) (by unfold Func.isWrapper;first|(rw[if_pos (by decide +kernel)];kernel_rfl)|(rw[if_neg (by decide +kernel)];exact⟨rfl,rfl⟩))
  (λB j H u _=>lifted B j H u)
def proved:Rows.RunCompletesCardSaid:=
 Claim7.holds_tied_plain_at .later [] [.data,.data] true Rows.runCompletesCard.stood.harness false
  over (λ_ h=>by cases h) (by kernel_rfl) (λ_ h=>by cases h) runCompletes_row_tie rfl ⟨rfl,rfl⟩ (by kernel_rfl) rfl
  (λf fn hf hfn=>by
   obtain rfl : f = 4 := Option.some.inj ((show Tryz.prog.funcNamed "interleave/interleavelaw09.RunCompletes" = some 4 by kernel_rfl).symm.trans hf) |>.symm
   obtain rfl:fn=Tryz.f4:=(Yf (Tryz.func4.symm.trans hfn)).symm;exact⟨by kernel_rfl,λj t ht=>by
    rw[Tryz.params4]at ht;have hm:=Array.mem_of_getElem? ht;have hall:(#[22,22].all λu=>!Tryz.prog.wantsStandIn u)=true:=by kernel_rfl
    rw[Yo]at hall;have:=hall t hm;exact(show Tryz.prog.wantsStandIn t=false by simpa using this)⟩)
  (by kernel_rfl)
#print axioms proved
end Go.Proofs.YtfcfhjadaknphaaGreatDoor.runCompletes
end
