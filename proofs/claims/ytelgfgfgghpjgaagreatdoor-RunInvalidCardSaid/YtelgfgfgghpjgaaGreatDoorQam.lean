/- RunInvalid: a code that is not valid has no executions: the law returns true for every code, list of choices and thread. The two package-level tables start as the program's text lays them (the card ties them). -/
import Derived.Test.YtelgfgfgghpjgaaGreatDoorQal
import Derived.Test.YtelgfgfgghpjgaaGreatDoorChecked
import Derived.Test.YtelgfgfgghpjgaaGreatDoorTie
import Derived.Test.YtelgfgfgghpjgaaGreatDoorCards
import Derived.ProofKit
import Derived.LaidMore
import Derived.Stop.Joined
set_option linter.unusedSimpArgs false
set_option linter.unusedVariables false
section
namespace Go.Proofs.YtelgfgfgghpjgaaGreatDoor.runInvalid
open Go.ChangeShapes Go.WideShapes Go.ChangeAt Go.RowKit Am
set_option linter.unusedVariables false
set_option linter.unusedSimpArgs false
theorem law(c:Am.CodD)(hc:∀t∈c.ts,t.ins.length≤reachBytes)(l:List mS)(t:Int):ax Tryz.prog 3 [.agg c.enc,.lst (l.map mS.enc),.int .i64 t] (.bool true):=
 uu c (fun t h=>by have:=hc t h;unfold reachBytes at this;omega) l t
theorem own:ownKnob Tryz.prog.godebug=none:=by kernel_rfl
theorem laidOut:laidOutB Tryz.prog=true:=by kernel_rfl
theorem agg_of{n:Nat}(hn:n≠1){v:Value}(h:v.cells.toList.length=n):∃cs:List Value,v=.agg cs.toArray∧v.cells.toList=cs:=by
 cases v with
 | agg a=>exact⟨a.toList,by simp,rfl⟩
 | _=>simp[Value.cells]at h;omega
def laidL : List (String × DataW Unit) := [("interleave/token.keywords", Rows.laid_interleave_token_keywords), ("interleave/run.kinds", Rows.laid_interleave_run_kinds)]
theorem door_met(os:Os)(args:Array Value):laidMetH Tryz.prog laidL ((World.doorLaid Tryz.prog 400 os).forCall (fun _ _=>0) ⟨#[],args,[]⟩).memory:=
 laidMetH_of_parts3 (fuel:=8) (laidMet_of_run' 8 (by kernel_rfl) (by kernel_rfl)) (by kernel_rfl) (by kernel_rfl)
set_option maxRecDepth 100000 in
theorem lifted(os:Os)(started:os.Started)(H:Type)(enc:TypeId×Value→H):
  ReturnsInHanded {} Tryz.checked os 3 .any (fun w args=>(Rows.runInvalidSpec.pre enc Tryz.prog Tryz.f3 [] false w args∧laidMetH Tryz.prog laidL w)∧sizedMet enc Tryz.prog Tryz.f3 (OpenSpec.ofChange Rows.runInvalidSpec) false w args) (Rows.runInvalidSpec.post enc Tryz.prog Tryz.f3 false true false false):=by
 refine returnsInHanded_of_change_and (C:=Tryz.checked) (X:=fun w _=>laidMetH Tryz.prog laidL w) (fun _ _ _ hh h=>h.of_heap hh) own started (by kernel_rfl) Tryz.func3
  (ChangeSpec.witness_shaped (enc:=enc) (C:=Tryz.checked) (os:=os) (X:=fun w _=>laidMetH Tryz.prog laidL w) false (World.doorLaid Tryz.prog 400 os) #[.agg #[.slice none 0 0,.slice none 0 0,.slice none 0 0,.slice none 0 0,.slice none 0 0,.slice none 0 0,.slice none 0 0],.slice none 0 0,.int .i64 0] 8 rfl (World.shaped_of_RefB (by kernel_rfl) (by kernel_rfl)) (by kernel_rfl) (by kernel_rfl) (by kernel_rfl) (door_met os _)) ?_
 intro W base args ds gs before hval0 hW hcnd hsz hL _
 have hval:∀(j:Nat) t v,Tryz.f3.params[j]? =some t→args[j]? =some v→Value.okWide Tryz.prog W .any base t v:=hval0
 have hW':=hW
 obtain⟨p,q,hA0,hV,rfl,hfz,hnd⟩:=hW
 have hA:DataW.TrodAll enc Tryz.prog W 0 (fun _=>true) true Tryz.f3.params.toList args.toList ds p:=hA0
 rw[Tryz.params3]at hA hval
 obtain⟨v0,vs0,d0,ds0,p0,q0,hargs,rfl,rfl,h0,r0⟩:=trodAll_cons hA
 obtain⟨v1,vs1,d1,ds1,p1,q1,rfl,rfl,rfl,h1,r1⟩:=trodAll_cons r0
 obtain⟨v2,vs2,d2,ds2,p2,q2,rfl,rfl,rfl,h2,r2⟩:=trodAll_cons r1
 obtain⟨rfl,rfl,rfl⟩:=trodAll_nil r2
 obtain rfl:args=#[v0,v1,v2]:=by cases args;simp_all
 obtain⟨rfl,rfl⟩:=trodVars_none hV
 obtain⟨fuel0,hf0⟩:=h0
 have ht0:(Tryz.f3.params.toList++Rows.runInvalidSpec.plain.varTypes Tryz.prog)[0]? =some 31:=by rw[Tryz.params3];rfl
 have hwt:∀n∈d0.weights Tryz.prog 31,n≤reachBytes:=fun n hn=>by
  have:=List.all_eq_true.1 hsz n (DataW.weights_mem_each ht0 rfl n hn)
  simpa using this
 obtain⟨x0,k0,g0⟩:=uA hf0 hwt
 replace k0:=k0.2
 obtain⟨cs0,rfl,hcs0⟩:=agg_of (n:=7) (by decide) (v:=v0) (by rw[←k0.1];rfl)
 rw[hcs0]at k0
 have k0:=dT (aw.agg _ _ k0.1 k0.2)
 obtain⟨fuel1,hf1⟩:=h1
 obtain⟨a1,n1,c1,rfl⟩:=okWide_slice Tryz.underlying32 (hval 1 32 v1 rfl rfl)
 obtain⟨x1,g1,k1⟩:=cF Tryz.underlying32 (show Tryz.prog.cellsOf 55=2 by kernel_rfl) (by decide) r7 _ _ _ hf1
 obtain⟨fuel2,hf2⟩:=h2
 obtain⟨x2,rfl,_,_,g2⟩:=open_int Tryz.underlying3 (hval 2 3 v2 rfl rfl) ⟨fuel2,hf2⟩
 have k2:=dT (aw.int (w:=W) (σ:=nh) (T:=nk) .i64 x2)
 refine(r6 (law x0 g0 x1 x2) W (ar k0 (ar k1 (ar k2 cE))) (uD hL)).mono fun e W' ⟨he,hb⟩=>⟨.bool true,he,?_⟩
 exact law_post laidOut (of_decide_eq_true (by kernel_rfl)) rfl rfl Tryz.underlying4 hW' rfl rfl rfl hb
theorem over:Rows.RunInvalidSaid:=
 OpenClaim.holds_of_wide 3 Tryz.f3 rfl rfl rfl rfl rfl rfl rfl ⟨rfl,rfl,rfl,rfl,rfl⟩ rfl rfl rfl rfl rfl (by kernel_rfl) Tryz.func3 (by kernel_rfl)
  (of_decide_eq_true (by kernel_rfl)) (by unfold Func.isWrapper;first | (rw[if_pos (by decide +kernel)];kernel_rfl) | (rw[if_neg (by decide +kernel)];exact⟨rfl,rfl⟩))
  (fun os started H enc _=>lifted os started H enc)
theorem proved:Rows.RunInvalidCardSaid:=
 Claim7.holds_tied_plain_at .later [] [.data,.data] true Rows.runInvalidCard.stood.harness false
  over (fun _ h=>by cases h) (by kernel_rfl) (fun _ h=>by cases h) runInvalid_row_tie rfl ⟨rfl,rfl⟩ (by kernel_rfl) rfl
  (fun f fn hf hfn=>by
   obtain rfl : f = 3 := Option.some.inj ((show Tryz.prog.funcNamed "interleave/interleavelaw09.RunInvalid" = some 3 by kernel_rfl).symm.trans hf) |>.symm
   obtain rfl:fn=Tryz.f3:=(Option.some.inj (Tryz.func3.symm.trans hfn)).symm
   exact⟨by kernel_rfl,fun j t ht=>by
    rw[Tryz.params3]at ht
    have hm:=Array.mem_of_getElem? ht
    have hall:(#[31,32,3].all fun u=>!Tryz.prog.wantsStandIn u)=true:=by kernel_rfl
    rw[Array.all_eq_true_iff_forall_mem]at hall
    have:=hall t hm
    exact(show Tryz.prog.wantsStandIn t=false by simpa using this)⟩)
  (by kernel_rfl)
#print axioms proved
end Go.Proofs.YtelgfgfgghpjgaaGreatDoor.runInvalid
end
