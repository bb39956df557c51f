/- ModelExchanges: two neighbouring events of different threads that access cells, not the same one or both only to read it, can be exchanged: the law returns true for every input. -/
import Derived.Test.YtfckbjehkbhkgaaGreatQwGd
import Derived.Test.YtfckbjehkbhkgaaGreatChecked
import Derived.Test.YtfckbjehkbhkgaaGreatRows
set_option linter.all false
set_option maxRecDepth 100000
set_option maxHeartbeats 0
section
namespace Go.Proofs.YtfckbjehkbhkgaaGreat.modelExchanges
open Go.ChangeShapes Go.WideShapes Go.ChangeAt Go.RowKit
def facts:joinedFacts Tryz.pinned.checked.prog 8 Tryz.f8 Rows.modelExchangesSpec Rows.modelExchangesRow=true:=by kernel_rfl
end Go.Proofs.YtfckbjehkbhkgaaGreat.modelExchanges
end
section
namespace Go.Proofs.YtfckbjehkbhkgaaGreat.modelExchanges
open Go.ChangeShapes Go.WideShapes Go.ChangeAt Go.RowKit Am
def law(v:jW)(N:v.Ok)(l:List Int)(O:l.length<=maxLen/\∀x∈l,(Lit.int .u8 x).wf=true)(a:Int)(B:(Lit.int .u8 a).wf=true)(b:Int)(j:(Lit.int .u8 b).wf=true):
  aq Tryz.prog 8 [.agg v.enc,.lst (l.map Qk),.int .u8 a,.int .u8 b] (.bool true):=by
 obtain⟨p,u,D,z,y,S,hp,E,G⟩:=jz N;rw[S];rw[<-jo λx M=>ma (O.2 x M)];have B:=ma B;have j:=ma j;rw[<-Int.toNat_of_nonneg B.1,<-Int.toNat_of_nonneg j.1];exact IS p u D hp z y E G (Qc l) a.toNat b.toNat acN acN
def own:ownKnob Tryz.prog.godebug=none:=by kernel_rfl
def laidOut:laidOutB Tryz.prog=true:=by kernel_rfl
def agg_of{n:Nat}(j:n≠1){v:Value}(h:v.cells.toList.length=n):∃cs:List Value,v=.agg cs.toArray/\v.cells.toList=cs:=by
 cases v with
 |agg a=>exact⟨a.toList,acQ,rfl⟩
 |_=>simp[Value.cells]at h;omega
def lifted(os:Os)(D:os.Started)(H:Type)(enc:TypeId×Value->H):
  ReturnsInHanded {} Tryz.checked os 8 .any (Rows.modelExchangesSpec.pre6 enc Tryz.prog Tryz.f8 Rows.modelExchangesRow.domain false) (Rows.modelExchangesSpec.post enc Tryz.prog Tryz.f8 false true false false):=by
 refine returnsInHanded_of_change (C:=Tryz.checked) own D (by kernel_rfl) Tryz.func8
  (ChangeSpec.witness6 (enc:=enc) (C:=Tryz.checked) false ⟨#[],#[.agg #[.slice none 0 0,.slice none 0 0,.slice none 0 0,.int .u8 0,.int .u8 0],.slice none 0 0,.int .u8 0,.int .u8 0],[]⟩ 8 (by kernel_rfl) (by kernel_rfl) (by kernel_rfl) (by kernel_rfl)) ?_
 intro W S B ds gs Y E hW hcnd _;have u:∀(j:Nat) t v,Tryz.f8.params[j]? =some t->B[j]? =some v->Value.okWide Tryz.prog W .any S t v:=E;have hW':=hW;obtain⟨p,q,hA0,hV,rfl,hfz,hnd⟩:=hW;have hA:DataW.TrodAll enc Tryz.prog W 0 (λ_=>true) true Tryz.f8.params.toList B.toList ds p:=hA0;rw[Tryz.params8]at hA u;obtain⟨v0,vs0,d0,ds0,p0,q0,hargs,rfl,rfl,h0,r0⟩:=trodAll_cons hA;obtain⟨v1,vs1,d1,ds1,p1,q1,rfl,rfl,rfl,h1,r1⟩:=trodAll_cons r0;obtain⟨v2,vs2,d2,ds2,p2,q2,rfl,rfl,rfl,h2,r2⟩:=trodAll_cons r1;obtain⟨v3,vs3,d3,ds3,p3,q3,rfl,rfl,rfl,h3,r3⟩:=trodAll_cons r2;obtain⟨rfl,rfl,rfl⟩:=trodAll_nil r3;obtain rfl:B=#[v0,v1,v2,v3]:=by cases B;simp_all
 obtain⟨rfl,rfl⟩:=trodVars_none hV;obtain⟨fuel0,hf0⟩:=h0;obtain⟨x0,g0,N⟩:=mb _ _ _ hf0;obtain⟨cs0,rfl,O⟩:=agg_of (n:=5) acR (v:=v0) (by rw[<-N.1];first|rfl|exact enc_len _|simp);rw[O]at N;have N:=fw (bC.agg _ _ N.1 N.2);obtain⟨fuel1,hf1⟩:=h1;obtain⟨a1,n1,c1,rfl⟩:=okWide_slice Tryz.underlying22 (u 1 22 v1 rfl rfl);obtain⟨x1,g1,k1⟩:=mG _ _ _ hf1;obtain⟨M,hf2⟩:=h2;obtain⟨x2,rfl,_,_,g2⟩:=open_int Tryz.underlying5 (u 2 5 v2 rfl rfl) ⟨M,hf2⟩;have k2:=fw (bC.int (w:=W) (σ:=Lu) (T:=Nf) .u8 x2);obtain⟨G,Z⟩:=h3;obtain⟨x3,rfl,_,_,g3⟩:=open_int Tryz.underlying5 (u 3 5 v3 rfl rfl) ⟨G,Z⟩;have k3:=fw (bC.int (w:=W) (σ:=Lu) (T:=Nf) .u8 x3);refine(iv (law x0 g0 x1 g1 x2 g2 x3 g3) W (bL N (bL k1 (bL k2 (bL k3 hD))))).mono λe W' ⟨he,hb⟩=>⟨.bool true,he,?_⟩
 exact law_post laidOut (of_decide_eq_true (by kernel_rfl)) rfl rfl Tryz.underlying4 hW' rfl rfl rfl hb
def over:Rows.modelExchangesRow.holds Tryz.pinned (OpenSpec.ofChange Rows.modelExchangesSpec):=
 OpenClaim.holds_of_wide 8 Tryz.f8 rfl rfl rfl rfl rfl rfl rfl ⟨rfl,rfl,rfl,rfl,rfl⟩ rfl rfl rfl rfl rfl (by kernel_rfl) Tryz.func8 facts
  (of_decide_eq_true (by kernel_rfl)) (by unfold Func.isWrapper;first|(rw[if_pos (by decide +kernel)];kernel_rfl)|(rw[if_neg (by decide +kernel)];exact⟨rfl,rfl⟩))
  (λB j H u _=>lifted B j H u)
def proved:Rows.ModelExchangesSaid:=
 over
#print axioms proved
end Go.Proofs.YtfckbjehkbhkgaaGreat.modelExchanges
end
