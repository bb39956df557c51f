/- part -/
import Derived.Test.YtfckbjehkbhkgaaGreatQwg
set_option linter.all false
set_option maxRecDepth 100000
set_option maxHeartbeats 0
namespace Go.Proofs.YtfckbjehkbhkgaaGreat.Am
def Eu(f:FuncId)(args:List AV):Option AV:=match args with
 |[.str s]=>if Nat.beq f 117=true then some (.bool (kL s))else none
 |_=>none
def fV:kE Tryz.prog Eu:=λf j v h=>by
 unfold Eu at h;split at h
 .split at h
  .rename_i u;cases h;rw[Nat.eq_of_beq_eq_true u];exact .of_pure (B7 _) (.bool _) Q7
  .cases h
 .cases h
def aaF:=BJ 50 [(123,[pA],sA)] Eu
def aaG:=BJ 50 [(104,[pA],rA),(105,[.nils],pA)] Eu
def aaH:dX Tryz.prog 123 [pA] sA:=cB (n:=2000) (d:=50) fV (by kernel_rfl) (by kernel_rfl)
def aaI:dX Tryz.prog 105 [.nils] pA:=cB (n:=2000) (d:=50) fV (by kernel_rfl) (by kernel_rfl)
def T0:kE Tryz.prog aaF:=j6 fV λe j=>by rw[aag.1 j];exact aaH
def aaJ:dX Tryz.prog 104 [pA] rA:=cB (n:=2000) (d:=50) T0 (by kernel_rfl) (by kernel_rfl)
def T1:kE Tryz.prog aaG:=j6 fV λe j=>by
 rcases aaj.1 j with rfl|j
 .exact aaJ
 .rw[aag.1 j];exact aaI
def aaK:dX Tryz.prog 65 [.nils] cA:=cB (n:=2000) (d:=50) T1 (by kernel_rfl) (by kernel_rfl)
