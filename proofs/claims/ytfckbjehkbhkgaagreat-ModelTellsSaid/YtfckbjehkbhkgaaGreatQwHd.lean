/- part -/
import Derived.Test.YtfckbjehkbhkgaaGreatQwm
import Derived.Test.YtfckbjehkbhkgaaGreatChecked
import Derived.Test.YtfckbjehkbhkgaaGreatRows
import Derived.WalkKit
import Derived.ProofKit
import Derived.OpenShut
import Derived.Handy
import Derived.Outline
import Derived.Lib.Hide
import Derived.Deep.Slices
import Derived.Deep.Fields
import Derived.ChangeSame
import Derived.Carry
import Derived.Deep.Draws
import Derived.Laws.AppendOwn
import Derived.IntWalk
import Derived.Test.YtfckbjehkbhkgaaGreatProg
import Derived.KernelRfl
import Derived.LoopN
import Derived.MapKept
import Derived.Lib.OthersKept
import Derived.Laws.RangeString
import Derived.Deep.AppendSrc
import Derived.Lib.Strings
import Derived.Laws.StructEq
import Derived.Laws.Cells
import Derived.Laws.CopyRow
import Derived.Laws.Entries
import Derived.RowKit
import Derived.Calls
import Derived.Orders
import Derived.Below
set_option linter.all false
set_option maxRecDepth 100000
set_option maxHeartbeats 0
section
namespace Go.Proofs.YtfckbjehkbhkgaaGreat.modelTells
open Go.ChangeShapes Go.WideShapes Go.ChangeAt Go.RowKit
def facts:joinedFacts Tryz.pinned.checked.prog 3 Tryz.f3 Rows.modelTellsSpec Rows.modelTellsRow=true:=by kernel_rfl
end Go.Proofs.YtfckbjehkbhkgaaGreat.modelTells
end
