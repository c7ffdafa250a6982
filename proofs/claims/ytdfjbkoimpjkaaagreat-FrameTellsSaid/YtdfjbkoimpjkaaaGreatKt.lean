/- Closed facts that every row of the seat asks. -/
import Derived.Test.YtdfjbkoimpjkaaaGreatRows
import Derived.ProofKit
namespace Go.Proofs.YtdfjbkoimpjkaaaGreat
open Go Go.ChangeShapes Go.WideShapes Go.ChangeAt Go.RowKit
set_option linter.unusedVariables false
theorem own_knob:ownKnob Tryz.prog.godebug=none:=by kernel_rfl
theorem laid_out:laidOutB Tryz.prog=true:=by kernel_rfl
end Go.Proofs.YtdfjbkoimpjkaaaGreat
