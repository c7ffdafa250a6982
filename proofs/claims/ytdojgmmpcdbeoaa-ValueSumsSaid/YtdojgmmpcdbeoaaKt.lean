/- Closed facts that every row of the seat asks. -/
import Derived.Test.YtdojgmmpcdbeoaaRows
import Derived.ProofKit
namespace Go.Proofs.Ytdojgmmpcdbeoaa
open Go Go.ChangeShapes Go.WideShapes Go.ChangeAt Go.RowKit
set_option linter.unusedVariables false
theorem own_knob:ownKnob Try.prog.godebug=none:=by kernel_rfl
theorem laid_out:laidOutB Try.prog=true:=by kernel_rfl
end Go.Proofs.Ytdojgmmpcdbeoaa
