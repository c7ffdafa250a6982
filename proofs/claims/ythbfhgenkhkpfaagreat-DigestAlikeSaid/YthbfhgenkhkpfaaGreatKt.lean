/- Closed facts that every row of the seat asks. -/
import Derived.Test.YthbfhgenkhkpfaaGreatRows
import Derived.ProofKit
namespace Go.Proofs.YthbfhgenkhkpfaaGreat
open Go Go.ChangeShapes Go.WideShapes Go.ChangeAt Go.RowKit
set_option linter.unusedVariables false
theorem own_knob:ownKnob Tryz.prog.godebug=none:=by kernel_rfl
theorem laid_out:laidOutB Tryz.prog=true:=by kernel_rfl
end Go.Proofs.YthbfhgenkhkpfaaGreat
