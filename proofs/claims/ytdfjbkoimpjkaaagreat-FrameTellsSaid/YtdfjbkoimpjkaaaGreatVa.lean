/- Sums of texts that differ in four bytes that stand next to each other: in plain Lean. -/
import Derived.Test.YtdfjbkoimpjkaaaGreatMb
import Derived.Test.YtdfjbkoimpjkaaaGreatHk
namespace Go.Proofs.YtdfjbkoimpjkaaaGreat
open Go Go.RowKit
set_option linter.unusedVariables false
set_option linter.unusedSimpArgs false

def b8 (x:Nat):Nat:=b4 (b4 x)
end Go.Proofs.YtdfjbkoimpjkaaaGreat
