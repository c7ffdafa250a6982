/- Join and Below of value: what each comes to. -/
import Derived.Test.YtpopikeebobjnaaGa2
namespace Go.Proofs.Ytpopikeebobjnaa
open Go Go.RowKit
set_option linter.unusedVariables false
set_option linter.unusedSimpArgs false
end Go.Proofs.Ytpopikeebobjnaa
