/- Closed facts: the references of frames and of push. -/
import Derived.Test.YtbijobepjjokmaaCt5
namespace Go.Proofs.Ytbijobepjjokmaa
open Go Go.RowKit
set_option linter.unusedVariables false
set_option linter.unusedSimpArgs false
theorem cf_ref01_Put:CF Try.prog 54:=fun _ _=>by kernel_rfl
end Go.Proofs.Ytbijobepjjokmaa
