/- Closed facts: the laws of push. -/
import Derived.Test.YtdfjbkoimpjkaaaGreatPi
namespace Go.Proofs.YtdfjbkoimpjkaaaGreat
open Go Go.RowKit
set_option linter.unusedVariables false
set_option linter.unusedSimpArgs false
theorem cf_frame_Same:CF Tryz.prog 17:=fun _ _=>by kernel_rfl
end Go.Proofs.YtdfjbkoimpjkaaaGreat
