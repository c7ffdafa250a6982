/- Closed facts: frames. -/
import Derived.Test.YtbijobepjjokmaaCt4
import Derived.Test.YtbijobepjjokmaaD4
namespace Go.Proofs.Ytbijobepjjokmaa
open Go Go.RowKit
set_option linter.unusedVariables false
set_option linter.unusedSimpArgs false
theorem cf_octet_Put:CF Try.prog 52:=fun _ _=>by kernel_rfl
theorem cf_octet_parts:CF Try.prog 64:=fun _ _=>by kernel_rfl
theorem cf_octet_parts_1:CF Try.prog 67:=fun _ _=>by kernel_rfl
end Go.Proofs.Ytbijobepjjokmaa
