/- Closed facts: the laws of entries. -/
import Derived.Test.YtbijobepjjokmaaCu
namespace Go.Proofs.Ytbijobepjjokmaa
open Go Go.RowKit
set_option linter.unusedVariables false
set_option linter.unusedSimpArgs false
theorem cf_entry_Get:CF Try.prog 21:=fun _ _=>by kernel_rfl
theorem cf_entry_Put:CF Try.prog 12:=fun _ _=>by kernel_rfl
theorem cf_law07_works:CF Try.prog 9:=fun _ _=>by kernel_rfl
theorem cf_ref07_Get:CF Try.prog 22:=fun _ _=>by kernel_rfl
end Go.Proofs.Ytbijobepjjokmaa
