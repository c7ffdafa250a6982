/- Closed facts: entries as bytes. -/
import Derived.Test.YtbijobepjjokmaaBc
namespace Go.Proofs.Ytbijobepjjokmaa
open Go Go.RowKit
set_option linter.unusedVariables false
set_option linter.unusedSimpArgs false
theorem cf_ref01_Get:CF Try.prog 66:=fun _ _=>by kernel_rfl
theorem cf_ref07_Put:CF Try.prog 13:=fun _ _=>by kernel_rfl
theorem cf_ref07_bit:CF Try.prog 55:=fun _ _=>by kernel_rfl
theorem cf_ref07_data:CF Try.prog 36:=fun _ _=>by kernel_rfl
theorem cf_ref07_get:CF Try.prog 62:=fun _ _=>by kernel_rfl
theorem cf_ref07_gets:CF Try.prog 63:=fun _ _=>by kernel_rfl
theorem cf_ref07_num:CF Try.prog 34:=fun _ _=>by kernel_rfl
theorem cf_ref07_nums:CF Try.prog 56:=fun _ _=>by kernel_rfl
theorem cf_ref07_pad:CF Try.prog 35:=fun _ _=>by kernel_rfl
theorem cf_ref07_read:CF Try.prog 45:=fun _ _=>by kernel_rfl
end Go.Proofs.Ytbijobepjjokmaa
