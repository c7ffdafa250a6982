/- Closed facts: the laws of push. -/
import Derived.Test.YthfkbabgkacfnaaCt5
namespace Go.Proofs.Ythfkbabgkacfnaa
open Go Go.RowKit
set_option linter.unusedVariables false
set_option linter.unusedSimpArgs false
theorem cf_frame_Same:CF Try.prog 20:=fun _ _=>by kernel_rfl
theorem cf_law17_works:CF Try.prog 8:=fun _ _=>by kernel_rfl
theorem cf_push_Done:CF Try.prog 16:=fun _ _=>by kernel_rfl
theorem cf_push_Heard:CF Try.prog 14:=fun _ _=>by kernel_rfl
theorem cf_push_Send:CF Try.prog 13:=fun _ _=>by kernel_rfl
end Go.Proofs.Ythfkbabgkacfnaa
