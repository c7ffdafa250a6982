/- Closed facts: the laws of push. -/
import Derived.Test.YthfkbabgkacfnaaGreatCt5
namespace Go.Proofs.YthfkbabgkacfnaaGreat
open Go Go.RowKit
set_option linter.unusedVariables false
set_option linter.unusedSimpArgs false
theorem cf_law17_works:CF Tryz.prog 4:=fun _ _=>by kernel_rfl
theorem cf_push_Done:CF Tryz.prog 15:=fun _ _=>by kernel_rfl
theorem cf_push_Heard:CF Tryz.prog 11:=fun _ _=>by kernel_rfl
theorem cf_push_Send:CF Tryz.prog 8:=fun _ _=>by kernel_rfl
end Go.Proofs.YthfkbabgkacfnaaGreat
