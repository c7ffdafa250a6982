/- Closed facts: frames as bytes. -/
import Derived.Test.YtdfjbkoimpjkaaaGreatBl
import Derived.Test.YtdfjbkoimpjkaaaGreatMm
import Derived.Test.YtdfjbkoimpjkaaaGreatQn
import Derived.Test.YtdfjbkoimpjkaaaGreatHk
namespace Go.Proofs.YtdfjbkoimpjkaaaGreat
open Go Go.RowKit
set_option linter.unusedVariables false
set_option linter.unusedSimpArgs false
theorem cf_crc_Seal:CF Tryz.prog 62:=fun _ _=>by kernel_rfl
theorem cf_frame_Get:CF Tryz.prog 18:=fun _ _=>by kernel_rfl
theorem cf_frame_Put:CF Tryz.prog 13:=fun _ _=>by kernel_rfl
theorem cf_frame_number:CF Tryz.prog 25:=fun _ _=>by kernel_rfl
theorem cf_frame_seal:CF Tryz.prog 27:=fun _ _=>by kernel_rfl
theorem cf_law14_works:CF Tryz.prog 9:=fun _ _=>by kernel_rfl
theorem cf_ref02_Seal:CF Tryz.prog 30:=fun _ _=>by kernel_rfl
theorem cf_ref14_Put:CF Tryz.prog 14:=fun _ _=>by kernel_rfl
theorem cf_ref14_num:CF Tryz.prog 28:=fun _ _=>by kernel_rfl
theorem cf_strings_Join:CF Tryz.prog 63:=fun _ _=>by kernel_rfl
end Go.Proofs.YtdfjbkoimpjkaaaGreat
