/- Closed facts: the references of updates. -/
import Derived.Test.YthhjcijhanacnaaGreatCv
namespace Go.Proofs.YthhjcijhanacnaaGreat
open Go Go.RowKit
set_option linter.unusedVariables false
set_option linter.unusedSimpArgs false
theorem fldv_api_Value_3:FldV Tryz.prog 30 3 4 3:=⟨_,Tryz.underlying30,_,rfl,rfl,rfl⟩
theorem cf_ref09_Add:CF Tryz.prog 12:=fun _ _=>by kernel_rfl
theorem cf_ref09_Delete:CF Tryz.prog 10:=fun _ _=>by kernel_rfl
theorem cf_ref09_Put:CF Tryz.prog 8:=fun _ _=>by kernel_rfl
theorem cf_ref09_Set:CF Tryz.prog 14:=fun _ _=>by kernel_rfl
theorem cf_ref09_can:CF Tryz.prog 33:=fun _ _=>by kernel_rfl
theorem cf_ref09_only:CF Tryz.prog 43:=fun _ _=>by kernel_rfl
theorem cf_ref09_reg:CF Tryz.prog 35:=fun _ _=>by kernel_rfl
theorem cf_ref09_room:CF Tryz.prog 34:=fun _ _=>by kernel_rfl
theorem cf_ref09_val:CF Tryz.prog 39:=fun _ _=>by kernel_rfl
end Go.Proofs.YthhjcijhanacnaaGreat
