/- Closed facts: the references of updates. -/
import Derived.Test.YthhjcijhanacnaaGreatCv
namespace Go.Proofs.YthhjcijhanacnaaGreat
open Go Go.RowKit
set_option linter.unusedVariables false
set_option linter.unusedSimpArgs false
theorem fldv_api_Value_3:FldV Tryz.prog 30 3 4 3:=⟨_,Tryz.underlying30,_,rfl,rfl,rfl⟩
theorem fldv_api_Value_4:FldV Tryz.prog 30 4 9 4:=⟨_,Tryz.underlying30,_,rfl,rfl,rfl⟩
theorem fldv_api_Value_7:FldV Tryz.prog 30 7 26 7:=⟨_,Tryz.underlying30,_,rfl,rfl,rfl⟩
theorem cf_ref09_Flags:CF Tryz.prog 21:=fun _ _=>by kernel_rfl
theorem cf_ref09_Scan:CF Tryz.prog 24:=fun _ _=>by kernel_rfl
theorem cf_ref09_Sum:CF Tryz.prog 19:=fun _ _=>by kernel_rfl
theorem cf_ref09_Text:CF Tryz.prog 17:=fun _ _=>by kernel_rfl
theorem cf_ref09_val:CF Tryz.prog 39:=fun _ _=>by kernel_rfl
end Go.Proofs.YthhjcijhanacnaaGreat
