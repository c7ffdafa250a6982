/- Closed facts: the laws of buffers. -/
import Derived.Test.YtpopikeebobjnaaCt3
namespace Go.Proofs.Ytpopikeebobjnaa
open Go Go.RowKit
set_option linter.unusedVariables false
set_option linter.unusedSimpArgs false
theorem fldv_buffer_Buffer_0:FldV Try.prog 24 0 3 0:=⟨_,Try.underlying24,_,rfl,rfl,rfl⟩
theorem cf_buffer_Ack:CF Try.prog 22:=fun _ _=>by kernel_rfl
theorem cf_buffer_Note:CF Try.prog 20:=fun _ _=>by kernel_rfl
theorem cf_buffer_Same:CF Try.prog 28:=fun _ _=>by kernel_rfl
theorem cf_buffer_Some:CF Try.prog 25:=fun _ _=>by kernel_rfl
theorem cf_law16_Few:CF Try.prog 10:=fun _ _=>by kernel_rfl
theorem cf_law16_works:CF Try.prog 9:=fun _ _=>by kernel_rfl
end Go.Proofs.Ytpopikeebobjnaa
