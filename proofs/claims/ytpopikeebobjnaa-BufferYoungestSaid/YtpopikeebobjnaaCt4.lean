/- Closed facts: the laws of buffers. -/
import Derived.Test.YtpopikeebobjnaaCt3
namespace Go.Proofs.Ytpopikeebobjnaa
open Go Go.RowKit
set_option linter.unusedVariables false
set_option linter.unusedSimpArgs false
theorem un_s_uint8 : Try.prog.underlying 67=some (.slice 5):=Try.underlying67
theorem fldv_buffer_Buffer_0:FldV Try.prog 24 0 3 0:=⟨_,Try.underlying24,_,rfl,rfl,rfl⟩
theorem fldv_buffer_Buffer_1:FldV Try.prog 24 1 3 1:=⟨_,Try.underlying24,_,rfl,rfl,rfl⟩
theorem slc_s_uint8:Slc Try.prog 67 5 1 1 (.int .u8 0):=⟨un_s_uint8,info_parts' in_uint8⟩
theorem cf_buffer_Ack:CF Try.prog 22:=fun _ _=>by kernel_rfl
theorem cf_buffer_Note:CF Try.prog 20:=fun _ _=>by kernel_rfl
theorem cf_buffer_Same:CF Try.prog 28:=fun _ _=>by kernel_rfl
theorem cf_buffer_Some:CF Try.prog 25:=fun _ _=>by kernel_rfl
theorem cf_law16_Few:CF Try.prog 10:=fun _ _=>by kernel_rfl
theorem cf_law16_Of:CF Try.prog 14:=fun _ _=>by kernel_rfl
theorem cf_law16_works:CF Try.prog 9:=fun _ _=>by kernel_rfl
theorem cf_ref16_Ack:CF Try.prog 23:=fun _ _=>by kernel_rfl
theorem cf_ref16_Note:CF Try.prog 21:=fun _ _=>by kernel_rfl
theorem cf_ref16_Same:CF Try.prog 15:=fun _ _=>by kernel_rfl
theorem cf_ref16_Some:CF Try.prog 26:=fun _ _=>by kernel_rfl
end Go.Proofs.Ytpopikeebobjnaa
