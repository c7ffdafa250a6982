/- Closed facts: the laws of buffers. -/
import Derived.Test.YthfkbabgkacfnaaCt3
namespace Go.Proofs.Ythfkbabgkacfnaa
open Go Go.RowKit
set_option linter.unusedVariables false
set_option linter.unusedSimpArgs false
theorem un_s_uint8 : Try.prog.underlying 104=some (.slice 5):=Try.underlying104
theorem in_s_uint8:(Try.prog.info? 104).map (fun i=>(i.zero,i.size,i.bytes))=some (some (.slice none 0 0),1,24):=by kernel_rfl
theorem zero_s_uint8:Zero Try.prog 104 (.slice none 0 0):=zero_of in_s_uint8
theorem sz_s_uint8:Sz Try.prog 104 1:=sz_of in_s_uint8
theorem one_s_uint8:One Try.prog 104:=⟨⟨_,Try.underlying104,trivial⟩,sz_s_uint8⟩
theorem slc_s_uint8:Slc Try.prog 104 5 1 1 (.int .u8 0):=⟨un_s_uint8,info_parts' in_uint8⟩
theorem cf_buffer_Ack:CF Try.prog 35:=fun _ _=>by kernel_rfl
theorem cf_buffer_Note:CF Try.prog 17:=fun _ _=>by kernel_rfl
theorem cf_buffer_Some:CF Try.prog 29:=fun _ _=>by kernel_rfl
theorem cf_law16_Few:CF Try.prog 9:=fun _ _=>by kernel_rfl
end Go.Proofs.Ythfkbabgkacfnaa
