/- Closed facts: the laws of buffers. -/
import Derived.Test.YthfkbabgkacfnaaGreatCt3
namespace Go.Proofs.YthfkbabgkacfnaaGreat
open Go Go.RowKit
set_option linter.unusedVariables false
set_option linter.unusedSimpArgs false
theorem un_s_uint8 : Tryz.prog.underlying 111=some (.slice 5):=Tryz.underlying111
theorem in_s_uint8:(Tryz.prog.info? 111).map (fun i=>(i.zero,i.size,i.bytes))=some (some (.slice none 0 0),1,24):=by kernel_rfl
theorem zero_s_uint8:Zero Tryz.prog 111 (.slice none 0 0):=zero_of in_s_uint8
theorem sz_s_uint8:Sz Tryz.prog 111 1:=sz_of in_s_uint8
theorem one_s_uint8:One Tryz.prog 111:=⟨⟨_,Tryz.underlying111,trivial⟩,sz_s_uint8⟩
theorem slc_s_uint8:Slc Tryz.prog 111 5 1 1 (.int .u8 0):=⟨un_s_uint8,info_parts' in_uint8⟩
theorem cf_buffer_Ack:CF Tryz.prog 26:=fun _ _=>by kernel_rfl
theorem cf_buffer_Some:CF Tryz.prog 20:=fun _ _=>by kernel_rfl
theorem cf_law16_Few:CF Tryz.prog 5:=fun _ _=>by kernel_rfl
theorem cf_law16_Of:CF Tryz.prog 10:=fun _ _=>by kernel_rfl
theorem cf_ref16_Ack:CF Tryz.prog 27:=fun _ _=>by kernel_rfl
theorem cf_ref16_Same:CF Tryz.prog 14:=fun _ _=>by kernel_rfl
theorem cf_ref16_Some:CF Tryz.prog 22:=fun _ _=>by kernel_rfl
end Go.Proofs.YthfkbabgkacfnaaGreat
