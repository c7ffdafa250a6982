/- Closed facts: the laws of buffers. -/
import Derived.Test.YtbijobepjjokmaaCt2
import Derived.Test.YtbijobepjjokmaaD3
namespace Go.Proofs.Ytbijobepjjokmaa
open Go Go.RowKit
set_option linter.unusedVariables false
set_option linter.unusedSimpArgs false
theorem un_s_uint8 : Try.prog.underlying 44=some (.slice 5):=Try.underlying44
theorem in_s_uint8:(Try.prog.info? 44).map (fun i=>(i.zero,i.size,i.bytes))=some (some (.slice none 0 0),1,24):=by kernel_rfl
theorem zero_s_uint8:Zero Try.prog 44 (.slice none 0 0):=zero_of in_s_uint8
theorem sz_s_uint8:Sz Try.prog 44 1:=sz_of in_s_uint8
theorem one_s_uint8:One Try.prog 44:=⟨⟨_,Try.underlying44,trivial⟩,sz_s_uint8⟩
theorem slc_s_uint8:Slc Try.prog 44 5 1 1 (.int .u8 0):=⟨un_s_uint8,info_parts' in_uint8⟩
end Go.Proofs.Ytbijobepjjokmaa
