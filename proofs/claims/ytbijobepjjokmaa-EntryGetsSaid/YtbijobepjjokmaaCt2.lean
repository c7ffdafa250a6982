/- Closed facts: entries and arenas. -/
import Derived.Test.YtbijobepjjokmaaCt
import Derived.Test.YtbijobepjjokmaaD2
namespace Go.Proofs.Ytbijobepjjokmaa
open Go Go.RowKit
set_option linter.unusedVariables false
set_option linter.unusedSimpArgs false
theorem un_uint8 : Try.prog.underlying 5=some (.int .u8):=Try.underlying5
theorem in_uint8:(Try.prog.info? 5).map (fun i=>(i.zero,i.size,i.bytes))=some (some (.int .u8 0),1,1):=by kernel_rfl
theorem sz_uint8:Sz Try.prog 5 1:=sz_of in_uint8
theorem in_api_Errno:(Try.prog.info? 30).map (fun i=>(i.zero,i.size,i.bytes))=some (some (.int .i64 0),1,8):=by kernel_rfl
theorem zero_api_Errno:Zero Try.prog 30 (.int .i64 0):=zero_of in_api_Errno
theorem sz_api_Errno:Sz Try.prog 30 1:=sz_of in_api_Errno
theorem one_api_Errno:One Try.prog 30:=⟨⟨_,Try.underlying30,trivial⟩,sz_api_Errno⟩
theorem in_api_Entry:(Try.prog.info? 27).map (fun i=>(i.zero,i.size,i.bytes))=some (some (.agg #[str [],.int .i64 0,.int .i64 0,.int .i64 0,.bool false,str [],.slice none 0 0,.slice none 0 0,.int .u64 0]),9,120):=by kernel_rfl
theorem zero_api_Entry:Zero Try.prog 27 (.agg #[str [],.int .i64 0,.int .i64 0,.int .i64 0,.bool false,str [],.slice none 0 0,.slice none 0 0,.int .u64 0]):=zero_of in_api_Entry
theorem sz_api_Entry:Sz Try.prog 27 9:=sz_of in_api_Entry
theorem agg_api_Entry:Agg Try.prog 27 9:=⟨⟨_,Try.underlying27,trivial⟩,sz_api_Entry⟩
theorem fld_api_Entry_0:Fld Try.prog 27 0 0:=⟨_,Try.underlying27,_,rfl,rfl,fnz in_string (by decide)⟩
theorem fld_api_Entry_1:Fld Try.prog 27 1 1:=⟨_,Try.underlying27,_,rfl,rfl,fnz in_api_Value (by decide)⟩
theorem bld_api_Entry:Bld Try.prog 27 [(0,1),(1,8)] [str [],.int .i64 0,.int .i64 0,.int .i64 0,.bool false,str [],.slice none 0 0,.slice none 0 0,.int .u64 0]:=bld_struct zero_api_Entry rfl Try.underlying27 (fun _=>by kernel_rfl)
theorem cf_entry_Check:CF Try.prog 18:=fun _ _=>by kernel_rfl
theorem cf_entry_Join:CF Try.prog 14:=fun _ _=>by kernel_rfl
theorem cf_entry_Less:CF Try.prog 19:=fun _ _=>by kernel_rfl
theorem cf_entry_Same:CF Try.prog 20:=fun _ _=>by kernel_rfl
theorem cf_law07_Few:CF Try.prog 10:=fun _ _=>by kernel_rfl
theorem cf_ref07_Check:CF Try.prog 11:=fun _ _=>by kernel_rfl
theorem cf_ref07_Same:CF Try.prog 16:=fun _ _=>by kernel_rfl
end Go.Proofs.Ytbijobepjjokmaa
