/- Closed facts: updates. -/
import Derived.Test.YthhjcijhanacnaaCt2
import Derived.Test.YthhjcijhanacnaaD5
namespace Go.Proofs.Ythhjcijhanacnaa
open Go Go.RowKit
set_option linter.unusedVariables false
set_option linter.unusedSimpArgs false
theorem in_delta_update:(Try.prog.info? 58).map (fun i=>(i.zero,i.size,i.bytes))=some (some (.agg #[.int .i64 0,.slice none 0 0,.slice none 0 0,.int .i64 0,.int .i64 0,str []]),6,88):=by kernel_rfl
theorem zero_delta_update:Zero Try.prog 58 (.agg #[.int .i64 0,.slice none 0 0,.slice none 0 0,.int .i64 0,.int .i64 0,str []]):=zero_of in_delta_update
theorem sz_delta_update:Sz Try.prog 58 6:=sz_of in_delta_update
theorem agg_delta_update:Agg Try.prog 58 6:=⟨⟨_,Try.underlying58,trivial⟩,sz_delta_update⟩
theorem un_s_delta_need : Try.prog.underlying 92=some (.slice 93):=Try.underlying92
theorem in_delta_need:(Try.prog.info? 93).map (fun i=>(i.zero,i.size,i.bytes))=some (some (.nilFunc),1,8):=by kernel_rfl
theorem sz_delta_need:Sz Try.prog 93 1:=sz_of in_delta_need
theorem one_delta_need:One Try.prog 93:=⟨⟨_,Try.underlying93,trivial⟩,sz_delta_need⟩
theorem fld_delta_update_0:Fld Try.prog 58 0 0:=⟨_,Try.underlying58,_,rfl,rfl,fnz in_api_Arena (by decide)⟩
theorem fld_delta_update_1:Fld Try.prog 58 1 3:=⟨_,Try.underlying58,_,rfl,rfl,fnz in_int (by decide)⟩
theorem fld_delta_update_2:Fld Try.prog 58 2 4:=⟨_,Try.underlying58,_,rfl,rfl,fnz in_int (by decide)⟩
theorem fld_delta_update_3:Fld Try.prog 58 3 5:=⟨_,Try.underlying58,_,rfl,rfl,fnz in_string (by decide)⟩
theorem slc_s_delta_need:Slc Try.prog 92 93 1 8 (.nilFunc):=⟨un_s_delta_need,info_parts' in_delta_need⟩
theorem bld_delta_update:Bld Try.prog 58 [(0,3),(3,1),(4,1),(5,1)] [.int .i64 0,.slice none 0 0,.slice none 0 0,.int .i64 0,.int .i64 0,str []]:=bld_struct zero_delta_update rfl Try.underlying58 (fun _=>by kernel_rfl)
theorem cf_delta_update_entry:CF Try.prog 36:=fun _ _=>by kernel_rfl
theorem cf_delta_update_later:CF Try.prog 28:=fun _ _=>by kernel_rfl
theorem cf_delta_update_may:CF Try.prog 26:=fun _ _=>by kernel_rfl
theorem cf_delta_update_old:CF Try.prog 33:=fun _ _=>by kernel_rfl
theorem cf_delta_update_room:CF Try.prog 27:=fun _ _=>by kernel_rfl
theorem cf_delta_Add:CF Try.prog 13:=fun _ _=>by kernel_rfl
theorem cf_delta_Add_1:CF Try.prog 34:=fun _ _=>by kernel_rfl
theorem cf_delta_Delete:CF Try.prog 12:=fun _ _=>by kernel_rfl
theorem cf_delta_Delete_1:CF Try.prog 32:=fun _ _=>by kernel_rfl
theorem cf_delta_Flags:CF Try.prog 16:=fun _ _=>by kernel_rfl
theorem cf_delta_Flags_1:CF Try.prog 41:=fun _ _=>by kernel_rfl
theorem cf_delta_Put:CF Try.prog 9:=fun _ _=>by kernel_rfl
theorem cf_delta_Put_1:CF Try.prog 23:=fun _ _=>by kernel_rfl
theorem cf_delta_Scan:CF Try.prog 19:=fun _ _=>by kernel_rfl
theorem cf_delta_Scan_1:CF Try.prog 51:=fun _ _=>by kernel_rfl
theorem cf_delta_Set:CF Try.prog 15:=fun _ _=>by kernel_rfl
theorem cf_delta_Sum:CF Try.prog 14:=fun _ _=>by kernel_rfl
theorem cf_delta_Sum_1:CF Try.prog 38:=fun _ _=>by kernel_rfl
theorem cf_delta_Text:CF Try.prog 11:=fun _ _=>by kernel_rfl
theorem cf_delta_Text_1:CF Try.prog 31:=fun _ _=>by kernel_rfl
theorem cf_delta_first:CF Try.prog 25:=fun _ _=>by kernel_rfl
theorem cf_delta_read_int:CF Try.prog 37:=fun _ _=>by kernel_rfl
theorem cf_delta_read_string:CF Try.prog 30:=fun _ _=>by kernel_rfl
theorem cf_delta_read_uint64:CF Try.prog 40:=fun _ _=>by kernel_rfl
theorem cf_delta_unless:CF Try.prog 24:=fun _ _=>by kernel_rfl
theorem cf_law09_works:CF Try.prog 7:=fun _ _=>by kernel_rfl
end Go.Proofs.Ythhjcijhanacnaa
