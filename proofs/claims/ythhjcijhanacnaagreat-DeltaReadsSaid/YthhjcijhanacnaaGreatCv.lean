/- Closed facts: updates. -/
import Derived.Test.YthhjcijhanacnaaGreatCt2
import Derived.Test.YthhjcijhanacnaaGreatD5
namespace Go.Proofs.YthhjcijhanacnaaGreat
open Go Go.RowKit
set_option linter.unusedVariables false
set_option linter.unusedSimpArgs false
theorem in_delta_update:(Tryz.prog.info? 54).map (fun i=>(i.zero,i.size,i.bytes))=some (some (.agg #[.int .i64 0,.slice none 0 0,.slice none 0 0,.int .i64 0,.int .i64 0,str []]),6,88):=by kernel_rfl
theorem zero_delta_update:Zero Tryz.prog 54 (.agg #[.int .i64 0,.slice none 0 0,.slice none 0 0,.int .i64 0,.int .i64 0,str []]):=zero_of in_delta_update
theorem sz_delta_update:Sz Tryz.prog 54 6:=sz_of in_delta_update
theorem agg_delta_update:Agg Tryz.prog 54 6:=⟨⟨_,Tryz.underlying54,trivial⟩,sz_delta_update⟩
theorem un_s_delta_need : Tryz.prog.underlying 84=some (.slice 85):=Tryz.underlying84
theorem in_delta_need:(Tryz.prog.info? 85).map (fun i=>(i.zero,i.size,i.bytes))=some (some (.nilFunc),1,8):=by kernel_rfl
theorem sz_delta_need:Sz Tryz.prog 85 1:=sz_of in_delta_need
theorem one_delta_need:One Tryz.prog 85:=⟨⟨_,Tryz.underlying85,trivial⟩,sz_delta_need⟩
theorem fld_delta_update_0:Fld Tryz.prog 54 0 0:=⟨_,Tryz.underlying54,_,rfl,rfl,fnz in_api_Arena (by decide)⟩
theorem fld_delta_update_1:Fld Tryz.prog 54 1 3:=⟨_,Tryz.underlying54,_,rfl,rfl,fnz in_int (by decide)⟩
theorem fld_delta_update_2:Fld Tryz.prog 54 2 4:=⟨_,Tryz.underlying54,_,rfl,rfl,fnz in_int (by decide)⟩
theorem fld_delta_update_3:Fld Tryz.prog 54 3 5:=⟨_,Tryz.underlying54,_,rfl,rfl,fnz in_string (by decide)⟩
theorem slc_s_delta_need:Slc Tryz.prog 84 85 1 8 (.nilFunc):=⟨un_s_delta_need,info_parts' in_delta_need⟩
theorem bld_delta_update:Bld Tryz.prog 54 [(0,3),(3,1),(4,1),(5,1)] [.int .i64 0,.slice none 0 0,.slice none 0 0,.int .i64 0,.int .i64 0,str []]:=bld_struct zero_delta_update rfl Tryz.underlying54 (fun _=>by kernel_rfl)
theorem cf_delta_update_entry:CF Tryz.prog 42:=fun _ _=>by kernel_rfl
theorem cf_delta_update_later:CF Tryz.prog 32:=fun _ _=>by kernel_rfl
theorem cf_delta_update_may:CF Tryz.prog 30:=fun _ _=>by kernel_rfl
theorem cf_delta_update_old:CF Tryz.prog 37:=fun _ _=>by kernel_rfl
theorem cf_delta_update_room:CF Tryz.prog 31:=fun _ _=>by kernel_rfl
theorem cf_delta_Add:CF Tryz.prog 11:=fun _ _=>by kernel_rfl
theorem cf_delta_Add_1:CF Tryz.prog 40:=fun _ _=>by kernel_rfl
theorem cf_delta_Delete:CF Tryz.prog 9:=fun _ _=>by kernel_rfl
theorem cf_delta_Delete_1:CF Tryz.prog 36:=fun _ _=>by kernel_rfl
theorem cf_delta_Flags:CF Tryz.prog 20:=fun _ _=>by kernel_rfl
theorem cf_delta_Flags_1:CF Tryz.prog 52:=fun _ _=>by kernel_rfl
theorem cf_delta_Put:CF Tryz.prog 7:=fun _ _=>by kernel_rfl
theorem cf_delta_Put_1:CF Tryz.prog 27:=fun _ _=>by kernel_rfl
theorem cf_delta_Scan:CF Tryz.prog 23:=fun _ _=>by kernel_rfl
theorem cf_delta_Scan_1:CF Tryz.prog 55:=fun _ _=>by kernel_rfl
theorem cf_delta_Set:CF Tryz.prog 13:=fun _ _=>by kernel_rfl
theorem cf_delta_Sum:CF Tryz.prog 18:=fun _ _=>by kernel_rfl
theorem cf_delta_Sum_1:CF Tryz.prog 48:=fun _ _=>by kernel_rfl
theorem cf_delta_Text:CF Tryz.prog 16:=fun _ _=>by kernel_rfl
theorem cf_delta_Text_1:CF Tryz.prog 46:=fun _ _=>by kernel_rfl
theorem cf_delta_first:CF Tryz.prog 29:=fun _ _=>by kernel_rfl
theorem cf_delta_read_int:CF Tryz.prog 47:=fun _ _=>by kernel_rfl
theorem cf_delta_read_string:CF Tryz.prog 45:=fun _ _=>by kernel_rfl
theorem cf_delta_read_uint64:CF Tryz.prog 51:=fun _ _=>by kernel_rfl
theorem cf_delta_unless:CF Tryz.prog 28:=fun _ _=>by kernel_rfl
theorem cf_law09_works:CF Tryz.prog 5:=fun _ _=>by kernel_rfl
end Go.Proofs.YthhjcijhanacnaaGreat
