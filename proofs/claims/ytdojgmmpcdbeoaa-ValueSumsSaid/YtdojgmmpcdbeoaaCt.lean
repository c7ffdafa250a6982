/- Closed facts. -/
import Derived.Test.YtdojgmmpcdbeoaaProg
import Derived.Test.YtdojgmmpcdbeoaaD
namespace Go.Proofs.Ytdojgmmpcdbeoaa
open Go Go.RowKit
set_option linter.unusedVariables false
set_option linter.unusedSimpArgs false
theorem un_int : Try.prog.underlying 3=some (.int .i64):=Try.underlying3
theorem in_int:(Try.prog.info? 3).map (fun i=>(i.zero,i.size,i.bytes))=some (some (.int .i64 0),1,8):=by kernel_rfl
theorem sz_int:Sz Try.prog 3 1:=sz_of in_int
theorem one_int:One Try.prog 3:=⟨⟨_,Try.underlying3,trivial⟩,sz_int⟩
theorem un_bool : Try.prog.underlying 4=some (.bool):=Try.underlying4
theorem in_bool:(Try.prog.info? 4).map (fun i=>(i.zero,i.size,i.bytes))=some (some (.bool false),1,1):=by kernel_rfl
theorem sz_bool:Sz Try.prog 4 1:=sz_of in_bool
theorem one_bool:One Try.prog 4:=⟨⟨_,Try.underlying4,trivial⟩,sz_bool⟩
theorem un_string : Try.prog.underlying 9=some (.string):=Try.underlying9
theorem in_string:(Try.prog.info? 9).map (fun i=>(i.zero,i.size,i.bytes))=some (some (str []),1,16):=by kernel_rfl
theorem sz_string:Sz Try.prog 9 1:=sz_of in_string
theorem one_string:One Try.prog 9:=⟨⟨_,Try.underlying9,trivial⟩,sz_string⟩
theorem un_s_int : Try.prog.underlying 22=some (.slice 3):=Try.underlying22
theorem in_s_int:(Try.prog.info? 22).map (fun i=>(i.zero,i.size,i.bytes))=some (some (.slice none 0 0),1,24):=by kernel_rfl
theorem sz_s_int:Sz Try.prog 22 1:=sz_of in_s_int
theorem one_s_int:One Try.prog 22:=⟨⟨_,Try.underlying22,trivial⟩,sz_s_int⟩
theorem in_uint64:(Try.prog.info? 23).map (fun i=>(i.zero,i.size,i.bytes))=some (some (.int .u64 0),1,8):=by kernel_rfl
theorem sz_uint64:Sz Try.prog 23 1:=sz_of in_uint64
theorem one_uint64:One Try.prog 23:=⟨⟨_,Try.underlying23,trivial⟩,sz_uint64⟩
theorem in_api_Value:(Try.prog.info? 25).map (fun i=>(i.zero,i.size,i.bytes))=some (some (.agg #[.int .i64 0,.int .i64 0,.int .i64 0,.bool false,str [],.slice none 0 0,.slice none 0 0,.int .u64 0]),8,104):=by kernel_rfl
theorem zero_api_Value:Zero Try.prog 25 (.agg #[.int .i64 0,.int .i64 0,.int .i64 0,.bool false,str [],.slice none 0 0,.slice none 0 0,.int .u64 0]):=zero_of in_api_Value
theorem sz_api_Value:Sz Try.prog 25 8:=sz_of in_api_Value
theorem agg_api_Value:Agg Try.prog 25 8:=⟨⟨_,Try.underlying25,trivial⟩,sz_api_Value⟩
theorem in_value_register:(Try.prog.info? 53).map (fun i=>(i.zero,i.size,i.bytes))=some (some (.agg #[]),0,0):=by kernel_rfl
theorem zero_value_register:Zero Try.prog 53 (.agg #[]):=zero_of in_value_register
theorem in_value_counter:(Try.prog.info? 54).map (fun i=>(i.zero,i.size,i.bytes))=some (some (.agg #[]),0,0):=by kernel_rfl
theorem zero_value_counter:Zero Try.prog 54 (.agg #[]):=zero_of in_value_counter
theorem in_value_flags:(Try.prog.info? 55).map (fun i=>(i.zero,i.size,i.bytes))=some (some (.agg #[]),0,0):=by kernel_rfl
theorem zero_value_flags:Zero Try.prog 55 (.agg #[]):=zero_of in_value_flags
theorem fld_api_Value_0:Fld Try.prog 25 0 0:=⟨_,Try.underlying25,_,rfl,rfl,fnz in_int (by decide)⟩
theorem fld_api_Value_1:Fld Try.prog 25 1 1:=⟨_,Try.underlying25,_,rfl,rfl,fnz in_int (by decide)⟩
theorem fld_api_Value_2:Fld Try.prog 25 2 2:=⟨_,Try.underlying25,_,rfl,rfl,fnz in_int (by decide)⟩
theorem fld_api_Value_3:Fld Try.prog 25 3 3:=⟨_,Try.underlying25,_,rfl,rfl,fnz in_bool (by decide)⟩
theorem fld_api_Value_4:Fld Try.prog 25 4 4:=⟨_,Try.underlying25,_,rfl,rfl,fnz in_string (by decide)⟩
theorem fld_api_Value_5:Fld Try.prog 25 5 5:=⟨_,Try.underlying25,_,rfl,rfl,fnz in_s_int (by decide)⟩
theorem fld_api_Value_6:Fld Try.prog 25 6 6:=⟨_,Try.underlying25,_,rfl,rfl,fnz in_s_int (by decide)⟩
theorem fld_api_Value_7:Fld Try.prog 25 7 7:=⟨_,Try.underlying25,_,rfl,rfl,fnz in_uint64 (by decide)⟩
theorem slc_s_int:Slc Try.prog 22 3 1 8 (.int .i64 0):=⟨un_s_int,info_parts' in_int⟩
theorem bld_api_Value:Bld Try.prog 25 [(0,1),(1,1),(2,1),(3,1),(4,1),(5,1),(6,1),(7,1)] [.int .i64 0,.int .i64 0,.int .i64 0,.bool false,str [],.slice none 0 0,.slice none 0 0,.int .u64 0]:=bld_struct zero_api_Value rfl Try.underlying25 (fun _=>by kernel_rfl)
theorem bld_value_register:Bld Try.prog 53 [] []:=bld_struct zero_value_register rfl Try.underlying53 (fun _=>by kernel_rfl)
theorem bld_value_counter:Bld Try.prog 54 [] []:=bld_struct zero_value_counter rfl Try.underlying54 (fun _=>by kernel_rfl)
theorem bld_value_flags:Bld Try.prog 55 [] []:=bld_struct zero_value_flags rfl Try.underlying55 (fun _=>by kernel_rfl)
theorem conc_value_register : Try.prog.concrete 53=true:=by kernel_rfl
theorem conc_value_counter : Try.prog.concrete 54=true:=by kernel_rfl
theorem conc_value_flags : Try.prog.concrete 55=true:=by kernel_rfl
theorem mf_value_register_ouroboros_value_is:MF Try.prog 53 "ouroboros/value.is" 49:=fun _ _ _=>by kernel_rfl
theorem mf_value_register_ouroboros_value_join : MF Try.prog 53 "ouroboros/value.join" 50 := fun _ _ _ => by kernel_rfl -- beside 13
theorem mf_value_register_ouroboros_value_least : MF Try.prog 53 "ouroboros/value.least" 51 := fun _ _ _ => by kernel_rfl -- beside 15
theorem mf_value_counter_ouroboros_value_is:MF Try.prog 54 "ouroboros/value.is" 60:=fun _ _ _=>by kernel_rfl
theorem mf_value_counter_ouroboros_value_join : MF Try.prog 54 "ouroboros/value.join" 61 := fun _ _ _ => by kernel_rfl -- beside 13
theorem mf_value_counter_ouroboros_value_least : MF Try.prog 54 "ouroboros/value.least" 62 := fun _ _ _ => by kernel_rfl -- beside 15
theorem mf_value_flags_ouroboros_value_is:MF Try.prog 55 "ouroboros/value.is" 68:=fun _ _ _=>by kernel_rfl
theorem mf_value_flags_ouroboros_value_join : MF Try.prog 55 "ouroboros/value.join" 69 := fun _ _ _ => by kernel_rfl -- beside 13
theorem mf_value_flags_ouroboros_value_least : MF Try.prog 55 "ouroboros/value.least" 70 := fun _ _ _ => by kernel_rfl -- beside 15
theorem cf_value_counter_is_1:CF Try.prog 63:=fun _ _=>by kernel_rfl
theorem cf_value_counter_is_2:CF Try.prog 64:=fun _ _=>by kernel_rfl
theorem cf_value_counter_join_1:CF Try.prog 66:=fun _ _=>by kernel_rfl
theorem cf_value_flags_is_1:CF Try.prog 71:=fun _ _=>by kernel_rfl
theorem cf_value_register_is_1:CF Try.prog 53:=fun _ _=>by kernel_rfl
theorem cf_cmp_Compare_int:CF Try.prog 55:=fun _ _=>by kernel_rfl
theorem cf_cmp_Compare_string:CF Try.prog 57:=fun _ _=>by kernel_rfl
theorem cf_cmp_isNaN_int:CF Try.prog 58:=fun _ _=>by kernel_rfl
theorem cf_cmp_isNaN_string:CF Try.prog 59:=fun _ _=>by kernel_rfl
theorem cf_law06_works:CF Try.prog 10:=fun _ _=>by kernel_rfl
theorem cf_value_Below:CF Try.prog 21:=fun _ _=>by kernel_rfl
theorem cf_value_Check:CF Try.prog 20:=fun _ _=>by kernel_rfl
theorem cf_value_Join:CF Try.prog 13:=fun _ _=>by kernel_rfl
theorem cf_value_Least:CF Try.prog 15:=fun _ _=>by kernel_rfl
theorem cf_value_Same:CF Try.prog 22:=fun _ _=>by kernel_rfl
theorem cf_value_Sum:CF Try.prog 23:=fun _ _=>by kernel_rfl
theorem cf_value_bit:CF Try.prog 56:=fun _ _=>by kernel_rfl
theorem cf_value_first:CF Try.prog 54:=fun _ _=>by kernel_rfl
theorem cf_value_kinds:CF Try.prog 27:=fun _ _=>by kernel_rfl
theorem cf_value_only:CF Try.prog 52:=fun _ _=>by kernel_rfl
theorem cf_slices_Clone_int:CF Try.prog 28:=fun _ _=>by kernel_rfl
theorem cf_slices_ContainsFunc_int:CF Try.prog 65:=fun _ _=>by kernel_rfl
theorem cf_slices_Equal_int:CF Try.prog 32:=fun _ _=>by kernel_rfl
theorem cf_slices_IndexFunc_int:CF Try.prog 67:=fun _ _=>by kernel_rfl
end Go.Proofs.Ytdojgmmpcdbeoaa
