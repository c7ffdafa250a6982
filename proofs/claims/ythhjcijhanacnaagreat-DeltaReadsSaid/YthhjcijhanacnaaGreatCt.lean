/- Closed facts. -/
import Derived.Test.YthhjcijhanacnaaGreatProg
import Derived.Test.YthhjcijhanacnaaGreatD
namespace Go.Proofs.YthhjcijhanacnaaGreat
open Go Go.RowKit
set_option linter.unusedVariables false
set_option linter.unusedSimpArgs false
theorem un_int : Tryz.prog.underlying 3=some (.int .i64):=Tryz.underlying3
theorem in_int:(Tryz.prog.info? 3).map (fun i=>(i.zero,i.size,i.bytes))=some (some (.int .i64 0),1,8):=by kernel_rfl
theorem zero_int:Zero Tryz.prog 3 (.int .i64 0):=zero_of in_int
theorem sz_int:Sz Tryz.prog 3 1:=sz_of in_int
theorem one_int:One Tryz.prog 3:=⟨⟨_,Tryz.underlying3,trivial⟩,sz_int⟩
theorem un_bool : Tryz.prog.underlying 4=some (.bool):=Tryz.underlying4
theorem in_bool:(Tryz.prog.info? 4).map (fun i=>(i.zero,i.size,i.bytes))=some (some (.bool false),1,1):=by kernel_rfl
theorem sz_bool:Sz Tryz.prog 4 1:=sz_of in_bool
theorem one_bool:One Tryz.prog 4:=⟨⟨_,Tryz.underlying4,trivial⟩,sz_bool⟩
theorem un_string : Tryz.prog.underlying 9=some (.string):=Tryz.underlying9
theorem in_string:(Tryz.prog.info? 9).map (fun i=>(i.zero,i.size,i.bytes))=some (some (str []),1,16):=by kernel_rfl
theorem sz_string:Sz Tryz.prog 9 1:=sz_of in_string
theorem one_string:One Tryz.prog 9:=⟨⟨_,Tryz.underlying9,trivial⟩,sz_string⟩
theorem un_s_int : Tryz.prog.underlying 23=some (.slice 3):=Tryz.underlying23
theorem in_s_int:(Tryz.prog.info? 23).map (fun i=>(i.zero,i.size,i.bytes))=some (some (.slice none 0 0),1,24):=by kernel_rfl
theorem sz_s_int:Sz Tryz.prog 23 1:=sz_of in_s_int
theorem one_s_int:One Tryz.prog 23:=⟨⟨_,Tryz.underlying23,trivial⟩,sz_s_int⟩
theorem un_uint64 : Tryz.prog.underlying 26=some (.int .u64):=Tryz.underlying26
theorem in_uint64:(Tryz.prog.info? 26).map (fun i=>(i.zero,i.size,i.bytes))=some (some (.int .u64 0),1,8):=by kernel_rfl
theorem sz_uint64:Sz Tryz.prog 26 1:=sz_of in_uint64
theorem one_uint64:One Tryz.prog 26:=⟨⟨_,Tryz.underlying26,trivial⟩,sz_uint64⟩
theorem in_api_Value:(Tryz.prog.info? 30).map (fun i=>(i.zero,i.size,i.bytes))=some (some (.agg #[.int .i64 0,.int .i64 0,.int .i64 0,.bool false,str [],.slice none 0 0,.slice none 0 0,.int .u64 0]),8,104):=by kernel_rfl
theorem zero_api_Value:Zero Tryz.prog 30 (.agg #[.int .i64 0,.int .i64 0,.int .i64 0,.bool false,str [],.slice none 0 0,.slice none 0 0,.int .u64 0]):=zero_of in_api_Value
theorem sz_api_Value:Sz Tryz.prog 30 8:=sz_of in_api_Value
theorem agg_api_Value:Agg Tryz.prog 30 8:=⟨⟨_,Tryz.underlying30,trivial⟩,sz_api_Value⟩
theorem in_value_register:(Tryz.prog.info? 104).map (fun i=>(i.zero,i.size,i.bytes))=some (some (.agg #[]),0,0):=by kernel_rfl
theorem zero_value_register:Zero Tryz.prog 104 (.agg #[]):=zero_of in_value_register
theorem in_value_counter:(Tryz.prog.info? 105).map (fun i=>(i.zero,i.size,i.bytes))=some (some (.agg #[]),0,0):=by kernel_rfl
theorem zero_value_counter:Zero Tryz.prog 105 (.agg #[]):=zero_of in_value_counter
theorem in_value_flags:(Tryz.prog.info? 106).map (fun i=>(i.zero,i.size,i.bytes))=some (some (.agg #[]),0,0):=by kernel_rfl
theorem zero_value_flags:Zero Tryz.prog 106 (.agg #[]):=zero_of in_value_flags
theorem fld_api_Value_0:Fld Tryz.prog 30 0 0:=⟨_,Tryz.underlying30,_,rfl,rfl,fnz in_int (by decide)⟩
theorem fld_api_Value_1:Fld Tryz.prog 30 1 1:=⟨_,Tryz.underlying30,_,rfl,rfl,fnz in_int (by decide)⟩
theorem fld_api_Value_2:Fld Tryz.prog 30 2 2:=⟨_,Tryz.underlying30,_,rfl,rfl,fnz in_int (by decide)⟩
theorem fld_api_Value_3:Fld Tryz.prog 30 3 3:=⟨_,Tryz.underlying30,_,rfl,rfl,fnz in_bool (by decide)⟩
theorem fld_api_Value_4:Fld Tryz.prog 30 4 4:=⟨_,Tryz.underlying30,_,rfl,rfl,fnz in_string (by decide)⟩
theorem fld_api_Value_5:Fld Tryz.prog 30 5 5:=⟨_,Tryz.underlying30,_,rfl,rfl,fnz in_s_int (by decide)⟩
theorem fld_api_Value_6:Fld Tryz.prog 30 6 6:=⟨_,Tryz.underlying30,_,rfl,rfl,fnz in_s_int (by decide)⟩
theorem fld_api_Value_7:Fld Tryz.prog 30 7 7:=⟨_,Tryz.underlying30,_,rfl,rfl,fnz in_uint64 (by decide)⟩
theorem slc_s_int:Slc Tryz.prog 23 3 1 8 (.int .i64 0):=⟨un_s_int,info_parts' in_int⟩
theorem bld_api_Value:Bld Tryz.prog 30 [(0,1),(1,1),(2,1),(3,1),(4,1),(5,1),(6,1),(7,1)] [.int .i64 0,.int .i64 0,.int .i64 0,.bool false,str [],.slice none 0 0,.slice none 0 0,.int .u64 0]:=bld_struct zero_api_Value rfl Tryz.underlying30 (fun _=>by kernel_rfl)
theorem bld_value_register:Bld Tryz.prog 104 [] []:=bld_struct zero_value_register rfl Tryz.underlying104 (fun _=>by kernel_rfl)
theorem bld_value_counter:Bld Tryz.prog 105 [] []:=bld_struct zero_value_counter rfl Tryz.underlying105 (fun _=>by kernel_rfl)
theorem bld_value_flags:Bld Tryz.prog 106 [] []:=bld_struct zero_value_flags rfl Tryz.underlying106 (fun _=>by kernel_rfl)
theorem conc_value_register : Tryz.prog.concrete 104=true:=by kernel_rfl
theorem conc_value_counter : Tryz.prog.concrete 105=true:=by kernel_rfl
theorem conc_value_flags : Tryz.prog.concrete 106=true:=by kernel_rfl
theorem mf_value_register_ouroboros_value_is:MF Tryz.prog 104 "ouroboros/value.is" 114:=fun _ _ _=>by kernel_rfl
theorem mf_value_register_ouroboros_value_join : MF Tryz.prog 104 "ouroboros/value.join" 115 := fun _ _ _ => by kernel_rfl -- beside 84
theorem mf_value_register_ouroboros_value_least : MF Tryz.prog 104 "ouroboros/value.least" 116 := fun _ _ _ => by kernel_rfl -- beside 41
theorem mf_value_counter_ouroboros_value_is:MF Tryz.prog 105 "ouroboros/value.is" 125:=fun _ _ _=>by kernel_rfl
theorem mf_value_counter_ouroboros_value_join : MF Tryz.prog 105 "ouroboros/value.join" 126 := fun _ _ _ => by kernel_rfl -- beside 84
theorem mf_value_counter_ouroboros_value_least : MF Tryz.prog 105 "ouroboros/value.least" 127 := fun _ _ _ => by kernel_rfl -- beside 41
theorem mf_value_flags_ouroboros_value_is:MF Tryz.prog 106 "ouroboros/value.is" 133:=fun _ _ _=>by kernel_rfl
theorem mf_value_flags_ouroboros_value_join : MF Tryz.prog 106 "ouroboros/value.join" 134 := fun _ _ _ => by kernel_rfl -- beside 84
theorem mf_value_flags_ouroboros_value_least : MF Tryz.prog 106 "ouroboros/value.least" 135 := fun _ _ _ => by kernel_rfl -- beside 41
theorem cf_value_counter_is_1:CF Tryz.prog 128:=fun _ _=>by kernel_rfl
theorem cf_value_counter_is_2:CF Tryz.prog 129:=fun _ _=>by kernel_rfl
theorem cf_value_counter_join_1:CF Tryz.prog 131:=fun _ _=>by kernel_rfl
theorem cf_value_flags_is_1:CF Tryz.prog 136:=fun _ _=>by kernel_rfl
theorem cf_value_register_is_1:CF Tryz.prog 118:=fun _ _=>by kernel_rfl
theorem cf_cmp_Compare_int:CF Tryz.prog 120:=fun _ _=>by kernel_rfl
theorem cf_cmp_Compare_string:CF Tryz.prog 122:=fun _ _=>by kernel_rfl
theorem cf_cmp_isNaN_int:CF Tryz.prog 123:=fun _ _=>by kernel_rfl
theorem cf_cmp_isNaN_string:CF Tryz.prog 124:=fun _ _=>by kernel_rfl
theorem cf_law06_Few:CF Tryz.prog 73:=fun _ _=>by kernel_rfl
theorem cf_ref01_Ints:CF Tryz.prog 64:=fun _ _=>by kernel_rfl
theorem cf_ref06_Check:CF Tryz.prog 66:=fun _ _=>by kernel_rfl
theorem cf_ref06_Least:CF Tryz.prog 62:=fun _ _=>by kernel_rfl
theorem cf_ref06_Same:CF Tryz.prog 44:=fun _ _=>by kernel_rfl
theorem cf_ref06_Sum:CF Tryz.prog 50:=fun _ _=>by kernel_rfl
theorem cf_ref06_counts:CF Tryz.prog 82:=fun _ _=>by kernel_rfl
theorem cf_ref06_noCount:CF Tryz.prog 81:=fun _ _=>by kernel_rfl
theorem cf_ref06_noReg:CF Tryz.prog 83:=fun _ _=>by kernel_rfl
theorem cf_value_Check:CF Tryz.prog 65:=fun _ _=>by kernel_rfl
theorem cf_value_Join:CF Tryz.prog 84:=fun _ _=>by kernel_rfl
theorem cf_value_Least:CF Tryz.prog 41:=fun _ _=>by kernel_rfl
theorem cf_value_Same:CF Tryz.prog 87:=fun _ _=>by kernel_rfl
theorem cf_value_Sum:CF Tryz.prog 49:=fun _ _=>by kernel_rfl
theorem cf_value_bit:CF Tryz.prog 121:=fun _ _=>by kernel_rfl
theorem cf_value_first:CF Tryz.prog 119:=fun _ _=>by kernel_rfl
theorem cf_value_kinds:CF Tryz.prog 63:=fun _ _=>by kernel_rfl
theorem cf_value_only:CF Tryz.prog 117:=fun _ _=>by kernel_rfl
theorem cf_slices_Clone_int:CF Tryz.prog 92:=fun _ _=>by kernel_rfl
theorem cf_slices_ContainsFunc_int:CF Tryz.prog 130:=fun _ _=>by kernel_rfl
theorem cf_slices_Equal_int:CF Tryz.prog 77:=fun _ _=>by kernel_rfl
theorem cf_slices_IndexFunc_int:CF Tryz.prog 132:=fun _ _=>by kernel_rfl
end Go.Proofs.YthhjcijhanacnaaGreat
