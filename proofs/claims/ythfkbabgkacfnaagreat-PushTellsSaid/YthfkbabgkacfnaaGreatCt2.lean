/- Closed facts: entries and arenas. -/
import Derived.Test.YthfkbabgkacfnaaGreatCt
import Derived.Test.YthfkbabgkacfnaaGreatD2
namespace Go.Proofs.YthfkbabgkacfnaaGreat
open Go Go.RowKit
set_option linter.unusedVariables false
set_option linter.unusedSimpArgs false
theorem un_uint8 : Tryz.prog.underlying 5=some (.int .u8):=Tryz.underlying5
theorem in_uint8:(Tryz.prog.info? 5).map (fun i=>(i.zero,i.size,i.bytes))=some (some (.int .u8 0),1,1):=by kernel_rfl
theorem sz_uint8:Sz Tryz.prog 5 1:=sz_of in_uint8
theorem un_s_api_Entry : Tryz.prog.underlying 25=some (.slice 57):=Tryz.underlying25
theorem in_s_api_Entry:(Tryz.prog.info? 25).map (fun i=>(i.zero,i.size,i.bytes))=some (some (.slice none 0 0),1,24):=by kernel_rfl
theorem zero_s_api_Entry:Zero Tryz.prog 25 (.slice none 0 0):=zero_of in_s_api_Entry
theorem sz_s_api_Entry:Sz Tryz.prog 25 1:=sz_of in_s_api_Entry
theorem one_s_api_Entry:One Tryz.prog 25:=⟨⟨_,Tryz.underlying25,trivial⟩,sz_s_api_Entry⟩
theorem in_api_Arena:(Tryz.prog.info? 28).map (fun i=>(i.zero,i.size,i.bytes))=some (some (.agg #[.int .i64 0,.slice none 0 0,.slice none 0 0]),3,56):=by kernel_rfl
theorem zero_api_Arena:Zero Tryz.prog 28 (.agg #[.int .i64 0,.slice none 0 0,.slice none 0 0]):=zero_of in_api_Arena
theorem sz_api_Arena:Sz Tryz.prog 28 3:=sz_of in_api_Arena
theorem agg_api_Arena:Agg Tryz.prog 28 3:=⟨⟨_,Tryz.underlying28,trivial⟩,sz_api_Arena⟩
theorem in_api_Errno:(Tryz.prog.info? 75).map (fun i=>(i.zero,i.size,i.bytes))=some (some (.int .i64 0),1,8):=by kernel_rfl
theorem zero_api_Errno:Zero Tryz.prog 75 (.int .i64 0):=zero_of in_api_Errno
theorem sz_api_Errno:Sz Tryz.prog 75 1:=sz_of in_api_Errno
theorem one_api_Errno:One Tryz.prog 75:=⟨⟨_,Tryz.underlying75,trivial⟩,sz_api_Errno⟩
theorem in_api_Entry:(Tryz.prog.info? 57).map (fun i=>(i.zero,i.size,i.bytes))=some (some (.agg #[str [],.int .i64 0,.int .i64 0,.int .i64 0,.bool false,str [],.slice none 0 0,.slice none 0 0,.int .u64 0]),9,120):=by kernel_rfl
theorem zero_api_Entry:Zero Tryz.prog 57 (.agg #[str [],.int .i64 0,.int .i64 0,.int .i64 0,.bool false,str [],.slice none 0 0,.slice none 0 0,.int .u64 0]):=zero_of in_api_Entry
theorem sz_api_Entry:Sz Tryz.prog 57 9:=sz_of in_api_Entry
theorem agg_api_Entry:Agg Tryz.prog 57 9:=⟨⟨_,Tryz.underlying57,trivial⟩,sz_api_Entry⟩
theorem fld_api_Arena_0:Fld Tryz.prog 28 0 0:=⟨_,Tryz.underlying28,_,rfl,rfl,fnz in_int (by decide)⟩
theorem fld_api_Arena_1:Fld Tryz.prog 28 1 1:=⟨_,Tryz.underlying28,_,rfl,rfl,fnz in_s_api_Entry (by decide)⟩
theorem fld_api_Arena_2:Fld Tryz.prog 28 2 2:=⟨_,Tryz.underlying28,_,rfl,rfl,fnz in_s_int (by decide)⟩
theorem fld_api_Entry_0:Fld Tryz.prog 57 0 0:=⟨_,Tryz.underlying57,_,rfl,rfl,fnz in_string (by decide)⟩
theorem fld_api_Entry_1:Fld Tryz.prog 57 1 1:=⟨_,Tryz.underlying57,_,rfl,rfl,fnz in_api_Value (by decide)⟩
theorem slc_s_api_Entry:Slc Tryz.prog 25 57 9 120 (.agg #[str [],.int .i64 0,.int .i64 0,.int .i64 0,.bool false,str [],.slice none 0 0,.slice none 0 0,.int .u64 0]):=⟨un_s_api_Entry,info_parts' in_api_Entry⟩
theorem bld_api_Arena:Bld Tryz.prog 28 [(0,1),(1,1),(2,1)] [.int .i64 0,.slice none 0 0,.slice none 0 0]:=bld_struct zero_api_Arena rfl Tryz.underlying28 (fun _=>by kernel_rfl)
theorem bld_api_Entry:Bld Tryz.prog 57 [(0,1),(1,8)] [str [],.int .i64 0,.int .i64 0,.int .i64 0,.bool false,str [],.slice none 0 0,.slice none 0 0,.int .u64 0]:=bld_struct zero_api_Entry rfl Tryz.underlying57 (fun _=>by kernel_rfl)
theorem cf_arena_Check:CF Tryz.prog 46:=fun _ _=>by kernel_rfl
theorem cf_arena_Check_1:CF Tryz.prog 59:=fun _ _=>by kernel_rfl
theorem cf_arena_Find:CF Tryz.prog 33:=fun _ _=>by kernel_rfl
theorem cf_arena_each:CF Tryz.prog 49:=fun _ _=>by kernel_rfl
theorem cf_arena_each_1:CF Tryz.prog 64:=fun _ _=>by kernel_rfl
theorem cf_arena_index:CF Tryz.prog 60:=fun _ _=>by kernel_rfl
theorem cf_arena_index_1:CF Tryz.prog 73:=fun _ _=>by kernel_rfl
theorem cf_entry_Check:CF Tryz.prog 54:=fun _ _=>by kernel_rfl
theorem cf_entry_Less:CF Tryz.prog 61:=fun _ _=>by kernel_rfl
theorem cf_law07_Few:CF Tryz.prog 18:=fun _ _=>by kernel_rfl
theorem cf_law08_Entries:CF Tryz.prog 7:=fun _ _=>by kernel_rfl
theorem cf_law08_Few:CF Tryz.prog 6:=fun _ _=>by kernel_rfl
theorem cf_ref07_All:CF Tryz.prog 28:=fun _ _=>by kernel_rfl
theorem cf_ref07_Check:CF Tryz.prog 57:=fun _ _=>by kernel_rfl
theorem cf_ref07_Less:CF Tryz.prog 75:=fun _ _=>by kernel_rfl
theorem cf_ref07_Name:CF Tryz.prog 74:=fun _ _=>by kernel_rfl
theorem cf_ref07_Same:CF Tryz.prog 43:=fun _ _=>by kernel_rfl
theorem cf_ref08_Check:CF Tryz.prog 50:=fun _ _=>by kernel_rfl
theorem cf_ref08_Find:CF Tryz.prog 36:=fun _ _=>by kernel_rfl
theorem cf_ref08_index:CF Tryz.prog 67:=fun _ _=>by kernel_rfl
theorem cf_ref08_slots:CF Tryz.prog 65:=fun _ _=>by kernel_rfl
theorem cf_slices_ContainsFunc_Entry:CF Tryz.prog 55:=fun _ _=>by kernel_rfl
theorem cf_slices_IndexFunc_Entry:CF Tryz.prog 70:=fun _ _=>by kernel_rfl
theorem cf_slices_SortStableFunc_int:CF Tryz.prog 72:=fun _ _=>by kernel_rfl
theorem cf_slices_insertionSortCmpFunc_int:CF Tryz.prog 83:=fun _ _=>by kernel_rfl
theorem cf_slices_stableCmpFunc_int:CF Tryz.prog 81:=fun _ _=>by kernel_rfl
end Go.Proofs.YthfkbabgkacfnaaGreat
