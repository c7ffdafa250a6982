/- Closed facts: entries and arenas. -/
import Derived.Test.YthifkdgljapmeaaCt
import Derived.Test.YthifkdgljapmeaaD2
namespace Go.Proofs.Ythifkdgljapmeaa
open Go Go.RowKit
set_option linter.unusedVariables false
set_option linter.unusedSimpArgs false
theorem un_uint8 : Try.prog.underlying 5=some (.int .u8):=Try.underlying5
theorem un_s_api_Entry : Try.prog.underlying 22=some (.slice 42):=Try.underlying22
theorem in_s_api_Entry:(Try.prog.info? 22).map (fun i=>(i.zero,i.size,i.bytes))=some (some (.slice none 0 0),1,24):=by kernel_rfl
theorem zero_s_api_Entry:Zero Try.prog 22 (.slice none 0 0):=zero_of in_s_api_Entry
theorem sz_s_api_Entry:Sz Try.prog 22 1:=sz_of in_s_api_Entry
theorem one_s_api_Entry:One Try.prog 22:=⟨⟨_,Try.underlying22,trivial⟩,sz_s_api_Entry⟩
theorem in_api_Arena:(Try.prog.info? 25).map (fun i=>(i.zero,i.size,i.bytes))=some (some (.agg #[.int .i64 0,.slice none 0 0,.slice none 0 0]),3,56):=by kernel_rfl
theorem zero_api_Arena:Zero Try.prog 25 (.agg #[.int .i64 0,.slice none 0 0,.slice none 0 0]):=zero_of in_api_Arena
theorem sz_api_Arena:Sz Try.prog 25 3:=sz_of in_api_Arena
theorem agg_api_Arena:Agg Try.prog 25 3:=⟨⟨_,Try.underlying25,trivial⟩,sz_api_Arena⟩
theorem in_api_Entry:(Try.prog.info? 42).map (fun i=>(i.zero,i.size,i.bytes))=some (some (.agg #[str [],.int .i64 0,.int .i64 0,.int .i64 0,.bool false,str [],.slice none 0 0,.slice none 0 0,.int .u64 0]),9,120):=by kernel_rfl
theorem zero_api_Entry:Zero Try.prog 42 (.agg #[str [],.int .i64 0,.int .i64 0,.int .i64 0,.bool false,str [],.slice none 0 0,.slice none 0 0,.int .u64 0]):=zero_of in_api_Entry
theorem sz_api_Entry:Sz Try.prog 42 9:=sz_of in_api_Entry
theorem agg_api_Entry:Agg Try.prog 42 9:=⟨⟨_,Try.underlying42,trivial⟩,sz_api_Entry⟩
theorem in_arena_changing:(Try.prog.info? 68).map (fun i=>(i.zero,i.size,i.bytes))=some (some (.agg #[.int .i64 0,.slice none 0 0,.slice none 0 0,.bool false]),4,64):=by kernel_rfl
theorem zero_arena_changing:Zero Try.prog 68 (.agg #[.int .i64 0,.slice none 0 0,.slice none 0 0,.bool false]):=zero_of in_arena_changing
theorem fld_api_Arena_0:Fld Try.prog 25 0 0:=⟨_,Try.underlying25,_,rfl,rfl,fnz in_int (by decide)⟩
theorem fld_api_Arena_1:Fld Try.prog 25 1 1:=⟨_,Try.underlying25,_,rfl,rfl,fnz in_s_api_Entry (by decide)⟩
theorem fld_api_Arena_2:Fld Try.prog 25 2 2:=⟨_,Try.underlying25,_,rfl,rfl,fnz in_s_int (by decide)⟩
theorem fld_api_Entry_0:Fld Try.prog 42 0 0:=⟨_,Try.underlying42,_,rfl,rfl,fnz in_string (by decide)⟩
theorem fld_api_Entry_1:Fld Try.prog 42 1 1:=⟨_,Try.underlying42,_,rfl,rfl,fnz in_api_Value (by decide)⟩
theorem fld_arena_changing_0:Fld Try.prog 68 0 0:=⟨_,Try.underlying68,_,rfl,rfl,fnz in_api_Arena (by decide)⟩
theorem fld_arena_changing_1:Fld Try.prog 68 1 3:=⟨_,Try.underlying68,_,rfl,rfl,fnz in_bool (by decide)⟩
theorem slc_s_api_Entry:Slc Try.prog 22 42 9 120 (.agg #[str [],.int .i64 0,.int .i64 0,.int .i64 0,.bool false,str [],.slice none 0 0,.slice none 0 0,.int .u64 0]):=⟨un_s_api_Entry,info_parts' in_api_Entry⟩
theorem bld_api_Arena:Bld Try.prog 25 [(0,1),(1,1),(2,1)] [.int .i64 0,.slice none 0 0,.slice none 0 0]:=bld_struct zero_api_Arena rfl Try.underlying25 (fun _=>by kernel_rfl)
theorem bld_api_Entry:Bld Try.prog 42 [(0,1),(1,8)] [str [],.int .i64 0,.int .i64 0,.int .i64 0,.bool false,str [],.slice none 0 0,.slice none 0 0,.int .u64 0]:=bld_struct zero_api_Entry rfl Try.underlying42 (fun _=>by kernel_rfl)
theorem bld_arena_changing:Bld Try.prog 68 [(0,3),(3,1)] [.int .i64 0,.slice none 0 0,.slice none 0 0,.bool false]:=bld_struct zero_arena_changing rfl Try.underlying68 (fun _=>by kernel_rfl)
theorem cf_arena_changing_put:CF Try.prog 51:=fun _ _=>by kernel_rfl
theorem cf_arena_Alike:CF Try.prog 27:=fun _ _=>by kernel_rfl
theorem cf_arena_All:CF Try.prog 17:=fun _ _=>by kernel_rfl
theorem cf_arena_Below:CF Try.prog 26:=fun _ _=>by kernel_rfl
theorem cf_arena_Check:CF Try.prog 24:=fun _ _=>by kernel_rfl
theorem cf_arena_Check_1:CF Try.prog 45:=fun _ _=>by kernel_rfl
theorem cf_arena_Chunk:CF Try.prog 19:=fun _ _=>by kernel_rfl
theorem cf_arena_Find:CF Try.prog 25:=fun _ _=>by kernel_rfl
theorem cf_arena_Join:CF Try.prog 31:=fun _ _=>by kernel_rfl
theorem cf_arena_Merge:CF Try.prog 33:=fun _ _=>by kernel_rfl
theorem cf_arena_New:CF Try.prog 12:=fun _ _=>by kernel_rfl
theorem cf_arena_Same:CF Try.prog 28:=fun _ _=>by kernel_rfl
theorem cf_arena_each:CF Try.prog 43:=fun _ _=>by kernel_rfl
theorem cf_arena_each_1:CF Try.prog 60:=fun _ _=>by kernel_rfl
theorem cf_arena_index:CF Try.prog 47:=fun _ _=>by kernel_rfl
theorem cf_arena_index_1:CF Try.prog 64:=fun _ _=>by kernel_rfl
theorem cf_entry_Check:CF Try.prog 38:=fun _ _=>by kernel_rfl
theorem cf_entry_Join:CF Try.prog 35:=fun _ _=>by kernel_rfl
theorem cf_entry_Less:CF Try.prog 37:=fun _ _=>by kernel_rfl
theorem cf_entry_Same:CF Try.prog 36:=fun _ _=>by kernel_rfl
theorem cf_law07_Few:CF Try.prog 29:=fun _ _=>by kernel_rfl
theorem cf_law08_Entries:CF Try.prog 30:=fun _ _=>by kernel_rfl
theorem cf_law08_Few:CF Try.prog 11:=fun _ _=>by kernel_rfl
theorem cf_law08_works:CF Try.prog 10:=fun _ _=>by kernel_rfl
theorem cf_ref07_All:CF Try.prog 16:=fun _ _=>by kernel_rfl
theorem cf_ref07_Same:CF Try.prog 42:=fun _ _=>by kernel_rfl
theorem cf_slices_Clone_Entry:CF Try.prog 65:=fun _ _=>by kernel_rfl
theorem cf_slices_ContainsFunc_Entry:CF Try.prog 46:=fun _ _=>by kernel_rfl
theorem cf_slices_EqualFunc_Entry:CF Try.prog 49:=fun _ _=>by kernel_rfl
theorem cf_slices_IndexFunc_Entry:CF Try.prog 62:=fun _ _=>by kernel_rfl
theorem cf_slices_SortStableFunc_int:CF Try.prog 63:=fun _ _=>by kernel_rfl
theorem cf_slices_insertionSortCmpFunc_int:CF Try.prog 76:=fun _ _=>by kernel_rfl
theorem cf_slices_stableCmpFunc_int:CF Try.prog 72:=fun _ _=>by kernel_rfl
end Go.Proofs.Ythifkdgljapmeaa
