/- Closed facts: entries and arenas. -/
import Derived.Test.YthfkbabgkacfnaaCt
import Derived.Test.YthfkbabgkacfnaaD2
namespace Go.Proofs.Ythfkbabgkacfnaa
open Go Go.RowKit
set_option linter.unusedVariables false
set_option linter.unusedSimpArgs false
theorem un_uint8 : Try.prog.underlying 5=some (.int .u8):=Try.underlying5
theorem in_uint8:(Try.prog.info? 5).map (fun i=>(i.zero,i.size,i.bytes))=some (some (.int .u8 0),1,1):=by kernel_rfl
theorem sz_uint8:Sz Try.prog 5 1:=sz_of in_uint8
theorem un_s_api_Entry : Try.prog.underlying 25=some (.slice 48):=Try.underlying25
theorem in_s_api_Entry:(Try.prog.info? 25).map (fun i=>(i.zero,i.size,i.bytes))=some (some (.slice none 0 0),1,24):=by kernel_rfl
theorem zero_s_api_Entry:Zero Try.prog 25 (.slice none 0 0):=zero_of in_s_api_Entry
theorem sz_s_api_Entry:Sz Try.prog 25 1:=sz_of in_s_api_Entry
theorem one_s_api_Entry:One Try.prog 25:=⟨⟨_,Try.underlying25,trivial⟩,sz_s_api_Entry⟩
theorem in_api_Arena:(Try.prog.info? 28).map (fun i=>(i.zero,i.size,i.bytes))=some (some (.agg #[.int .i64 0,.slice none 0 0,.slice none 0 0]),3,56):=by kernel_rfl
theorem zero_api_Arena:Zero Try.prog 28 (.agg #[.int .i64 0,.slice none 0 0,.slice none 0 0]):=zero_of in_api_Arena
theorem sz_api_Arena:Sz Try.prog 28 3:=sz_of in_api_Arena
theorem agg_api_Arena:Agg Try.prog 28 3:=⟨⟨_,Try.underlying28,trivial⟩,sz_api_Arena⟩
theorem in_api_Errno:(Try.prog.info? 32).map (fun i=>(i.zero,i.size,i.bytes))=some (some (.int .i64 0),1,8):=by kernel_rfl
theorem zero_api_Errno:Zero Try.prog 32 (.int .i64 0):=zero_of in_api_Errno
theorem sz_api_Errno:Sz Try.prog 32 1:=sz_of in_api_Errno
theorem one_api_Errno:One Try.prog 32:=⟨⟨_,Try.underlying32,trivial⟩,sz_api_Errno⟩
theorem in_api_Entry:(Try.prog.info? 48).map (fun i=>(i.zero,i.size,i.bytes))=some (some (.agg #[str [],.int .i64 0,.int .i64 0,.int .i64 0,.bool false,str [],.slice none 0 0,.slice none 0 0,.int .u64 0]),9,120):=by kernel_rfl
theorem zero_api_Entry:Zero Try.prog 48 (.agg #[str [],.int .i64 0,.int .i64 0,.int .i64 0,.bool false,str [],.slice none 0 0,.slice none 0 0,.int .u64 0]):=zero_of in_api_Entry
theorem sz_api_Entry:Sz Try.prog 48 9:=sz_of in_api_Entry
theorem agg_api_Entry:Agg Try.prog 48 9:=⟨⟨_,Try.underlying48,trivial⟩,sz_api_Entry⟩
theorem fld_api_Arena_0:Fld Try.prog 28 0 0:=⟨_,Try.underlying28,_,rfl,rfl,fnz in_int (by decide)⟩
theorem fld_api_Arena_1:Fld Try.prog 28 1 1:=⟨_,Try.underlying28,_,rfl,rfl,fnz in_s_api_Entry (by decide)⟩
theorem fld_api_Arena_2:Fld Try.prog 28 2 2:=⟨_,Try.underlying28,_,rfl,rfl,fnz in_s_int (by decide)⟩
theorem fld_api_Entry_0:Fld Try.prog 48 0 0:=⟨_,Try.underlying48,_,rfl,rfl,fnz in_string (by decide)⟩
theorem fld_api_Entry_1:Fld Try.prog 48 1 1:=⟨_,Try.underlying48,_,rfl,rfl,fnz in_api_Value (by decide)⟩
theorem slc_s_api_Entry:Slc Try.prog 25 48 9 120 (.agg #[str [],.int .i64 0,.int .i64 0,.int .i64 0,.bool false,str [],.slice none 0 0,.slice none 0 0,.int .u64 0]):=⟨un_s_api_Entry,info_parts' in_api_Entry⟩
theorem bld_api_Arena:Bld Try.prog 28 [(0,1),(1,1),(2,1)] [.int .i64 0,.slice none 0 0,.slice none 0 0]:=bld_struct zero_api_Arena rfl Try.underlying28 (fun _=>by kernel_rfl)
theorem bld_api_Entry:Bld Try.prog 48 [(0,1),(1,8)] [str [],.int .i64 0,.int .i64 0,.int .i64 0,.bool false,str [],.slice none 0 0,.slice none 0 0,.int .u64 0]:=bld_struct zero_api_Entry rfl Try.underlying48 (fun _=>by kernel_rfl)
theorem cf_arena_Check:CF Try.prog 11:=fun _ _=>by kernel_rfl
theorem cf_arena_Check_1:CF Try.prog 22:=fun _ _=>by kernel_rfl
theorem cf_arena_Find:CF Try.prog 38:=fun _ _=>by kernel_rfl
theorem cf_arena_each:CF Try.prog 55:=fun _ _=>by kernel_rfl
theorem cf_arena_each_1:CF Try.prog 63:=fun _ _=>by kernel_rfl
theorem cf_arena_index:CF Try.prog 25:=fun _ _=>by kernel_rfl
theorem cf_arena_index_1:CF Try.prog 48:=fun _ _=>by kernel_rfl
theorem cf_entry_Check:CF Try.prog 23:=fun _ _=>by kernel_rfl
theorem cf_entry_Less:CF Try.prog 26:=fun _ _=>by kernel_rfl
theorem cf_entry_Same:CF Try.prog 43:=fun _ _=>by kernel_rfl
theorem cf_law07_Few:CF Try.prog 44:=fun _ _=>by kernel_rfl
theorem cf_law08_Entries:CF Try.prog 21:=fun _ _=>by kernel_rfl
theorem cf_law08_Few:CF Try.prog 10:=fun _ _=>by kernel_rfl
theorem cf_slices_ContainsFunc_Entry:CF Try.prog 24:=fun _ _=>by kernel_rfl
theorem cf_slices_EqualFunc_Entry:CF Try.prog 42:=fun _ _=>by kernel_rfl
theorem cf_slices_IndexFunc_Entry:CF Try.prog 46:=fun _ _=>by kernel_rfl
theorem cf_slices_SortStableFunc_int:CF Try.prog 47:=fun _ _=>by kernel_rfl
theorem cf_slices_insertionSortCmpFunc_int:CF Try.prog 64:=fun _ _=>by kernel_rfl
theorem cf_slices_stableCmpFunc_int:CF Try.prog 59:=fun _ _=>by kernel_rfl
end Go.Proofs.Ythfkbabgkacfnaa
