/- Closed facts: entries and arenas. -/
import Derived.Test.YthhjcijhanacnaaGreatCt
import Derived.Test.YthhjcijhanacnaaGreatD2
namespace Go.Proofs.YthhjcijhanacnaaGreat
open Go Go.RowKit
set_option linter.unusedVariables false
set_option linter.unusedSimpArgs false
theorem un_s_api_Entry : Tryz.prog.underlying 22=some (.slice 32):=Tryz.underlying22
theorem in_s_api_Entry:(Tryz.prog.info? 22).map (fun i=>(i.zero,i.size,i.bytes))=some (some (.slice none 0 0),1,24):=by kernel_rfl
theorem sz_s_api_Entry:Sz Tryz.prog 22 1:=sz_of in_s_api_Entry
theorem one_s_api_Entry:One Tryz.prog 22:=⟨⟨_,Tryz.underlying22,trivial⟩,sz_s_api_Entry⟩
theorem in_api_Arena:(Tryz.prog.info? 25).map (fun i=>(i.zero,i.size,i.bytes))=some (some (.agg #[.int .i64 0,.slice none 0 0,.slice none 0 0]),3,56):=by kernel_rfl
theorem zero_api_Arena:Zero Tryz.prog 25 (.agg #[.int .i64 0,.slice none 0 0,.slice none 0 0]):=zero_of in_api_Arena
theorem sz_api_Arena:Sz Tryz.prog 25 3:=sz_of in_api_Arena
theorem agg_api_Arena:Agg Tryz.prog 25 3:=⟨⟨_,Tryz.underlying25,trivial⟩,sz_api_Arena⟩
theorem in_api_Entry:(Tryz.prog.info? 32).map (fun i=>(i.zero,i.size,i.bytes))=some (some (.agg #[str [],.int .i64 0,.int .i64 0,.int .i64 0,.bool false,str [],.slice none 0 0,.slice none 0 0,.int .u64 0]),9,120):=by kernel_rfl
theorem zero_api_Entry:Zero Tryz.prog 32 (.agg #[str [],.int .i64 0,.int .i64 0,.int .i64 0,.bool false,str [],.slice none 0 0,.slice none 0 0,.int .u64 0]):=zero_of in_api_Entry
theorem sz_api_Entry:Sz Tryz.prog 32 9:=sz_of in_api_Entry
theorem agg_api_Entry:Agg Tryz.prog 32 9:=⟨⟨_,Tryz.underlying32,trivial⟩,sz_api_Entry⟩
theorem in_arena_changing:(Tryz.prog.info? 82).map (fun i=>(i.zero,i.size,i.bytes))=some (some (.agg #[.int .i64 0,.slice none 0 0,.slice none 0 0,.bool false]),4,64):=by kernel_rfl
theorem zero_arena_changing:Zero Tryz.prog 82 (.agg #[.int .i64 0,.slice none 0 0,.slice none 0 0,.bool false]):=zero_of in_arena_changing
theorem fld_api_Arena_0:Fld Tryz.prog 25 0 0:=⟨_,Tryz.underlying25,_,rfl,rfl,fnz in_int (by decide)⟩
theorem fld_api_Arena_1:Fld Tryz.prog 25 1 1:=⟨_,Tryz.underlying25,_,rfl,rfl,fnz in_s_api_Entry (by decide)⟩
theorem fld_api_Arena_2:Fld Tryz.prog 25 2 2:=⟨_,Tryz.underlying25,_,rfl,rfl,fnz in_s_int (by decide)⟩
theorem fld_api_Entry_0:Fld Tryz.prog 32 0 0:=⟨_,Tryz.underlying32,_,rfl,rfl,fnz in_string (by decide)⟩
theorem fld_api_Entry_1:Fld Tryz.prog 32 1 1:=⟨_,Tryz.underlying32,_,rfl,rfl,fnz in_api_Value (by decide)⟩
theorem fld_arena_changing_0:Fld Tryz.prog 82 0 0:=⟨_,Tryz.underlying82,_,rfl,rfl,fnz in_api_Arena (by decide)⟩
theorem fld_arena_changing_1:Fld Tryz.prog 82 1 3:=⟨_,Tryz.underlying82,_,rfl,rfl,fnz in_bool (by decide)⟩
theorem slc_s_api_Entry:Slc Tryz.prog 22 32 9 120 (.agg #[str [],.int .i64 0,.int .i64 0,.int .i64 0,.bool false,str [],.slice none 0 0,.slice none 0 0,.int .u64 0]):=⟨un_s_api_Entry,info_parts' in_api_Entry⟩
theorem bld_api_Arena:Bld Tryz.prog 25 [(0,1),(1,1),(2,1)] [.int .i64 0,.slice none 0 0,.slice none 0 0]:=bld_struct zero_api_Arena rfl Tryz.underlying25 (fun _=>by kernel_rfl)
theorem bld_api_Entry:Bld Tryz.prog 32 [(0,1),(1,8)] [str [],.int .i64 0,.int .i64 0,.int .i64 0,.bool false,str [],.slice none 0 0,.slice none 0 0,.int .u64 0]:=bld_struct zero_api_Entry rfl Tryz.underlying32 (fun _=>by kernel_rfl)
theorem bld_arena_changing:Bld Tryz.prog 82 [(0,3),(3,1)] [.int .i64 0,.slice none 0 0,.slice none 0 0,.bool false]:=bld_struct zero_arena_changing rfl Tryz.underlying82 (fun _=>by kernel_rfl)
theorem cf_arena_changing_put:CF Tryz.prog 57:=fun _ _=>by kernel_rfl
theorem cf_arena_All:CF Tryz.prog 54:=fun _ _=>by kernel_rfl
theorem cf_arena_Check:CF Tryz.prog 59:=fun _ _=>by kernel_rfl
theorem cf_arena_Check_1:CF Tryz.prog 74:=fun _ _=>by kernel_rfl
theorem cf_arena_Find:CF Tryz.prog 61:=fun _ _=>by kernel_rfl
theorem cf_arena_Join:CF Tryz.prog 25:=fun _ _=>by kernel_rfl
theorem cf_arena_each:CF Tryz.prog 80:=fun _ _=>by kernel_rfl
theorem cf_arena_each_1:CF Tryz.prog 91:=fun _ _=>by kernel_rfl
theorem cf_arena_index:CF Tryz.prog 71:=fun _ _=>by kernel_rfl
theorem cf_arena_index_1:CF Tryz.prog 86:=fun _ _=>by kernel_rfl
theorem cf_entry_Check:CF Tryz.prog 68:=fun _ _=>by kernel_rfl
theorem cf_entry_Join:CF Tryz.prog 70:=fun _ _=>by kernel_rfl
theorem cf_entry_Less:CF Tryz.prog 76:=fun _ _=>by kernel_rfl
theorem cf_entry_Same:CF Tryz.prog 72:=fun _ _=>by kernel_rfl
theorem cf_law07_Few:CF Tryz.prog 58:=fun _ _=>by kernel_rfl
theorem cf_law08_Entries:CF Tryz.prog 26:=fun _ _=>by kernel_rfl
theorem cf_law08_Few:CF Tryz.prog 6:=fun _ _=>by kernel_rfl
theorem cf_ref07_All:CF Tryz.prog 22:=fun _ _=>by kernel_rfl
theorem cf_ref07_Check:CF Tryz.prog 88:=fun _ _=>by kernel_rfl
theorem cf_ref07_Less:CF Tryz.prog 90:=fun _ _=>by kernel_rfl
theorem cf_ref07_Name:CF Tryz.prog 89:=fun _ _=>by kernel_rfl
theorem cf_ref07_Same:CF Tryz.prog 15:=fun _ _=>by kernel_rfl
theorem cf_ref08_All:CF Tryz.prog 56:=fun _ _=>by kernel_rfl
theorem cf_ref08_Check:CF Tryz.prog 60:=fun _ _=>by kernel_rfl
theorem cf_ref08_Find:CF Tryz.prog 38:=fun _ _=>by kernel_rfl
theorem cf_ref08_index:CF Tryz.prog 79:=fun _ _=>by kernel_rfl
theorem cf_ref08_slots:CF Tryz.prog 78:=fun _ _=>by kernel_rfl
theorem cf_slices_Clone_Entry:CF Tryz.prog 69:=fun _ _=>by kernel_rfl
theorem cf_slices_ContainsFunc_Entry:CF Tryz.prog 75:=fun _ _=>by kernel_rfl
theorem cf_slices_IndexFunc_Entry:CF Tryz.prog 67:=fun _ _=>by kernel_rfl
theorem cf_slices_SortStableFunc_int:CF Tryz.prog 85:=fun _ _=>by kernel_rfl
theorem cf_slices_insertionSortCmpFunc_int:CF Tryz.prog 94:=fun _ _=>by kernel_rfl
theorem cf_slices_stableCmpFunc_int:CF Tryz.prog 93:=fun _ _=>by kernel_rfl
end Go.Proofs.YthhjcijhanacnaaGreat
