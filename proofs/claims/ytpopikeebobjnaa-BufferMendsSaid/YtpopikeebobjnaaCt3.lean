/- Closed facts: buffers. -/
import Derived.Test.YtpopikeebobjnaaCt2
import Derived.Test.YtpopikeebobjnaaD3
namespace Go.Proofs.Ytpopikeebobjnaa
open Go Go.RowKit
set_option linter.unusedVariables false
set_option linter.unusedSimpArgs false
theorem un_s_buffer_Name : Try.prog.underlying 22=some (.slice 62):=Try.underlying22
theorem in_s_buffer_Name:(Try.prog.info? 22).map (fun i=>(i.zero,i.size,i.bytes))=some (some (.slice none 0 0),1,24):=by kernel_rfl
theorem sz_s_buffer_Name:Sz Try.prog 22 1:=sz_of in_s_buffer_Name
theorem one_s_buffer_Name:One Try.prog 22:=⟨⟨_,Try.underlying22,trivial⟩,sz_s_buffer_Name⟩
theorem in_buffer_Buffer:(Try.prog.info? 24).map (fun i=>(i.zero,i.size,i.bytes))=some (some (.agg #[.int .i64 0,.int .i64 0,.slice none 0 0]),3,40):=by kernel_rfl
theorem zero_buffer_Buffer:Zero Try.prog 24 (.agg #[.int .i64 0,.int .i64 0,.slice none 0 0]):=zero_of in_buffer_Buffer
theorem sz_buffer_Buffer:Sz Try.prog 24 3:=sz_of in_buffer_Buffer
theorem agg_buffer_Buffer:Agg Try.prog 24 3:=⟨⟨_,Try.underlying24,trivial⟩,sz_buffer_Buffer⟩
theorem in_buffer_Name:(Try.prog.info? 62).map (fun i=>(i.zero,i.size,i.bytes))=some (some (.agg #[.int .i64 0,str []]),2,24):=by kernel_rfl
theorem zero_buffer_Name:Zero Try.prog 62 (.agg #[.int .i64 0,str []]):=zero_of in_buffer_Name
theorem sz_buffer_Name:Sz Try.prog 62 2:=sz_of in_buffer_Name
theorem agg_buffer_Name:Agg Try.prog 62 2:=⟨⟨_,Try.underlying62,trivial⟩,sz_buffer_Name⟩
theorem fld_buffer_Buffer_0:Fld Try.prog 24 0 0:=⟨_,Try.underlying24,_,rfl,rfl,fnz in_int (by decide)⟩
theorem fld_buffer_Buffer_1:Fld Try.prog 24 1 1:=⟨_,Try.underlying24,_,rfl,rfl,fnz in_int (by decide)⟩
theorem fld_buffer_Buffer_2:Fld Try.prog 24 2 2:=⟨_,Try.underlying24,_,rfl,rfl,fnz in_s_buffer_Name (by decide)⟩
theorem fld_buffer_Name_0:Fld Try.prog 62 0 0:=⟨_,Try.underlying62,_,rfl,rfl,fnz in_int (by decide)⟩
theorem fld_buffer_Name_1:Fld Try.prog 62 1 1:=⟨_,Try.underlying62,_,rfl,rfl,fnz in_string (by decide)⟩
theorem slc_s_buffer_Name:Slc Try.prog 22 62 2 24 (.agg #[.int .i64 0,str []]):=⟨un_s_buffer_Name,info_parts' in_buffer_Name⟩
theorem bld_buffer_Buffer:Bld Try.prog 24 [(0,1),(1,1),(2,1)] [.int .i64 0,.int .i64 0,.slice none 0 0]:=bld_struct zero_buffer_Buffer rfl Try.underlying24 (fun _=>by kernel_rfl)
theorem bld_buffer_Name:Bld Try.prog 62 [(0,1),(1,1)] [.int .i64 0,str []]:=bld_struct zero_buffer_Name rfl Try.underlying62 (fun _=>by kernel_rfl)
theorem eqg_buffer_Name : Try.prog.eqGuardType Try.prog.depth 62=false:=by kernel_rfl
theorem eqs_buffer_Name (a0:Int) (a1:Str) (b0:Int) (b1:Str):EqR Try.prog 62 2 (.agg #[.int .i64 a0,str a1]) (.agg #[.int .i64 b0,str b1]) ((a0==b0)&&((a1==b1)&&true)):=eq_struct Try.underlying62 (by kernel_rfl) ⟨by decide,_,_,_,_,part1 one_int rfl,part1 one_int rfl,eq_int un_int,⟨by decide,_,_,_,_,part1 one_string rfl,part1 one_string rfl,eq_str un_string,rfl,rfl⟩,rfl⟩
theorem cf_buffer_Buffer_first:CF Try.prog 40:=fun _ _=>by kernel_rfl
theorem cf_buffer_Buffer_first_1:CF Try.prog 57:=fun _ _=>by kernel_rfl
theorem cf_buffer_Ack_1:CF Try.prog 39:=fun _ _=>by kernel_rfl
theorem cf_buffer_Check:CF Try.prog 27:=fun _ _=>by kernel_rfl
theorem cf_buffer_Check_1:CF Try.prog 41:=fun _ _=>by kernel_rfl
theorem cf_buffer_Check_2:CF Try.prog 42:=fun _ _=>by kernel_rfl
theorem cf_buffer_Mend:CF Try.prog 18:=fun _ _=>by kernel_rfl
theorem cf_buffer_Note_1:CF Try.prog 37:=fun _ _=>by kernel_rfl
theorem cf_buffer_Reset:CF Try.prog 16:=fun _ _=>by kernel_rfl
theorem cf_buffer_Same_1:CF Try.prog 44:=fun _ _=>by kernel_rfl
theorem cf_buffer_mended:CF Try.prog 36:=fun _ _=>by kernel_rfl
theorem cf_slices_Clone_Name:CF Try.prog 38:=fun _ _=>by kernel_rfl
theorem cf_slices_ContainsFunc_Name:CF Try.prog 43:=fun _ _=>by kernel_rfl
theorem cf_slices_EqualFunc_Name:CF Try.prog 45:=fun _ _=>by kernel_rfl
theorem cf_slices_IndexFunc_Name:CF Try.prog 58:=fun _ _=>by kernel_rfl
end Go.Proofs.Ytpopikeebobjnaa
