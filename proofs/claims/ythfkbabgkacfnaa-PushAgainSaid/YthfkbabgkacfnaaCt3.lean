/- Closed facts: buffers. -/
import Derived.Test.YthfkbabgkacfnaaCt2
import Derived.Test.YthfkbabgkacfnaaD3
namespace Go.Proofs.Ythfkbabgkacfnaa
open Go Go.RowKit
set_option linter.unusedVariables false
set_option linter.unusedSimpArgs false
theorem un_s_buffer_Name : Try.prog.underlying 22=some (.slice 50):=Try.underlying22
theorem in_s_buffer_Name:(Try.prog.info? 22).map (fun i=>(i.zero,i.size,i.bytes))=some (some (.slice none 0 0),1,24):=by kernel_rfl
theorem sz_s_buffer_Name:Sz Try.prog 22 1:=sz_of in_s_buffer_Name
theorem one_s_buffer_Name:One Try.prog 22:=⟨⟨_,Try.underlying22,trivial⟩,sz_s_buffer_Name⟩
theorem in_buffer_Buffer:(Try.prog.info? 24).map (fun i=>(i.zero,i.size,i.bytes))=some (some (.agg #[.int .i64 0,.int .i64 0,.slice none 0 0]),3,40):=by kernel_rfl
theorem zero_buffer_Buffer:Zero Try.prog 24 (.agg #[.int .i64 0,.int .i64 0,.slice none 0 0]):=zero_of in_buffer_Buffer
theorem sz_buffer_Buffer:Sz Try.prog 24 3:=sz_of in_buffer_Buffer
theorem agg_buffer_Buffer:Agg Try.prog 24 3:=⟨⟨_,Try.underlying24,trivial⟩,sz_buffer_Buffer⟩
theorem in_buffer_Name:(Try.prog.info? 50).map (fun i=>(i.zero,i.size,i.bytes))=some (some (.agg #[.int .i64 0,str []]),2,24):=by kernel_rfl
theorem zero_buffer_Name:Zero Try.prog 50 (.agg #[.int .i64 0,str []]):=zero_of in_buffer_Name
theorem sz_buffer_Name:Sz Try.prog 50 2:=sz_of in_buffer_Name
theorem agg_buffer_Name:Agg Try.prog 50 2:=⟨⟨_,Try.underlying50,trivial⟩,sz_buffer_Name⟩
theorem fld_buffer_Buffer_0:Fld Try.prog 24 0 0:=⟨_,Try.underlying24,_,rfl,rfl,fnz in_int (by decide)⟩
theorem fld_buffer_Buffer_1:Fld Try.prog 24 1 1:=⟨_,Try.underlying24,_,rfl,rfl,fnz in_int (by decide)⟩
theorem fld_buffer_Buffer_2:Fld Try.prog 24 2 2:=⟨_,Try.underlying24,_,rfl,rfl,fnz in_s_buffer_Name (by decide)⟩
theorem fld_buffer_Name_0:Fld Try.prog 50 0 0:=⟨_,Try.underlying50,_,rfl,rfl,fnz in_int (by decide)⟩
theorem fld_buffer_Name_1:Fld Try.prog 50 1 1:=⟨_,Try.underlying50,_,rfl,rfl,fnz in_string (by decide)⟩
theorem slc_s_buffer_Name:Slc Try.prog 22 50 2 24 (.agg #[.int .i64 0,str []]):=⟨un_s_buffer_Name,info_parts' in_buffer_Name⟩
theorem bld_buffer_Buffer:Bld Try.prog 24 [(0,1),(1,1),(2,1)] [.int .i64 0,.int .i64 0,.slice none 0 0]:=bld_struct zero_buffer_Buffer rfl Try.underlying24 (fun _=>by kernel_rfl)
theorem bld_buffer_Name:Bld Try.prog 50 [(0,1),(1,1)] [.int .i64 0,str []]:=bld_struct zero_buffer_Name rfl Try.underlying50 (fun _=>by kernel_rfl)
theorem cf_buffer_Buffer_first:CF Try.prog 52:=fun _ _=>by kernel_rfl
theorem cf_buffer_Buffer_first_1:CF Try.prog 61:=fun _ _=>by kernel_rfl
theorem cf_buffer_Ack_1:CF Try.prog 54:=fun _ _=>by kernel_rfl
theorem cf_buffer_Check:CF Try.prog 28:=fun _ _=>by kernel_rfl
theorem cf_buffer_Check_1:CF Try.prog 49:=fun _ _=>by kernel_rfl
theorem cf_buffer_Check_2:CF Try.prog 50:=fun _ _=>by kernel_rfl
theorem cf_buffer_Mend:CF Try.prog 12:=fun _ _=>by kernel_rfl
theorem cf_buffer_Note_1:CF Try.prog 37:=fun _ _=>by kernel_rfl
theorem cf_buffer_Reset:CF Try.prog 19:=fun _ _=>by kernel_rfl
theorem cf_buffer_mended:CF Try.prog 36:=fun _ _=>by kernel_rfl
theorem cf_slices_Clone_Name:CF Try.prog 39:=fun _ _=>by kernel_rfl
theorem cf_slices_ContainsFunc_Name:CF Try.prog 51:=fun _ _=>by kernel_rfl
theorem cf_slices_IndexFunc_Name:CF Try.prog 60:=fun _ _=>by kernel_rfl
end Go.Proofs.Ythfkbabgkacfnaa
