/- Closed facts: frames. -/
import Derived.Test.YthfkbabgkacfnaaCt4
import Derived.Test.YthfkbabgkacfnaaD4
namespace Go.Proofs.Ythfkbabgkacfnaa
open Go Go.RowKit
set_option linter.unusedVariables false
set_option linter.unusedSimpArgs false
theorem un_4_int : Try.prog.underlying 35=some (.array 4 3):=Try.underlying35
theorem in_4_int:(Try.prog.info? 35).map (fun i=>(i.zero,i.size,i.bytes))=some (some (.agg #[.int .i64 0,.int .i64 0,.int .i64 0,.int .i64 0]),4,32):=by kernel_rfl
theorem zero_4_int:Zero Try.prog 35 (.agg #[.int .i64 0,.int .i64 0,.int .i64 0,.int .i64 0]):=zero_of in_4_int
theorem sz_4_int:Sz Try.prog 35 4:=sz_of in_4_int
theorem agg_4_int:Agg Try.prog 35 4:=⟨⟨_,Try.underlying35,trivial⟩,sz_4_int⟩
theorem in_frame_Frame:(Try.prog.info? 37).map (fun i=>(i.zero,i.size,i.bytes))=some (some (.agg #[.int .i64 0,.int .i64 0,.int .i64 0,.int .i64 0,.int .i64 0,.int .i64 0,.int .i64 0,.slice none 0 0]),8,80):=by kernel_rfl
theorem zero_frame_Frame:Zero Try.prog 37 (.agg #[.int .i64 0,.int .i64 0,.int .i64 0,.int .i64 0,.int .i64 0,.int .i64 0,.int .i64 0,.slice none 0 0]):=zero_of in_frame_Frame
theorem sz_frame_Frame:Sz Try.prog 37 8:=sz_of in_frame_Frame
theorem agg_frame_Frame:Agg Try.prog 37 8:=⟨⟨_,Try.underlying37,trivial⟩,sz_frame_Frame⟩
theorem in_push_letter:(Try.prog.info? 67).map (fun i=>(i.zero,i.size,i.bytes))=some (some (.agg #[.int .i64 0,.int .i64 0,.int .i64 0,.int .i64 0,.int .i64 0,.int .i64 0,.int .i64 0,.slice none 0 0]),8,80):=by kernel_rfl
theorem zero_push_letter:Zero Try.prog 67 (.agg #[.int .i64 0,.int .i64 0,.int .i64 0,.int .i64 0,.int .i64 0,.int .i64 0,.int .i64 0,.slice none 0 0]):=zero_of in_push_letter
theorem sz_push_letter:Sz Try.prog 67 8:=sz_of in_push_letter
theorem agg_push_letter:Agg Try.prog 67 8:=⟨⟨_,Try.underlying67,trivial⟩,sz_push_letter⟩
theorem in_frame_form:(Try.prog.info? 71).map (fun i=>(i.zero,i.size,i.bytes))=some (some (.agg #[.int .i64 0,.int .i64 0,.int .i64 0,.bool false,.bool false]),5,32):=by kernel_rfl
theorem zero_frame_form:Zero Try.prog 71 (.agg #[.int .i64 0,.int .i64 0,.int .i64 0,.bool false,.bool false]):=zero_of in_frame_form
theorem sz_frame_form:Sz Try.prog 71 5:=sz_of in_frame_form
theorem fld_frame_Frame_0:Fld Try.prog 37 0 0:=⟨_,Try.underlying37,_,rfl,rfl,fnz in_int (by decide)⟩
theorem fld_frame_Frame_1:Fld Try.prog 37 1 1:=⟨_,Try.underlying37,_,rfl,rfl,fnz in_int (by decide)⟩
theorem fld_frame_Frame_2:Fld Try.prog 37 2 2:=⟨_,Try.underlying37,_,rfl,rfl,fnz in_int (by decide)⟩
theorem fld_frame_Frame_3:Fld Try.prog 37 3 3:=⟨_,Try.underlying37,_,rfl,rfl,fnz in_4_int (by decide)⟩
theorem fld_frame_Frame_4:Fld Try.prog 37 4 7:=⟨_,Try.underlying37,_,rfl,rfl,fnz in_s_api_Entry (by decide)⟩
theorem fld_push_letter_0:Fld Try.prog 67 0 0:=⟨_,Try.underlying67,_,rfl,rfl,fnz in_frame_Frame (by decide)⟩
theorem fld_frame_form_0:Fld Try.prog 71 0 0:=⟨_,Try.underlying71,_,rfl,rfl,fnz in_int (by decide)⟩
theorem fld_frame_form_1:Fld Try.prog 71 1 1:=⟨_,Try.underlying71,_,rfl,rfl,fnz in_int (by decide)⟩
theorem fld_frame_form_2:Fld Try.prog 71 2 2:=⟨_,Try.underlying71,_,rfl,rfl,fnz in_int (by decide)⟩
theorem fld_frame_form_3:Fld Try.prog 71 3 3:=⟨_,Try.underlying71,_,rfl,rfl,fnz in_bool (by decide)⟩
theorem fld_frame_form_4:Fld Try.prog 71 4 4:=⟨_,Try.underlying71,_,rfl,rfl,fnz in_bool (by decide)⟩
theorem mp_map_int_frame_form:Mp Try.prog 73 3 71 .i64:=⟨Try.underlying73,un_int⟩
theorem bld_4_int:Bld Try.prog 35 [(0,1),(1,1),(2,1),(3,1)] [.int .i64 0,.int .i64 0,.int .i64 0,.int .i64 0]:=bld_array zero_4_int rfl un_4_int sz_int (by decide)
theorem bld_frame_Frame:Bld Try.prog 37 [(0,1),(1,1),(2,1),(3,4),(7,1)] [.int .i64 0,.int .i64 0,.int .i64 0,.int .i64 0,.int .i64 0,.int .i64 0,.int .i64 0,.slice none 0 0]:=bld_struct zero_frame_Frame rfl Try.underlying37 (fun _=>by kernel_rfl)
theorem bld_push_letter:Bld Try.prog 67 [(0,8)] [.int .i64 0,.int .i64 0,.int .i64 0,.int .i64 0,.int .i64 0,.int .i64 0,.int .i64 0,.slice none 0 0]:=bld_struct zero_push_letter rfl Try.underlying67 (fun _=>by kernel_rfl)
theorem bld_frame_form:Bld Try.prog 71 [(0,1),(1,1),(2,1),(3,1),(4,1)] [.int .i64 0,.int .i64 0,.int .i64 0,.bool false,.bool false]:=bld_struct zero_frame_form rfl Try.underlying71 (fun _=>by kernel_rfl)
theorem eqg_4_int : Try.prog.eqGuardType Try.prog.depth 35=false:=by kernel_rfl
theorem eqs_4_int (a0:Int) (a1:Int) (a2:Int) (a3:Int) (b0:Int) (b1:Int) (b2:Int) (b3:Int):EqR Try.prog 35 2 (.agg #[.int .i64 a0,.int .i64 a1,.int .i64 a2,.int .i64 a3]) (.agg #[.int .i64 b0,.int .i64 b1,.int .i64 b2,.int .i64 b3]) ((a0==b0)&&((a1==b1)&&((a2==b2)&&((a3==b3)&&true)))):=eq_array un_4_int sz_int ⟨_,_,_,_,part1 one_int rfl,part1 one_int rfl,eq_int un_int,⟨_,_,_,_,part1 one_int rfl,part1 one_int rfl,eq_int un_int,⟨_,_,_,_,part1 one_int rfl,part1 one_int rfl,eq_int un_int,⟨_,_,_,_,part1 one_int rfl,part1 one_int rfl,eq_int un_int,rfl,rfl⟩,rfl⟩,rfl⟩,rfl⟩
theorem cf_push_letter_is:CF Try.prog 31:=fun _ _=>by kernel_rfl
theorem cf_push_letter_upto:CF Try.prog 30:=fun _ _=>by kernel_rfl
theorem cf_digest_Put:CF Try.prog 33:=fun _ _=>by kernel_rfl
theorem cf_frame_Check:CF Try.prog 15:=fun _ _=>by kernel_rfl
theorem cf_frame_Check_1:CF Try.prog 34:=fun _ _=>by kernel_rfl
theorem cf_frame_forms:CF Try.prog 32:=fun _ _=>by kernel_rfl
theorem cf_octet_Put:CF Try.prog 53:=fun _ _=>by kernel_rfl
theorem cf_octet_parts:CF Try.prog 62:=fun _ _=>by kernel_rfl
theorem cf_octet_parts_1:CF Try.prog 66:=fun _ _=>by kernel_rfl
end Go.Proofs.Ythfkbabgkacfnaa
