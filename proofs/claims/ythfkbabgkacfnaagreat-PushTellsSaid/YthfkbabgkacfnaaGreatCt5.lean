/- Closed facts: frames. -/
import Derived.Test.YthfkbabgkacfnaaGreatCt4
import Derived.Test.YthfkbabgkacfnaaGreatD4
namespace Go.Proofs.YthfkbabgkacfnaaGreat
open Go Go.RowKit
set_option linter.unusedVariables false
set_option linter.unusedSimpArgs false
theorem un_4_int : Tryz.prog.underlying 29=some (.array 4 3):=Tryz.underlying29
theorem in_4_int:(Tryz.prog.info? 29).map (fun i=>(i.zero,i.size,i.bytes))=some (some (.agg #[.int .i64 0,.int .i64 0,.int .i64 0,.int .i64 0]),4,32):=by kernel_rfl
theorem zero_4_int:Zero Tryz.prog 29 (.agg #[.int .i64 0,.int .i64 0,.int .i64 0,.int .i64 0]):=zero_of in_4_int
theorem sz_4_int:Sz Tryz.prog 29 4:=sz_of in_4_int
theorem agg_4_int:Agg Tryz.prog 29 4:=⟨⟨_,Tryz.underlying29,trivial⟩,sz_4_int⟩
theorem in_frame_Frame:(Tryz.prog.info? 31).map (fun i=>(i.zero,i.size,i.bytes))=some (some (.agg #[.int .i64 0,.int .i64 0,.int .i64 0,.int .i64 0,.int .i64 0,.int .i64 0,.int .i64 0,.slice none 0 0]),8,80):=by kernel_rfl
theorem zero_frame_Frame:Zero Tryz.prog 31 (.agg #[.int .i64 0,.int .i64 0,.int .i64 0,.int .i64 0,.int .i64 0,.int .i64 0,.int .i64 0,.slice none 0 0]):=zero_of in_frame_Frame
theorem sz_frame_Frame:Sz Tryz.prog 31 8:=sz_of in_frame_Frame
theorem agg_frame_Frame:Agg Tryz.prog 31 8:=⟨⟨_,Tryz.underlying31,trivial⟩,sz_frame_Frame⟩
theorem in_push_letter:(Tryz.prog.info? 67).map (fun i=>(i.zero,i.size,i.bytes))=some (some (.agg #[.int .i64 0,.int .i64 0,.int .i64 0,.int .i64 0,.int .i64 0,.int .i64 0,.int .i64 0,.slice none 0 0]),8,80):=by kernel_rfl
theorem zero_push_letter:Zero Tryz.prog 67 (.agg #[.int .i64 0,.int .i64 0,.int .i64 0,.int .i64 0,.int .i64 0,.int .i64 0,.int .i64 0,.slice none 0 0]):=zero_of in_push_letter
theorem sz_push_letter:Sz Tryz.prog 67 8:=sz_of in_push_letter
theorem agg_push_letter:Agg Tryz.prog 67 8:=⟨⟨_,Tryz.underlying67,trivial⟩,sz_push_letter⟩
theorem in_frame_form:(Tryz.prog.info? 97).map (fun i=>(i.zero,i.size,i.bytes))=some (some (.agg #[.int .i64 0,.int .i64 0,.int .i64 0,.bool false,.bool false]),5,32):=by kernel_rfl
theorem zero_frame_form:Zero Tryz.prog 97 (.agg #[.int .i64 0,.int .i64 0,.int .i64 0,.bool false,.bool false]):=zero_of in_frame_form
theorem sz_frame_form:Sz Tryz.prog 97 5:=sz_of in_frame_form
theorem fld_frame_Frame_0:Fld Tryz.prog 31 0 0:=⟨_,Tryz.underlying31,_,rfl,rfl,fnz in_int (by decide)⟩
theorem fld_frame_Frame_1:Fld Tryz.prog 31 1 1:=⟨_,Tryz.underlying31,_,rfl,rfl,fnz in_int (by decide)⟩
theorem fld_frame_Frame_2:Fld Tryz.prog 31 2 2:=⟨_,Tryz.underlying31,_,rfl,rfl,fnz in_int (by decide)⟩
theorem fld_frame_Frame_3:Fld Tryz.prog 31 3 3:=⟨_,Tryz.underlying31,_,rfl,rfl,fnz in_4_int (by decide)⟩
theorem fld_frame_Frame_4:Fld Tryz.prog 31 4 7:=⟨_,Tryz.underlying31,_,rfl,rfl,fnz in_s_api_Entry (by decide)⟩
theorem fld_push_letter_0:Fld Tryz.prog 67 0 0:=⟨_,Tryz.underlying67,_,rfl,rfl,fnz in_frame_Frame (by decide)⟩
theorem fld_frame_form_0:Fld Tryz.prog 97 0 0:=⟨_,Tryz.underlying97,_,rfl,rfl,fnz in_int (by decide)⟩
theorem fld_frame_form_1:Fld Tryz.prog 97 1 1:=⟨_,Tryz.underlying97,_,rfl,rfl,fnz in_int (by decide)⟩
theorem fld_frame_form_2:Fld Tryz.prog 97 2 2:=⟨_,Tryz.underlying97,_,rfl,rfl,fnz in_int (by decide)⟩
theorem fld_frame_form_3:Fld Tryz.prog 97 3 3:=⟨_,Tryz.underlying97,_,rfl,rfl,fnz in_bool (by decide)⟩
theorem fld_frame_form_4:Fld Tryz.prog 97 4 4:=⟨_,Tryz.underlying97,_,rfl,rfl,fnz in_bool (by decide)⟩
theorem mp_map_int_frame_form:Mp Tryz.prog 99 3 97 .i64:=⟨Tryz.underlying99,un_int⟩
theorem bld_4_int:Bld Tryz.prog 29 [(0,1),(1,1),(2,1),(3,1)] [.int .i64 0,.int .i64 0,.int .i64 0,.int .i64 0]:=bld_array zero_4_int rfl un_4_int sz_int (by decide)
theorem bld_frame_Frame:Bld Tryz.prog 31 [(0,1),(1,1),(2,1),(3,4),(7,1)] [.int .i64 0,.int .i64 0,.int .i64 0,.int .i64 0,.int .i64 0,.int .i64 0,.int .i64 0,.slice none 0 0]:=bld_struct zero_frame_Frame rfl Tryz.underlying31 (fun _=>by kernel_rfl)
theorem bld_push_letter:Bld Tryz.prog 67 [(0,8)] [.int .i64 0,.int .i64 0,.int .i64 0,.int .i64 0,.int .i64 0,.int .i64 0,.int .i64 0,.slice none 0 0]:=bld_struct zero_push_letter rfl Tryz.underlying67 (fun _=>by kernel_rfl)
theorem bld_frame_form:Bld Tryz.prog 97 [(0,1),(1,1),(2,1),(3,1),(4,1)] [.int .i64 0,.int .i64 0,.int .i64 0,.bool false,.bool false]:=bld_struct zero_frame_form rfl Tryz.underlying97 (fun _=>by kernel_rfl)
theorem eqg_4_int : Tryz.prog.eqGuardType Tryz.prog.depth 29=false:=by kernel_rfl
theorem eqs_4_int (a0:Int) (a1:Int) (a2:Int) (a3:Int) (b0:Int) (b1:Int) (b2:Int) (b3:Int):EqR Tryz.prog 29 2 (.agg #[.int .i64 a0,.int .i64 a1,.int .i64 a2,.int .i64 a3]) (.agg #[.int .i64 b0,.int .i64 b1,.int .i64 b2,.int .i64 b3]) ((a0==b0)&&((a1==b1)&&((a2==b2)&&((a3==b3)&&true)))):=eq_array un_4_int sz_int ⟨_,_,_,_,part1 one_int rfl,part1 one_int rfl,eq_int un_int,⟨_,_,_,_,part1 one_int rfl,part1 one_int rfl,eq_int un_int,⟨_,_,_,_,part1 one_int rfl,part1 one_int rfl,eq_int un_int,⟨_,_,_,_,part1 one_int rfl,part1 one_int rfl,eq_int un_int,rfl,rfl⟩,rfl⟩,rfl⟩,rfl⟩
theorem cf_push_letter_is:CF Tryz.prog 24:=fun _ _=>by kernel_rfl
theorem cf_push_letter_upto:CF Tryz.prog 23:=fun _ _=>by kernel_rfl
theorem cf_digest_Put:CF Tryz.prog 52:=fun _ _=>by kernel_rfl
theorem cf_frame_Check:CF Tryz.prog 37:=fun _ _=>by kernel_rfl
theorem cf_frame_Check_1:CF Tryz.prog 53:=fun _ _=>by kernel_rfl
theorem cf_frame_forms:CF Tryz.prog 51:=fun _ _=>by kernel_rfl
theorem cf_octet_Put:CF Tryz.prog 68:=fun _ _=>by kernel_rfl
theorem cf_octet_parts:CF Tryz.prog 76:=fun _ _=>by kernel_rfl
theorem cf_octet_parts_1:CF Tryz.prog 82:=fun _ _=>by kernel_rfl
end Go.Proofs.YthfkbabgkacfnaaGreat
