/- Closed facts: buffers. -/
import Derived.Test.YthfkbabgkacfnaaGreatCt2
import Derived.Test.YthfkbabgkacfnaaGreatD3
namespace Go.Proofs.YthfkbabgkacfnaaGreat
open Go Go.RowKit
set_option linter.unusedVariables false
set_option linter.unusedSimpArgs false
theorem un_s_buffer_Name : Tryz.prog.underlying 22=some (.slice 59):=Tryz.underlying22
theorem in_s_buffer_Name:(Tryz.prog.info? 22).map (fun i=>(i.zero,i.size,i.bytes))=some (some (.slice none 0 0),1,24):=by kernel_rfl
theorem sz_s_buffer_Name:Sz Tryz.prog 22 1:=sz_of in_s_buffer_Name
theorem one_s_buffer_Name:One Tryz.prog 22:=⟨⟨_,Tryz.underlying22,trivial⟩,sz_s_buffer_Name⟩
theorem in_buffer_Buffer:(Tryz.prog.info? 24).map (fun i=>(i.zero,i.size,i.bytes))=some (some (.agg #[.int .i64 0,.int .i64 0,.slice none 0 0]),3,40):=by kernel_rfl
theorem zero_buffer_Buffer:Zero Tryz.prog 24 (.agg #[.int .i64 0,.int .i64 0,.slice none 0 0]):=zero_of in_buffer_Buffer
theorem sz_buffer_Buffer:Sz Tryz.prog 24 3:=sz_of in_buffer_Buffer
theorem agg_buffer_Buffer:Agg Tryz.prog 24 3:=⟨⟨_,Tryz.underlying24,trivial⟩,sz_buffer_Buffer⟩
theorem un_s_ouroborosref16_Name : Tryz.prog.underlying 41=some (.slice 65):=Tryz.underlying41
theorem in_s_ouroborosref16_Name:(Tryz.prog.info? 41).map (fun i=>(i.zero,i.size,i.bytes))=some (some (.slice none 0 0),1,24):=by kernel_rfl
theorem sz_s_ouroborosref16_Name:Sz Tryz.prog 41 1:=sz_of in_s_ouroborosref16_Name
theorem one_s_ouroborosref16_Name:One Tryz.prog 41:=⟨⟨_,Tryz.underlying41,trivial⟩,sz_s_ouroborosref16_Name⟩
theorem in_ouroborosref16_Buffer:(Tryz.prog.info? 43).map (fun i=>(i.zero,i.size,i.bytes))=some (some (.agg #[.int .i64 0,.int .i64 0,.slice none 0 0]),3,40):=by kernel_rfl
theorem zero_ouroborosref16_Buffer:Zero Tryz.prog 43 (.agg #[.int .i64 0,.int .i64 0,.slice none 0 0]):=zero_of in_ouroborosref16_Buffer
theorem sz_ouroborosref16_Buffer:Sz Tryz.prog 43 3:=sz_of in_ouroborosref16_Buffer
theorem agg_ouroborosref16_Buffer:Agg Tryz.prog 43 3:=⟨⟨_,Tryz.underlying43,trivial⟩,sz_ouroborosref16_Buffer⟩
theorem in_buffer_Name:(Tryz.prog.info? 59).map (fun i=>(i.zero,i.size,i.bytes))=some (some (.agg #[.int .i64 0,str []]),2,24):=by kernel_rfl
theorem zero_buffer_Name:Zero Tryz.prog 59 (.agg #[.int .i64 0,str []]):=zero_of in_buffer_Name
theorem sz_buffer_Name:Sz Tryz.prog 59 2:=sz_of in_buffer_Name
theorem agg_buffer_Name:Agg Tryz.prog 59 2:=⟨⟨_,Tryz.underlying59,trivial⟩,sz_buffer_Name⟩
theorem in_ouroborosref16_Name:(Tryz.prog.info? 65).map (fun i=>(i.zero,i.size,i.bytes))=some (some (.agg #[.int .i64 0,str []]),2,24):=by kernel_rfl
theorem zero_ouroborosref16_Name:Zero Tryz.prog 65 (.agg #[.int .i64 0,str []]):=zero_of in_ouroborosref16_Name
theorem sz_ouroborosref16_Name:Sz Tryz.prog 65 2:=sz_of in_ouroborosref16_Name
theorem agg_ouroborosref16_Name:Agg Tryz.prog 65 2:=⟨⟨_,Tryz.underlying65,trivial⟩,sz_ouroborosref16_Name⟩
theorem fld_buffer_Buffer_0:Fld Tryz.prog 24 0 0:=⟨_,Tryz.underlying24,_,rfl,rfl,fnz in_int (by decide)⟩
theorem fld_buffer_Buffer_1:Fld Tryz.prog 24 1 1:=⟨_,Tryz.underlying24,_,rfl,rfl,fnz in_int (by decide)⟩
theorem fld_buffer_Buffer_2:Fld Tryz.prog 24 2 2:=⟨_,Tryz.underlying24,_,rfl,rfl,fnz in_s_buffer_Name (by decide)⟩
theorem fld_ouroborosref16_Buffer_0:Fld Tryz.prog 43 0 0:=⟨_,Tryz.underlying43,_,rfl,rfl,fnz in_int (by decide)⟩
theorem fld_ouroborosref16_Buffer_1:Fld Tryz.prog 43 1 1:=⟨_,Tryz.underlying43,_,rfl,rfl,fnz in_int (by decide)⟩
theorem fld_ouroborosref16_Buffer_2:Fld Tryz.prog 43 2 2:=⟨_,Tryz.underlying43,_,rfl,rfl,fnz in_s_ouroborosref16_Name (by decide)⟩
theorem fld_buffer_Name_0:Fld Tryz.prog 59 0 0:=⟨_,Tryz.underlying59,_,rfl,rfl,fnz in_int (by decide)⟩
theorem fld_buffer_Name_1:Fld Tryz.prog 59 1 1:=⟨_,Tryz.underlying59,_,rfl,rfl,fnz in_string (by decide)⟩
theorem fld_ouroborosref16_Name_0:Fld Tryz.prog 65 0 0:=⟨_,Tryz.underlying65,_,rfl,rfl,fnz in_int (by decide)⟩
theorem fld_ouroborosref16_Name_1:Fld Tryz.prog 65 1 1:=⟨_,Tryz.underlying65,_,rfl,rfl,fnz in_string (by decide)⟩
theorem slc_s_buffer_Name:Slc Tryz.prog 22 59 2 24 (.agg #[.int .i64 0,str []]):=⟨un_s_buffer_Name,info_parts' in_buffer_Name⟩
theorem slc_s_ouroborosref16_Name:Slc Tryz.prog 41 65 2 24 (.agg #[.int .i64 0,str []]):=⟨un_s_ouroborosref16_Name,info_parts' in_ouroborosref16_Name⟩
theorem bld_buffer_Buffer:Bld Tryz.prog 24 [(0,1),(1,1),(2,1)] [.int .i64 0,.int .i64 0,.slice none 0 0]:=bld_struct zero_buffer_Buffer rfl Tryz.underlying24 (fun _=>by kernel_rfl)
theorem bld_ouroborosref16_Buffer:Bld Tryz.prog 43 [(0,1),(1,1),(2,1)] [.int .i64 0,.int .i64 0,.slice none 0 0]:=bld_struct zero_ouroborosref16_Buffer rfl Tryz.underlying43 (fun _=>by kernel_rfl)
theorem bld_buffer_Name:Bld Tryz.prog 59 [(0,1),(1,1)] [.int .i64 0,str []]:=bld_struct zero_buffer_Name rfl Tryz.underlying59 (fun _=>by kernel_rfl)
theorem bld_ouroborosref16_Name:Bld Tryz.prog 65 [(0,1),(1,1)] [.int .i64 0,str []]:=bld_struct zero_ouroborosref16_Name rfl Tryz.underlying65 (fun _=>by kernel_rfl)
theorem eqg_ouroborosref16_Name : Tryz.prog.eqGuardType Tryz.prog.depth 65=false:=by kernel_rfl
theorem eqs_ouroborosref16_Name (a0:Int) (a1:Str) (b0:Int) (b1:Str):EqR Tryz.prog 65 2 (.agg #[.int .i64 a0,str a1]) (.agg #[.int .i64 b0,str b1]) ((a0==b0)&&((a1==b1)&&true)):=eq_struct Tryz.underlying65 (by kernel_rfl) ⟨by decide,_,_,_,_,part1 one_int rfl,part1 one_int rfl,eq_int un_int,⟨by decide,_,_,_,_,part1 one_string rfl,part1 one_string rfl,eq_str un_string,rfl,rfl⟩,rfl⟩
theorem cf_buffer_Buffer_first:CF Tryz.prog 32:=fun _ _=>by kernel_rfl
theorem cf_buffer_Buffer_first_1:CF Tryz.prog 48:=fun _ _=>by kernel_rfl
theorem cf_buffer_Ack_1:CF Tryz.prog 41:=fun _ _=>by kernel_rfl
theorem cf_buffer_Check:CF Tryz.prog 30:=fun _ _=>by kernel_rfl
theorem cf_buffer_Check_1:CF Tryz.prog 44:=fun _ _=>by kernel_rfl
theorem cf_buffer_Check_2:CF Tryz.prog 45:=fun _ _=>by kernel_rfl
theorem cf_buffer_Mend:CF Tryz.prog 19:=fun _ _=>by kernel_rfl
theorem cf_buffer_Reset:CF Tryz.prog 31:=fun _ _=>by kernel_rfl
theorem cf_buffer_mended:CF Tryz.prog 40:=fun _ _=>by kernel_rfl
theorem cf_ref16_Check:CF Tryz.prog 34:=fun _ _=>by kernel_rfl
theorem cf_ref16_Mend:CF Tryz.prog 21:=fun _ _=>by kernel_rfl
theorem cf_ref16_Reset:CF Tryz.prog 35:=fun _ _=>by kernel_rfl
theorem cf_slices_Clone_Name:CF Tryz.prog 42:=fun _ _=>by kernel_rfl
theorem cf_slices_ContainsFunc_Name:CF Tryz.prog 47:=fun _ _=>by kernel_rfl
theorem cf_slices_IndexFunc_Name:CF Tryz.prog 63:=fun _ _=>by kernel_rfl
end Go.Proofs.YthfkbabgkacfnaaGreat
