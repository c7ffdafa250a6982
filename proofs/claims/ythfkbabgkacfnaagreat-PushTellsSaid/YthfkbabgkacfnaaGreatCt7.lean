/- Closed facts: the references of frames and of push. -/
import Derived.Test.YthfkbabgkacfnaaGreatCt6
namespace Go.Proofs.YthfkbabgkacfnaaGreat
open Go Go.RowKit
set_option linter.unusedVariables false
set_option linter.unusedSimpArgs false
theorem in_ouroborosref14_Frame:(Tryz.prog.info? 38).map (fun i=>(i.zero,i.size,i.bytes))=some (some (.agg #[.int .i64 0,.int .i64 0,.int .i64 0,.int .i64 0,.int .i64 0,.int .i64 0,.int .i64 0,.slice none 0 0]),8,80):=by kernel_rfl
theorem zero_ouroborosref14_Frame:Zero Tryz.prog 38 (.agg #[.int .i64 0,.int .i64 0,.int .i64 0,.int .i64 0,.int .i64 0,.int .i64 0,.int .i64 0,.slice none 0 0]):=zero_of in_ouroborosref14_Frame
theorem sz_ouroborosref14_Frame:Sz Tryz.prog 38 8:=sz_of in_ouroborosref14_Frame
theorem agg_ouroborosref14_Frame:Agg Tryz.prog 38 8:=⟨⟨_,Tryz.underlying38,trivial⟩,sz_ouroborosref14_Frame⟩
theorem fld_ouroborosref14_Frame_0:Fld Tryz.prog 38 0 0:=⟨_,Tryz.underlying38,_,rfl,rfl,fnz in_int (by decide)⟩
theorem fld_ouroborosref14_Frame_1:Fld Tryz.prog 38 1 1:=⟨_,Tryz.underlying38,_,rfl,rfl,fnz in_int (by decide)⟩
theorem fld_ouroborosref14_Frame_2:Fld Tryz.prog 38 2 2:=⟨_,Tryz.underlying38,_,rfl,rfl,fnz in_int (by decide)⟩
theorem fld_ouroborosref14_Frame_3:Fld Tryz.prog 38 3 3:=⟨_,Tryz.underlying38,_,rfl,rfl,fnz in_4_int (by decide)⟩
theorem fld_ouroborosref14_Frame_4:Fld Tryz.prog 38 4 7:=⟨_,Tryz.underlying38,_,rfl,rfl,fnz in_s_api_Entry (by decide)⟩
theorem bld_ouroborosref14_Frame:Bld Tryz.prog 38 [(0,1),(1,1),(2,1),(3,4),(7,1)] [.int .i64 0,.int .i64 0,.int .i64 0,.int .i64 0,.int .i64 0,.int .i64 0,.int .i64 0,.slice none 0 0]:=bld_struct zero_ouroborosref14_Frame rfl Tryz.underlying38 (fun _=>by kernel_rfl)
theorem cf_law14_Of:CF Tryz.prog 13:=fun _ _=>by kernel_rfl
theorem cf_ref01_Put:CF Tryz.prog 56:=fun _ _=>by kernel_rfl
theorem cf_ref10_Put:CF Tryz.prog 38:=fun _ _=>by kernel_rfl
theorem cf_ref14_Check:CF Tryz.prog 25:=fun _ _=>by kernel_rfl
theorem cf_ref14_Same:CF Tryz.prog 17:=fun _ _=>by kernel_rfl
theorem cf_ref14_entries:CF Tryz.prog 39:=fun _ _=>by kernel_rfl
theorem cf_ref17_Done:CF Tryz.prog 16:=fun _ _=>by kernel_rfl
theorem cf_ref17_Heard:CF Tryz.prog 12:=fun _ _=>by kernel_rfl
theorem cf_ref17_Send:CF Tryz.prog 9:=fun _ _=>by kernel_rfl
end Go.Proofs.YthfkbabgkacfnaaGreat
