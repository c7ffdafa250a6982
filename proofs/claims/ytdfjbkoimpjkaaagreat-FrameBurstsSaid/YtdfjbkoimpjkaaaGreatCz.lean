/- Closed facts: frames as bytes. -/
import Derived.Test.YtdfjbkoimpjkaaaGreatBl
import Derived.Test.YtdfjbkoimpjkaaaGreatMm
import Derived.Test.YtdfjbkoimpjkaaaGreatQn
import Derived.Test.YtdfjbkoimpjkaaaGreatHm
namespace Go.Proofs.YtdfjbkoimpjkaaaGreat
open Go Go.RowKit
set_option linter.unusedVariables false
set_option linter.unusedSimpArgs false
theorem un_uint16 : Tryz.prog.underlying 45=some (.int .u16):=Tryz.underlying45
theorem un_4_uint8 : Tryz.prog.underlying 46=some (.array 4 5):=Tryz.underlying46
theorem in_4_uint8:(Tryz.prog.info? 46).map (fun i=>(i.zero,i.size,i.bytes))=some (some (.agg #[.int .u8 0,.int .u8 0,.int .u8 0,.int .u8 0]),4,4):=by kernel_rfl
theorem zero_4_uint8:Zero Tryz.prog 46 (.agg #[.int .u8 0,.int .u8 0,.int .u8 0,.int .u8 0]):=zero_of in_4_uint8
theorem sz_4_uint8:Sz Tryz.prog 46 4:=sz_of in_4_uint8
theorem agg_4_uint8:Agg Tryz.prog 46 4:=⟨⟨_,Tryz.underlying46,trivial⟩,sz_4_uint8⟩
theorem bld_4_uint8:Bld Tryz.prog 46 [(0,1),(1,1),(2,1),(3,1)] [.int .u8 0,.int .u8 0,.int .u8 0,.int .u8 0]:=bld_array zero_4_uint8 rfl un_4_uint8 sz_uint8 (by decide)
theorem eqg_4_uint8 : Tryz.prog.eqGuardType Tryz.prog.depth 46=false:=by kernel_rfl
theorem eqs_4_uint8 (a0:Int) (a1:Int) (a2:Int) (a3:Int) (b0:Int) (b1:Int) (b2:Int) (b3:Int):EqR Tryz.prog 46 2 (.agg #[.int .u8 a0,.int .u8 a1,.int .u8 a2,.int .u8 a3]) (.agg #[.int .u8 b0,.int .u8 b1,.int .u8 b2,.int .u8 b3]) ((a0==b0)&&((a1==b1)&&((a2==b2)&&((a3==b3)&&true)))):=eq_array un_4_uint8 sz_uint8 ⟨_,_,_,_,part1 one_uint8 rfl,part1 one_uint8 rfl,eq_int un_uint8,⟨_,_,_,_,part1 one_uint8 rfl,part1 one_uint8 rfl,eq_int un_uint8,⟨_,_,_,_,part1 one_uint8 rfl,part1 one_uint8 rfl,eq_int un_uint8,⟨_,_,_,_,part1 one_uint8 rfl,part1 one_uint8 rfl,eq_int un_uint8,rfl,rfl⟩,rfl⟩,rfl⟩,rfl⟩
theorem cf_crc_Seal:CF Tryz.prog 62:=fun _ _=>by kernel_rfl
theorem cf_frame_Get:CF Tryz.prog 18:=fun _ _=>by kernel_rfl
theorem cf_frame_Put:CF Tryz.prog 13:=fun _ _=>by kernel_rfl
theorem cf_frame_number:CF Tryz.prog 25:=fun _ _=>by kernel_rfl
theorem cf_frame_seal:CF Tryz.prog 27:=fun _ _=>by kernel_rfl
theorem cf_octet_Xor:CF Tryz.prog 20:=fun _ _=>by kernel_rfl
theorem cf_law14_works:CF Tryz.prog 9:=fun _ _=>by kernel_rfl
theorem cf_strings_Join:CF Tryz.prog 63:=fun _ _=>by kernel_rfl
end Go.Proofs.YtdfjbkoimpjkaaaGreat
