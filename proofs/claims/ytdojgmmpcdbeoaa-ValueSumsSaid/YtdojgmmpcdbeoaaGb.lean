/- The fixed facts that the laws of value ask first. -/
import Derived.Test.YtdojgmmpcdbeoaaSc
namespace Go.Proofs.Ytdojgmmpcdbeoaa
open Go Go.RowKit
set_option linter.unusedVariables false
set_option linter.unusedSimpArgs false
def law06_works_raw (y:Bool):Prop :=
 (sm (⟨(1:Int),(3:Int),(1:Int),false,([120]:Str),([]:List Int),([]:List Int),(0:Int)⟩:Val))∧((sm (⟨(1:Int),(3:Int),(2:Int),false,([97]:Str),([]:List Int),([]:List Int),(0:Int)⟩:Val))∧(∃ x11,x11=(joinV (⟨(1:Int),(3:Int),(1:Int),false,([120]:Str),([]:List Int),([]:List Int),(0:Int)⟩:Val) (⟨(1:Int),(3:Int),(2:Int),false,([97]:Str),([]:List Int),([]:List Int),(0:Int)⟩:Val))∧(∃ x38,x38=(leastV (2:Int))∧((sm x38.1)∧((sm (⟨(2:Int),(0:Int),(0:Int),false,([]:Str),([(5:Int),(0:Int),(0:Int),(0:Int),(0:Int),(0:Int),(0:Int),(1:Int)]:List Int),([(0:Int),(2:Int),(0:Int),(0:Int),(0:Int),(0:Int),(0:Int),(0:Int)]:List Int),(0:Int)⟩:Val))∧(∃ x118,x118=(joinV x38.1 (⟨(2:Int),(0:Int),(0:Int),false,([]:Str),([(5:Int),(0:Int),(0:Int),(0:Int),(0:Int),(0:Int),(0:Int),(1:Int)]:List Int),([(0:Int),(2:Int),(0:Int),(0:Int),(0:Int),(0:Int),(0:Int),(0:Int)]:List Int),(0:Int)⟩:Val))∧((sm (⟨(3:Int),(0:Int),(0:Int),false,([]:Str),([]:List Int),([]:List Int),(5:Int)⟩:Val))∧((sm (⟨(3:Int),(0:Int),(0:Int),false,([]:Str),([]:List Int),([]:List Int),(6:Int)⟩:Val))∧(∃ x173,x173=(joinV (⟨(3:Int),(0:Int),(0:Int),false,([]:Str),([]:List Int),([]:List Int),(5:Int)⟩:Val) (⟨(3:Int),(0:Int),(0:Int),false,([]:Str),([]:List Int),([]:List Int),(6:Int)⟩:Val))∧((sm (⟨(1:Int),(3:Int),(1:Int),false,([120]:Str),([]:List Int),([]:List Int),(0:Int)⟩:Val))∧((sm (⟨(2:Int),(0:Int),(0:Int),false,([]:Str),([(5:Int),(0:Int),(0:Int),(0:Int),(0:Int),(0:Int),(0:Int),(1:Int)]:List Int),([(0:Int),(2:Int),(0:Int),(0:Int),(0:Int),(0:Int),(0:Int),(0:Int)]:List Int),(0:Int)⟩:Val))∧(∃ x236,x236=(joinV (⟨(1:Int),(3:Int),(1:Int),false,([120]:Str),([]:List Int),([]:List Int),(0:Int)⟩:Val) (⟨(2:Int),(0:Int),(0:Int),false,([]:Str),([(5:Int),(0:Int),(0:Int),(0:Int),(0:Int),(0:Int),(0:Int),(1:Int)]:List Int),([(0:Int),(2:Int),(0:Int),(0:Int),(0:Int),(0:Int),(0:Int),(0:Int)]:List Int),(0:Int)⟩:Val))∧((sm (⟨(1:Int),(3:Int),(1:Int),false,([120]:Str),([]:List Int),([]:List Int),(0:Int)⟩:Val))∧((sm (⟨(0:Int),(0:Int),(0:Int),false,([]:Str),([]:List Int),([]:List Int),(0:Int)⟩:Val))∧(∃ x307,x307=(joinV (⟨(1:Int),(3:Int),(1:Int),false,([120]:Str),([]:List Int),([]:List Int),(0:Int)⟩:Val) (⟨(0:Int),(0:Int),(0:Int),false,([]:Str),([]:List Int),([]:List Int),(0:Int)⟩:Val))∧(∃ x386,x386=(leastV (4:Int))∧((sm x11.1)∧(∃ x478,x478=(sameV x11.1 (⟨(1:Int),(3:Int),(2:Int),false,([97]:Str),([]:List Int),([]:List Int),(0:Int)⟩:Val))∧((((x478&&(x11.2==0))&&(x38.2==0))=true→sm x118.1)∧((((((x478&&(x11.2==0))&&(x38.2==0))&&(sameV x118.1 (⟨(2:Int),(0:Int),(0:Int),false,([]:Str),([(5:Int),(0:Int),(0:Int),(0:Int),(0:Int),(0:Int),(0:Int),(1:Int)]:List Int),([(0:Int),(2:Int),(0:Int),(0:Int),(0:Int),(0:Int),(0:Int),(0:Int)]:List Int),(0:Int)⟩:Val)))&&(x118.2==0))=true→sm (⟨(2:Int),(0:Int),(0:Int),false,([]:Str),([(5:Int),(0:Int),(0:Int),(0:Int),(0:Int),(0:Int),(0:Int),(1:Int)]:List Int),([(0:Int),(2:Int),(0:Int),(0:Int),(0:Int),(0:Int),(0:Int),(0:Int)]:List Int),(0:Int)⟩:Val))∧((((((((((((x478&&(x11.2==0))&&(x38.2==0))&&(sameV x118.1 (⟨(2:Int),(0:Int),(0:Int),false,([]:Str),([(5:Int),(0:Int),(0:Int),(0:Int),(0:Int),(0:Int),(0:Int),(1:Int)]:List Int),([(0:Int),(2:Int),(0:Int),(0:Int),(0:Int),(0:Int),(0:Int),(0:Int)]:List Int),(0:Int)⟩:Val)))&&(x118.2==0))&&((sumV (⟨(2:Int),(0:Int),(0:Int),false,([]:Str),([(5:Int),(0:Int),(0:Int),(0:Int),(0:Int),(0:Int),(0:Int),(1:Int)]:List Int),([(0:Int),(2:Int),(0:Int),(0:Int),(0:Int),(0:Int),(0:Int),(0:Int)]:List Int),(0:Int)⟩:Val))==4))&&(x173.1.flags==7))&&(x173.2==0))&&(x236.2==3))&&(x307.2==2))&&(x386.2==3))=true→sm (⟨(1:Int),(3:Int),(1:Int),false,([120]:Str),([]:List Int),([]:List Int),(0:Int)⟩:Val))∧(((((((((((((x478&&(x11.2==0))&&(x38.2==0))&&(sameV x118.1 (⟨(2:Int),(0:Int),(0:Int),false,([]:Str),([(5:Int),(0:Int),(0:Int),(0:Int),(0:Int),(0:Int),(0:Int),(1:Int)]:List Int),([(0:Int),(2:Int),(0:Int),(0:Int),(0:Int),(0:Int),(0:Int),(0:Int)]:List Int),(0:Int)⟩:Val)))&&(x118.2==0))&&((sumV (⟨(2:Int),(0:Int),(0:Int),false,([]:Str),([(5:Int),(0:Int),(0:Int),(0:Int),(0:Int),(0:Int),(0:Int),(1:Int)]:List Int),([(0:Int),(2:Int),(0:Int),(0:Int),(0:Int),(0:Int),(0:Int),(0:Int)]:List Int),(0:Int)⟩:Val))==4))&&(x173.1.flags==7))&&(x173.2==0))&&(x236.2==3))&&(x307.2==2))&&(x386.2==3))&&((checkV (⟨(1:Int),(3:Int),(1:Int),false,([120]:Str),([]:List Int),([]:List Int),(0:Int)⟩:Val))==0))=true→sm (⟨(1:Int),(0:Int),(0:Int),true,([120]:Str),([]:List Int),([]:List Int),(0:Int)⟩:Val))∧((((((((((((((x478&&(x11.2==0))&&(x38.2==0))&&(sameV x118.1 (⟨(2:Int),(0:Int),(0:Int),false,([]:Str),([(5:Int),(0:Int),(0:Int),(0:Int),(0:Int),(0:Int),(0:Int),(1:Int)]:List Int),([(0:Int),(2:Int),(0:Int),(0:Int),(0:Int),(0:Int),(0:Int),(0:Int)]:List Int),(0:Int)⟩:Val)))&&(x118.2==0))&&((sumV (⟨(2:Int),(0:Int),(0:Int),false,([]:Str),([(5:Int),(0:Int),(0:Int),(0:Int),(0:Int),(0:Int),(0:Int),(1:Int)]:List Int),([(0:Int),(2:Int),(0:Int),(0:Int),(0:Int),(0:Int),(0:Int),(0:Int)]:List Int),(0:Int)⟩:Val))==4))&&(x173.1.flags==7))&&(x173.2==0))&&(x236.2==3))&&(x307.2==2))&&(x386.2==3))&&((checkV (⟨(1:Int),(3:Int),(1:Int),false,([120]:Str),([]:List Int),([]:List Int),(0:Int)⟩:Val))==0))&&((checkV (⟨(1:Int),(0:Int),(0:Int),true,([120]:Str),([]:List Int),([]:List Int),(0:Int)⟩:Val))==2))=true→sm (⟨(1:Int),(3:Int),(1:Int),false,([120]:Str),([]:List Int),([]:List Int),(0:Int)⟩:Val))∧((((((((((((((x478&&(x11.2==0))&&(x38.2==0))&&(sameV x118.1 (⟨(2:Int),(0:Int),(0:Int),false,([]:Str),([(5:Int),(0:Int),(0:Int),(0:Int),(0:Int),(0:Int),(0:Int),(1:Int)]:List Int),([(0:Int),(2:Int),(0:Int),(0:Int),(0:Int),(0:Int),(0:Int),(0:Int)]:List Int),(0:Int)⟩:Val)))&&(x118.2==0))&&((sumV (⟨(2:Int),(0:Int),(0:Int),false,([]:Str),([(5:Int),(0:Int),(0:Int),(0:Int),(0:Int),(0:Int),(0:Int),(1:Int)]:List Int),([(0:Int),(2:Int),(0:Int),(0:Int),(0:Int),(0:Int),(0:Int),(0:Int)]:List Int),(0:Int)⟩:Val))==4))&&(x173.1.flags==7))&&(x173.2==0))&&(x236.2==3))&&(x307.2==2))&&(x386.2==3))&&((checkV (⟨(1:Int),(3:Int),(1:Int),false,([120]:Str),([]:List Int),([]:List Int),(0:Int)⟩:Val))==0))&&((checkV (⟨(1:Int),(0:Int),(0:Int),true,([120]:Str),([]:List Int),([]:List Int),(0:Int)⟩:Val))==2))=true→sm (⟨(1:Int),(3:Int),(2:Int),false,([97]:Str),([]:List Int),([]:List Int),(0:Int)⟩:Val))∧(((((((((((((((x478&&(x11.2==0))&&(x38.2==0))&&(sameV x118.1 (⟨(2:Int),(0:Int),(0:Int),false,([]:Str),([(5:Int),(0:Int),(0:Int),(0:Int),(0:Int),(0:Int),(0:Int),(1:Int)]:List Int),([(0:Int),(2:Int),(0:Int),(0:Int),(0:Int),(0:Int),(0:Int),(0:Int)]:List Int),(0:Int)⟩:Val)))&&(x118.2==0))&&((sumV (⟨(2:Int),(0:Int),(0:Int),false,([]:Str),([(5:Int),(0:Int),(0:Int),(0:Int),(0:Int),(0:Int),(0:Int),(1:Int)]:List Int),([(0:Int),(2:Int),(0:Int),(0:Int),(0:Int),(0:Int),(0:Int),(0:Int)]:List Int),(0:Int)⟩:Val))==4))&&(x173.1.flags==7))&&(x173.2==0))&&(x236.2==3))&&(x307.2==2))&&(x386.2==3))&&((checkV (⟨(1:Int),(3:Int),(1:Int),false,([120]:Str),([]:List Int),([]:List Int),(0:Int)⟩:Val))==0))&&((checkV (⟨(1:Int),(0:Int),(0:Int),true,([120]:Str),([]:List Int),([]:List Int),(0:Int)⟩:Val))==2))&&(belowV (⟨(1:Int),(3:Int),(1:Int),false,([120]:Str),([]:List Int),([]:List Int),(0:Int)⟩:Val) (⟨(1:Int),(3:Int),(2:Int),false,([97]:Str),([]:List Int),([]:List Int),(0:Int)⟩:Val)))=true→sm (⟨(1:Int),(3:Int),(2:Int),false,([97]:Str),([]:List Int),([]:List Int),(0:Int)⟩:Val))∧(((((((((((((((x478&&(x11.2==0))&&(x38.2==0))&&(sameV x118.1 (⟨(2:Int),(0:Int),(0:Int),false,([]:Str),([(5:Int),(0:Int),(0:Int),(0:Int),(0:Int),(0:Int),(0:Int),(1:Int)]:List Int),([(0:Int),(2:Int),(0:Int),(0:Int),(0:Int),(0:Int),(0:Int),(0:Int)]:List Int),(0:Int)⟩:Val)))&&(x118.2==0))&&((sumV (⟨(2:Int),(0:Int),(0:Int),false,([]:Str),([(5:Int),(0:Int),(0:Int),(0:Int),(0:Int),(0:Int),(0:Int),(1:Int)]:List Int),([(0:Int),(2:Int),(0:Int),(0:Int),(0:Int),(0:Int),(0:Int),(0:Int)]:List Int),(0:Int)⟩:Val))==4))&&(x173.1.flags==7))&&(x173.2==0))&&(x236.2==3))&&(x307.2==2))&&(x386.2==3))&&((checkV (⟨(1:Int),(3:Int),(1:Int),false,([120]:Str),([]:List Int),([]:List Int),(0:Int)⟩:Val))==0))&&((checkV (⟨(1:Int),(0:Int),(0:Int),true,([120]:Str),([]:List Int),([]:List Int),(0:Int)⟩:Val))==2))&&(belowV (⟨(1:Int),(3:Int),(1:Int),false,([120]:Str),([]:List Int),([]:List Int),(0:Int)⟩:Val) (⟨(1:Int),(3:Int),(2:Int),false,([97]:Str),([]:List Int),([]:List Int),(0:Int)⟩:Val)))=true→sm (⟨(1:Int),(3:Int),(1:Int),false,([120]:Str),([]:List Int),([]:List Int),(0:Int)⟩:Val))∧((((((((((((((((x478&&(x11.2==0))&&(x38.2==0))&&(sameV x118.1 (⟨(2:Int),(0:Int),(0:Int),false,([]:Str),([(5:Int),(0:Int),(0:Int),(0:Int),(0:Int),(0:Int),(0:Int),(1:Int)]:List Int),([(0:Int),(2:Int),(0:Int),(0:Int),(0:Int),(0:Int),(0:Int),(0:Int)]:List Int),(0:Int)⟩:Val)))&&(x118.2==0))&&((sumV (⟨(2:Int),(0:Int),(0:Int),false,([]:Str),([(5:Int),(0:Int),(0:Int),(0:Int),(0:Int),(0:Int),(0:Int),(1:Int)]:List Int),([(0:Int),(2:Int),(0:Int),(0:Int),(0:Int),(0:Int),(0:Int),(0:Int)]:List Int),(0:Int)⟩:Val))==4))&&(x173.1.flags==7))&&(x173.2==0))&&(x236.2==3))&&(x307.2==2))&&(x386.2==3))&&((checkV (⟨(1:Int),(3:Int),(1:Int),false,([120]:Str),([]:List Int),([]:List Int),(0:Int)⟩:Val))==0))&&((checkV (⟨(1:Int),(0:Int),(0:Int),true,([120]:Str),([]:List Int),([]:List Int),(0:Int)⟩:Val))==2))&&(belowV (⟨(1:Int),(3:Int),(1:Int),false,([120]:Str),([]:List Int),([]:List Int),(0:Int)⟩:Val) (⟨(1:Int),(3:Int),(2:Int),false,([97]:Str),([]:List Int),([]:List Int),(0:Int)⟩:Val)))&&(!(belowV (⟨(1:Int),(3:Int),(2:Int),false,([97]:Str),([]:List Int),([]:List Int),(0:Int)⟩:Val) (⟨(1:Int),(3:Int),(1:Int),false,([120]:Str),([]:List Int),([]:List Int),(0:Int)⟩:Val))))=true→sm (⟨(1:Int),(3:Int),(1:Int),false,([120]:Str),([]:List Int),([]:List Int),(0:Int)⟩:Val))∧(y=(((((((((((((((x478&&(x11.2==0))&&(x38.2==0))&&(sameV x118.1 (⟨(2:Int),(0:Int),(0:Int),false,([]:Str),([(5:Int),(0:Int),(0:Int),(0:Int),(0:Int),(0:Int),(0:Int),(1:Int)]:List Int),([(0:Int),(2:Int),(0:Int),(0:Int),(0:Int),(0:Int),(0:Int),(0:Int)]:List Int),(0:Int)⟩:Val)))&&(x118.2==0))&&((sumV (⟨(2:Int),(0:Int),(0:Int),false,([]:Str),([(5:Int),(0:Int),(0:Int),(0:Int),(0:Int),(0:Int),(0:Int),(1:Int)]:List Int),([(0:Int),(2:Int),(0:Int),(0:Int),(0:Int),(0:Int),(0:Int),(0:Int)]:List Int),(0:Int)⟩:Val))==4))&&(x173.1.flags==7))&&(x173.2==0))&&(x236.2==3))&&(x307.2==2))&&(x386.2==3))&&((checkV (⟨(1:Int),(3:Int),(1:Int),false,([120]:Str),([]:List Int),([]:List Int),(0:Int)⟩:Val))==0))&&((checkV (⟨(1:Int),(0:Int),(0:Int),true,([120]:Str),([]:List Int),([]:List Int),(0:Int)⟩:Val))==2))&&(belowV (⟨(1:Int),(3:Int),(1:Int),false,([120]:Str),([]:List Int),([]:List Int),(0:Int)⟩:Val) (⟨(1:Int),(3:Int),(2:Int),false,([97]:Str),([]:List Int),([]:List Int),(0:Int)⟩:Val)))&&(!(belowV (⟨(1:Int),(3:Int),(2:Int),false,([97]:Str),([]:List Int),([]:List Int),(0:Int)⟩:Val) (⟨(1:Int),(3:Int),(1:Int),false,([120]:Str),([]:List Int),([]:List Int),(0:Int)⟩:Val))))&&(!(sameV (⟨(1:Int),(3:Int),(1:Int),false,([120]:Str),([]:List Int),([]:List Int),(0:Int)⟩:Val) (⟨(1:Int),(3:Int),(2:Int),false,([97]:Str),([]:List Int),([]:List Int),(0:Int)⟩:Val))))))))))))))))))))))))))))))))
set_option maxRecDepth 20000 in
set_option maxHeartbeats 4000000 in
theorem law06_works_c {L:List Nat} {w:World}  (hL:Lt L w) {y:Bool} (h:law06_works_raw y) :
  Calls Try.prog 10 [].toArray w (Ret fun v w'=>Ext w w'∧v=.bool y):=by
 unfold law06_works_raw at h
 refine calls_ec Try.func10 rfl rfl rfl ?_
 refine ec_sr ?_
 refine o_w (v:=.bool false) (r_asg rfl) ?_
 refine eo_r ?_
 refine o_w (v:=.agg #[.int .i64 1,.int .i64 3,.int .i64 1,.bool false,str ([120]:Str),.slice none ([]:List Int).length 0,.slice none ([]:List Int).length 0,.int .u64 0]) (r_build bld_api_Value (vs:=[(0,.int .i64 1),(1,.int .i64 3),(2,.int .i64 1),(4,str ([120]:Str))]) (cells:=[.int .i64 1,.int .i64 3,.int .i64 1,.bool false,str ([120]:Str),.slice none ([]:List Int).length 0,.slice none ([]:List Int).length 0,.int .u64 0]) rfl rfl) ?_
 refine o_alloc zero_api_Value rfl rfl rfl ?_
 intro b1 w1 e1 F1 B1
 have n1:w.heap.size≤b1:=Nat.le_of_eq e1.symm
 refine o_store rfl B1 (vs:=[.int .i64 1,.int .i64 3,.int .i64 1,.bool false,str ([120]:Str),.slice none ([]:List Int).length 0,.slice none ([]:List Int).length 0,.int .u64 0]) rfl sz_api_Value rfl rfl rfl ?_
 intro w2 F2 B2
 have E3:=Ext.st F1 F2 (by simp; omega)
 have B2':Blk w2 b1 _ [.int .i64 1,.int .i64 3,.int .i64 1,.bool false,str ([120]:Str),.slice none ([]:List Int).length 0,.slice none ([]:List Int).length 0,.int .u64 0]:=B2
 refine eo_r ?_
 refine o_w (v:=.agg #[.int .i64 1,.int .i64 3,.int .i64 2,.bool false,str ([97]:Str),.slice none ([]:List Int).length 0,.slice none ([]:List Int).length 0,.int .u64 0]) (r_build bld_api_Value (vs:=[(0,.int .i64 1),(1,.int .i64 3),(2,.int .i64 2),(4,str ([97]:Str))]) (cells:=[.int .i64 1,.int .i64 3,.int .i64 2,.bool false,str ([97]:Str),.slice none ([]:List Int).length 0,.slice none ([]:List Int).length 0,.int .u64 0]) rfl rfl) ?_
 refine o_alloc zero_api_Value rfl rfl rfl ?_
 intro b4 w4 e4 F4 B4
 have n4:w.heap.size≤b4:=by rw [e4]; exact E3.size
 have q5:b1<b4:=by rw [e4]; exact B2'.lt
 have E6:=E3.trans F4
 refine o_store rfl B4 (vs:=[.int .i64 1,.int .i64 3,.int .i64 2,.bool false,str ([97]:Str),.slice none ([]:List Int).length 0,.slice none ([]:List Int).length 0,.int .u64 0]) rfl sz_api_Value rfl rfl rfl ?_
 intro w8 F8 B8
 have E9:=Ext.st E6 F8 (by simp; omega)
 have B10:=(B2'.ex F4).fr F8 (by simp; omega)
 have B8':Blk w8 b4 _ [.int .i64 1,.int .i64 3,.int .i64 2,.bool false,str ([97]:Str),.slice none ([]:List Int).length 0,.slice none ([]:List Int).length 0,.int .u64 0]:=B8
 refine eo_r ?_
 refine o_w (v:=.agg #[.int .i64 1,.int .i64 3,.int .i64 1,.bool false,str ([120]:Str),.slice none ([]:List Int).length 0,.slice none ([]:List Int).length 0,.int .u64 0]) (r_lda agg_api_Value rfl (vs:=[.int .i64 1,.int .i64 3,.int .i64 1,.bool false,str ([120]:Str),.slice none ([]:List Int).length 0,.slice none ([]:List Int).length 0,.int .u64 0]) rfl (B10.part (n:=8) rfl)) ?_
 refine o_w (v:=.agg #[.int .i64 1,.int .i64 3,.int .i64 2,.bool false,str ([97]:Str),.slice none ([]:List Int).length 0,.slice none ([]:List Int).length 0,.int .u64 0]) (r_lda agg_api_Value rfl (vs:=[.int .i64 1,.int .i64 3,.int .i64 2,.bool false,str ([97]:Str),.slice none ([]:List Int).length 0,.slice none ([]:List Int).length 0,.int .u64 0]) rfl (B8'.part (n:=8) rfl)) ?_
 obtain ⟨ha12,h⟩:=h
 obtain ⟨ha13,h⟩:=h
 obtain ⟨x11,hx11,h⟩:=h
 refine o_call cf_value_Join rfl (value_Join_c (⟨(1:Int),(3:Int),(1:Int),false,([120]:Str),([]:List Int),([]:List Int),(0:Int)⟩:Val) (kVal_mk (d:=(⟨(1:Int),(3:Int),(1:Int),false,([120]:Str),([]:List Int),([]:List Int),(0:Int)⟩:Val)) stb_nil stb_nil) (⟨(1:Int),(3:Int),(2:Int),false,([97]:Str),([]:List Int),([]:List Int),(0:Int)⟩:Val) (kVal_mk (d:=(⟨(1:Int),(3:Int),(2:Int),false,([97]:Str),([]:List Int),([]:List Int),(0:Int)⟩:Val)) stb_nil stb_nil) (((hL.fr E9).cons B10.lt).cons B8'.lt) (eq_ev hx11 (valJoin_ev (⟨(1:Int),(3:Int),(1:Int),false,([120]:Str),([]:List Int),([]:List Int),(0:Int)⟩:Val) (⟨(1:Int),(3:Int),(2:Int),false,([97]:Str),([]:List Int),([]:List Int),(0:Int)⟩:Val) ha12 ha13))) rfl rfl ?_
 rintro _ w11 ⟨F11,cs14,rfl,H15⟩
 have E16:=E9.trans F11
 obtain ⟨A19,c20,A22,c23,rfl,H21,H24⟩:=kVal_open H15
 refine o_w (v:=.tuple #[.agg (cVal x11.1 A19 c20 A22 c23).toArray,.int .i64 x11.2]) (r_mov rfl) ?_
 refine o_w (v:=.agg (cVal x11.1 A19 c20 A22 c23).toArray) (r_ext rfl rfl) ?_
 refine o_w (v:=.int .i64 x11.2) (r_ext rfl rfl) ?_
 refine o_alloc zero_api_Value rfl rfl rfl ?_
 intro b25 w25 e25 F25 B25
 have n25:w.heap.size≤b25:=by rw [e25]; exact E16.size
 have q26:b1<b25:=by rw [e25]; exact (B10.ex F11).lt
 have q27:b4<b25:=by rw [e25]; exact (B8'.ex F11).lt
 have m28:w11.heap.size≤b25:=Nat.le_of_eq e25.symm
 have E29:=E16.trans F25
 have G30:Fr (b4::(b1::L)) w11 w25:=Fr.ext F25
 refine o_store rfl B25 (vs:=(cVal x11.1 A19 c20 A22 c23)) rfl sz_api_Value rfl rfl rfl ?_
 intro w33 F33 B33
 have E34:=Ext.st E29 F33 (by simp; omega)
 have G35:Fr (b4::(b1::L)) w11 w33:=G30.stp F33 (upc (.inr m28) (fun m hm=>by cases hm))
 have B36:=((B10.ex F11).ex F25).fr F33 (by simp; omega)
 have B37:=((B8'.ex F11).ex F25).fr F33 (by simp; omega)
 have B33':Blk w33 b25 _ (cVal x11.1 A19 c20 A22 c23):=B33
 refine o_w (v:=.int .i64 x11.2) (r_asg rfl) ?_
 refine eo_r ?_
 obtain ⟨x38,hx38,h⟩:=h
 refine o_call cf_value_Least rfl (value_Least_c (2:Int) ((((hL.fr E34).cons B36.lt).cons B37.lt).cons B33'.lt) (eq_ev hx38 (valLeast_ev (2:Int)))) rfl rfl ?_
 rintro _ w38 ⟨F38,cs39,rfl,H40⟩
 have E41:=E34.trans F38
 obtain ⟨A46,c47,A49,c50,rfl,H48,H51⟩:=kVal_open H40
 refine o_w (v:=.tuple #[.agg (cVal x38.1 A46 c47 A49 c50).toArray,.int .i64 x38.2]) (r_mov rfl) ?_
 refine o_w (v:=.agg (cVal x38.1 A46 c47 A49 c50).toArray) (r_ext rfl rfl) ?_
 refine o_w (v:=.int .i64 x38.2) (r_ext rfl rfl) ?_
 refine o_alloc zero_api_Value rfl rfl rfl ?_
 intro b52 w52 e52 F52 B52
 have n52:w.heap.size≤b52:=by rw [e52]; exact E41.size
 have q53:b1<b52:=by rw [e52]; exact (B36.ex F38).lt
 have q54:b4<b52:=by rw [e52]; exact (B37.ex F38).lt
 have q55:b25<b52:=by rw [e52]; exact (B33'.ex F38).lt
 have m56:w11.heap.size≤b52:=by rw [e52]; exact (G35.trans (Fr.ext F38)).size
 have m57:w38.heap.size≤b52:=Nat.le_of_eq e52.symm
 have E58:=E41.trans F52
 have G60:Fr (b25::(b4::(b1::L))) w38 w52:=Fr.ext F52
 refine o_store rfl B52 (vs:=(cVal x38.1 A46 c47 A49 c50)) rfl sz_api_Value rfl rfl rfl ?_
 intro w64 F64 B64
 have E65:=Ext.st E58 F64 (by simp; omega)
 have G66:Fr (b4::(b1::L)) w11 w64:=((G35.trans (Fr.ext F38)).trans (Fr.ext F52)).stp F64 (upc (.inr m56) (fun m hm=>by cases hm))
 have G67:Fr (b25::(b4::(b1::L))) w38 w64:=G60.stp F64 (upc (.inr m57) (fun m hm=>by cases hm))
 have B68:=((B36.ex F38).ex F52).fr F64 (by simp; omega)
 have B69:=((B37.ex F38).ex F52).fr F64 (by simp; omega)
 have B70:=((B33'.ex F38).ex F52).fr F64 (by simp; omega)
 have B64':Blk w64 b52 _ (cVal x38.1 A46 c47 A49 c50):=B64
 refine o_w (v:=.int .i64 x38.2) (r_asg rfl) ?_
 refine eo_r ?_
 refine o_bslice slc_s_int rfl (vs:=[.int .i64 5,.int .i64 0,.int .i64 0,.int .i64 0,.int .i64 0,.int .i64 0,.int .i64 0,.int .i64 1]) rfl rfl rfl (cs:=[.int .i64 5,.int .i64 0,.int .i64 0,.int .i64 0,.int .i64 0,.int .i64 0,.int .i64 0,.int .i64 1]) rfl rfl rfl rfl ?_
 intro b71 w71 e71 F71 B71
 have N71:=nin (((((hL.fr E65).cons B68.lt).cons B69.lt).cons B70.lt).cons B64'.lt) e71
 have S71:=B71.stb N71
 have E72:=E65.trans F71
 refine o_bslice slc_s_int rfl (vs:=[.int .i64 0,.int .i64 2,.int .i64 0,.int .i64 0,.int .i64 0,.int .i64 0,.int .i64 0,.int .i64 0]) rfl rfl rfl (cs:=[.int .i64 0,.int .i64 2,.int .i64 0,.int .i64 0,.int .i64 0,.int .i64 0,.int .i64 0,.int .i64 0]) rfl rfl rfl rfl ?_
 intro b79 w79 e79 F79 B79
 have N79:=nin (((((hL.fr E72).cons (B68.ex F71).lt).cons (B69.ex F71).lt).cons (B70.ex F71).lt).cons (B64'.ex F71).lt) e79
 have S79:=B79.stb N79
 have E80:=E72.trans F79
 have G83:Fr (b52::(b25::(b4::(b1::L)))) w71 w79:=Fr.ext F79
 have H88:Stb (b52::(b25::(b4::(b1::L)))) w79 (fun w=>SlC (kI .i64) w (some ⟨b71,0,none⟩) 8 ([(5:Int),(0:Int),(0:Int),(0:Int),(0:Int),(0:Int),(0:Int),(1:Int)]:List Int)):=bs_seal (S71.fr G83 sI).now N71 rfl (rowd_cons (cs:=[.int .i64 5]) (fun _ _=>rfl) rfl (rowd_cons (cs:=[.int .i64 0]) (fun _ _=>rfl) rfl (rowd_cons (cs:=[.int .i64 0]) (fun _ _=>rfl) rfl (rowd_cons (cs:=[.int .i64 0]) (fun _ _=>rfl) rfl (rowd_cons (cs:=[.int .i64 0]) (fun _ _=>rfl) rfl (rowd_cons (cs:=[.int .i64 0]) (fun _ _=>rfl) rfl (rowd_cons (cs:=[.int .i64 0]) (fun _ _=>rfl) rfl (rowd1 (cs:=[.int .i64 1]) (fun _ _=>rfl) rfl))))))))
 have H89:Stb (b52::(b25::(b4::(b1::L)))) w79 (fun w=>SlC (kI .i64) w (some ⟨b79,0,none⟩) 8 ([(0:Int),(2:Int),(0:Int),(0:Int),(0:Int),(0:Int),(0:Int),(0:Int)]:List Int)):=bs_seal S79.now N79 rfl (rowd_cons (cs:=[.int .i64 0]) (fun _ _=>rfl) rfl (rowd_cons (cs:=[.int .i64 2]) (fun _ _=>rfl) rfl (rowd_cons (cs:=[.int .i64 0]) (fun _ _=>rfl) rfl (rowd_cons (cs:=[.int .i64 0]) (fun _ _=>rfl) rfl (rowd_cons (cs:=[.int .i64 0]) (fun _ _=>rfl) rfl (rowd_cons (cs:=[.int .i64 0]) (fun _ _=>rfl) rfl (rowd_cons (cs:=[.int .i64 0]) (fun _ _=>rfl) rfl (rowd1 (cs:=[.int .i64 0]) (fun _ _=>rfl) rfl))))))))
 refine o_w (v:=.agg #[.int .i64 2,.int .i64 0,.int .i64 0,.bool false,str [],.slice (some ⟨b71,0,none⟩) ([(5:Int),(0:Int),(0:Int),(0:Int),(0:Int),(0:Int),(0:Int),(1:Int)]:List Int).length 8,.slice (some ⟨b79,0,none⟩) ([(0:Int),(2:Int),(0:Int),(0:Int),(0:Int),(0:Int),(0:Int),(0:Int)]:List Int).length 8,.int .u64 0]) (r_build bld_api_Value (vs:=[(0,.int .i64 2),(5,.slice (some ⟨b71,0,none⟩) 8 8),(6,.slice (some ⟨b79,0,none⟩) 8 8)]) (cells:=[.int .i64 2,.int .i64 0,.int .i64 0,.bool false,str [],.slice (some ⟨b71,0,none⟩) ([(5:Int),(0:Int),(0:Int),(0:Int),(0:Int),(0:Int),(0:Int),(1:Int)]:List Int).length 8,.slice (some ⟨b79,0,none⟩) ([(0:Int),(2:Int),(0:Int),(0:Int),(0:Int),(0:Int),(0:Int),(0:Int)]:List Int).length 8,.int .u64 0]) rfl rfl) ?_
 refine o_alloc zero_api_Value rfl rfl rfl ?_
 intro b90 w90 e90 F90 B90
 have n90:w.heap.size≤b90:=by rw [e90]; exact E80.size
 have q91:b1<b90:=by rw [e90]; exact ((B68.ex F71).ex F79).lt
 have q92:b4<b90:=by rw [e90]; exact ((B69.ex F71).ex F79).lt
 have q93:b25<b90:=by rw [e90]; exact ((B70.ex F71).ex F79).lt
 have q94:b52<b90:=by rw [e90]; exact ((B64'.ex F71).ex F79).lt
 have m95:w11.heap.size≤b90:=by rw [e90]; exact ((G66.trans (Fr.ext F71)).trans (Fr.ext F79)).size
 have m96:w38.heap.size≤b90:=by rw [e90]; exact ((G67.trans (Fr.ext F71)).trans (Fr.ext F79)).size
 have m98:w79.heap.size≤b90:=Nat.le_of_eq e90.symm
 have E99:=E80.trans F90
 have G103:Fr (b52::(b25::(b4::(b1::L)))) w79 w90:=Fr.ext F90
 refine o_store rfl B90 (vs:=[.int .i64 2,.int .i64 0,.int .i64 0,.bool false,str [],.slice (some ⟨b71,0,none⟩) ([(5:Int),(0:Int),(0:Int),(0:Int),(0:Int),(0:Int),(0:Int),(1:Int)]:List Int).length 8,.slice (some ⟨b79,0,none⟩) ([(0:Int),(2:Int),(0:Int),(0:Int),(0:Int),(0:Int),(0:Int),(0:Int)]:List Int).length 8,.int .u64 0]) rfl sz_api_Value rfl rfl rfl ?_
 intro w108 F108 B108
 have E109:=Ext.st E99 F108 (by simp; omega)
 have G110:Fr (b4::(b1::L)) w11 w108:=(((G66.trans (Fr.ext F71)).trans (Fr.ext F79)).trans (Fr.ext F90)).stp F108 (upc (.inr m95) (fun m hm=>by cases hm))
 have G111:Fr (b25::(b4::(b1::L))) w38 w108:=(((G67.trans (Fr.ext F71)).trans (Fr.ext F79)).trans (Fr.ext F90)).stp F108 (upc (.inr m96) (fun m hm=>by cases hm))
 have G113:Fr (b52::(b25::(b4::(b1::L)))) w79 w108:=G103.stp F108 (upc (.inr m98) (fun m hm=>by cases hm))
 have B114:=(((B68.ex F71).ex F79).ex F90).fr F108 (by simp; omega)
 have B115:=(((B69.ex F71).ex F79).ex F90).fr F108 (by simp; omega)
 have B116:=(((B70.ex F71).ex F79).ex F90).fr F108 (by simp; omega)
 have B117:=(((B64'.ex F71).ex F79).ex F90).fr F108 (by simp; omega)
 have B108':Blk w108 b90 _ [.int .i64 2,.int .i64 0,.int .i64 0,.bool false,str [],.slice (some ⟨b71,0,none⟩) ([(5:Int),(0:Int),(0:Int),(0:Int),(0:Int),(0:Int),(0:Int),(1:Int)]:List Int).length 8,.slice (some ⟨b79,0,none⟩) ([(0:Int),(2:Int),(0:Int),(0:Int),(0:Int),(0:Int),(0:Int),(0:Int)]:List Int).length 8,.int .u64 0]:=B108
 refine eo_r ?_
 refine o_w (v:=.agg (cVal x38.1 A46 c47 A49 c50).toArray) (r_lda agg_api_Value rfl (vs:=(cVal x38.1 A46 c47 A49 c50)) rfl (B117.part (n:=8) rfl)) ?_
 refine o_w (v:=.agg #[.int .i64 2,.int .i64 0,.int .i64 0,.bool false,str [],.slice (some ⟨b71,0,none⟩) ([(5:Int),(0:Int),(0:Int),(0:Int),(0:Int),(0:Int),(0:Int),(1:Int)]:List Int).length 8,.slice (some ⟨b79,0,none⟩) ([(0:Int),(2:Int),(0:Int),(0:Int),(0:Int),(0:Int),(0:Int),(0:Int)]:List Int).length 8,.int .u64 0]) (r_lda agg_api_Value rfl (vs:=[.int .i64 2,.int .i64 0,.int .i64 0,.bool false,str [],.slice (some ⟨b71,0,none⟩) ([(5:Int),(0:Int),(0:Int),(0:Int),(0:Int),(0:Int),(0:Int),(1:Int)]:List Int).length 8,.slice (some ⟨b79,0,none⟩) ([(0:Int),(2:Int),(0:Int),(0:Int),(0:Int),(0:Int),(0:Int),(0:Int)]:List Int).length 8,.int .u64 0]) rfl (B108'.part (n:=8) rfl)) ?_
 obtain ⟨ha119,h⟩:=h
 obtain ⟨ha120,h⟩:=h
 obtain ⟨x118,hx118,h⟩:=h
 refine o_call cf_value_Join rfl (value_Join_c x38.1 (kVal_mk (d:=x38.1) (H48.up G111 sI (upc (.inr m96) (upc (.inr m57) (upc (.inl mH) (upc (.inl (mT mH)) (upc (.inl (mT (mT mH))) (fun m hm=>Or.inl (mT (mT (mT hm)))))))))) (H51.up G111 sI (upc (.inr m96) (upc (.inr m57) (upc (.inl mH) (upc (.inl (mT mH)) (upc (.inl (mT (mT mH))) (fun m hm=>Or.inl (mT (mT (mT hm))))))))))) (⟨(2:Int),(0:Int),(0:Int),false,([]:Str),([(5:Int),(0:Int),(0:Int),(0:Int),(0:Int),(0:Int),(0:Int),(1:Int)]:List Int),([(0:Int),(2:Int),(0:Int),(0:Int),(0:Int),(0:Int),(0:Int),(0:Int)]:List Int),(0:Int)⟩:Val) (kVal_mk (d:=(⟨(2:Int),(0:Int),(0:Int),false,([]:Str),([(5:Int),(0:Int),(0:Int),(0:Int),(0:Int),(0:Int),(0:Int),(1:Int)]:List Int),([(0:Int),(2:Int),(0:Int),(0:Int),(0:Int),(0:Int),(0:Int),(0:Int)]:List Int),(0:Int)⟩:Val)) (H88.up G113 sI (upc (.inr m98) (upc (.inl mH) (upc (.inl (mT mH)) (upc (.inl (mT (mT mH))) (upc (.inl (mT (mT (mT mH)))) (fun m hm=>Or.inl (mT (mT (mT (mT hm))))))))))) (H89.up G113 sI (upc (.inr m98) (upc (.inl mH) (upc (.inl (mT mH)) (upc (.inl (mT (mT mH))) (upc (.inl (mT (mT (mT mH)))) (fun m hm=>Or.inl (mT (mT (mT (mT hm)))))))))))) ((((((hL.fr E109).cons B114.lt).cons B115.lt).cons B116.lt).cons B117.lt).cons B108'.lt) (eq_ev hx118 (valJoin_ev x38.1 (⟨(2:Int),(0:Int),(0:Int),false,([]:Str),([(5:Int),(0:Int),(0:Int),(0:Int),(0:Int),(0:Int),(0:Int),(1:Int)]:List Int),([(0:Int),(2:Int),(0:Int),(0:Int),(0:Int),(0:Int),(0:Int),(0:Int)]:List Int),(0:Int)⟩:Val) ha119 ha120))) rfl rfl ?_
 rintro _ w118 ⟨F118,cs121,rfl,H122⟩
 have E123:=E109.trans F118
 obtain ⟨A133,c134,A136,c137,rfl,H135,H138⟩:=kVal_open H122
 refine o_w (v:=.tuple #[.agg (cVal x118.1 A133 c134 A136 c137).toArray,.int .i64 x118.2]) (r_mov rfl) ?_
 refine o_w (v:=.agg (cVal x118.1 A133 c134 A136 c137).toArray) (r_ext rfl rfl) ?_
 refine o_w (v:=.int .i64 x118.2) (r_ext rfl rfl) ?_
 refine o_alloc zero_api_Value rfl rfl rfl ?_
 intro b139 w139 e139 F139 B139
 have n139:w.heap.size≤b139:=by rw [e139]; exact E123.size
 have q140:b1<b139:=by rw [e139]; exact (B114.ex F118).lt
 have q141:b4<b139:=by rw [e139]; exact (B115.ex F118).lt
 have q142:b25<b139:=by rw [e139]; exact (B116.ex F118).lt
 have q143:b52<b139:=by rw [e139]; exact (B117.ex F118).lt
 have q144:b90<b139:=by rw [e139]; exact (B108'.ex F118).lt
 have m145:w11.heap.size≤b139:=by rw [e139]; exact (G110.trans (Fr.ext F118)).size
 have m148:w79.heap.size≤b139:=by rw [e139]; exact (G113.trans (Fr.ext F118)).size
 have m149:w118.heap.size≤b139:=Nat.le_of_eq e139.symm
 have E150:=E123.trans F139
 have G155:Fr (b90::(b52::(b25::(b4::(b1::L))))) w118 w139:=Fr.ext F139
 refine o_store rfl B139 (vs:=(cVal x118.1 A133 c134 A136 c137)) rfl sz_api_Value rfl rfl rfl ?_
 intro w161 F161 B161
 have E162:=Ext.st E150 F161 (by simp; omega)
 have G163:Fr (b4::(b1::L)) w11 w161:=((G110.trans (Fr.ext F118)).trans (Fr.ext F139)).stp F161 (upc (.inr m145) (fun m hm=>by cases hm))
 have G166:Fr (b52::(b25::(b4::(b1::L)))) w79 w161:=((G113.trans (Fr.ext F118)).trans (Fr.ext F139)).stp F161 (upc (.inr m148) (fun m hm=>by cases hm))
 have G167:Fr (b90::(b52::(b25::(b4::(b1::L))))) w118 w161:=G155.stp F161 (upc (.inr m149) (fun m hm=>by cases hm))
 have B168:=((B114.ex F118).ex F139).fr F161 (by simp; omega)
 have B169:=((B115.ex F118).ex F139).fr F161 (by simp; omega)
 have B170:=((B116.ex F118).ex F139).fr F161 (by simp; omega)
 have B171:=((B117.ex F118).ex F139).fr F161 (by simp; omega)
 have B172:=((B108'.ex F118).ex F139).fr F161 (by simp; omega)
 have B161':Blk w161 b139 _ (cVal x118.1 A133 c134 A136 c137):=B161
 refine o_w (v:=.int .i64 x118.2) (r_asg rfl) ?_
 refine eo_r ?_
 refine o_w (v:=.agg #[.int .i64 3,.int .i64 0,.int .i64 0,.bool false,str [],.slice none ([]:List Int).length 0,.slice none ([]:List Int).length 0,.int .u64 5]) (r_build bld_api_Value (vs:=[(0,.int .i64 3),(7,.int .u64 5)]) (cells:=[.int .i64 3,.int .i64 0,.int .i64 0,.bool false,str [],.slice none ([]:List Int).length 0,.slice none ([]:List Int).length 0,.int .u64 5]) rfl rfl) ?_
 refine o_w (v:=.agg #[.int .i64 3,.int .i64 0,.int .i64 0,.bool false,str [],.slice none ([]:List Int).length 0,.slice none ([]:List Int).length 0,.int .u64 6]) (r_build bld_api_Value (vs:=[(0,.int .i64 3),(7,.int .u64 6)]) (cells:=[.int .i64 3,.int .i64 0,.int .i64 0,.bool false,str [],.slice none ([]:List Int).length 0,.slice none ([]:List Int).length 0,.int .u64 6]) rfl rfl) ?_
 obtain ⟨ha174,h⟩:=h
 obtain ⟨ha175,h⟩:=h
 obtain ⟨x173,hx173,h⟩:=h
 refine o_call cf_value_Join rfl (value_Join_c (⟨(3:Int),(0:Int),(0:Int),false,([]:Str),([]:List Int),([]:List Int),(5:Int)⟩:Val) (kVal_mk (d:=(⟨(3:Int),(0:Int),(0:Int),false,([]:Str),([]:List Int),([]:List Int),(5:Int)⟩:Val)) stb_nil stb_nil) (⟨(3:Int),(0:Int),(0:Int),false,([]:Str),([]:List Int),([]:List Int),(6:Int)⟩:Val) (kVal_mk (d:=(⟨(3:Int),(0:Int),(0:Int),false,([]:Str),([]:List Int),([]:List Int),(6:Int)⟩:Val)) stb_nil stb_nil) (((((((hL.fr E162).cons B168.lt).cons B169.lt).cons B170.lt).cons B171.lt).cons B172.lt).cons B161'.lt) (eq_ev hx173 (valJoin_ev (⟨(3:Int),(0:Int),(0:Int),false,([]:Str),([]:List Int),([]:List Int),(5:Int)⟩:Val) (⟨(3:Int),(0:Int),(0:Int),false,([]:Str),([]:List Int),([]:List Int),(6:Int)⟩:Val) ha174 ha175))) rfl rfl ?_
 rintro _ w173 ⟨F173,cs176,rfl,H177⟩
 have E178:=E162.trans F173
 obtain ⟨A190,c191,A193,c194,rfl,H192,H195⟩:=kVal_open H177
 refine o_w (v:=.tuple #[.agg (cVal x173.1 A190 c191 A193 c194).toArray,.int .i64 x173.2]) (r_mov rfl) ?_
 refine o_w (v:=.agg (cVal x173.1 A190 c191 A193 c194).toArray) (r_ext rfl rfl) ?_
 refine o_w (v:=.int .i64 x173.2) (r_ext rfl rfl) ?_
 refine o_alloc zero_api_Value rfl rfl rfl ?_
 intro b196 w196 e196 F196 B196
 have n196:w.heap.size≤b196:=by rw [e196]; exact E178.size
 have q197:b1<b196:=by rw [e196]; exact (B168.ex F173).lt
 have q198:b4<b196:=by rw [e196]; exact (B169.ex F173).lt
 have q199:b25<b196:=by rw [e196]; exact (B170.ex F173).lt
 have q200:b52<b196:=by rw [e196]; exact (B171.ex F173).lt
 have q201:b90<b196:=by rw [e196]; exact (B172.ex F173).lt
 have q202:b139<b196:=by rw [e196]; exact (B161'.ex F173).lt
 have m203:w11.heap.size≤b196:=by rw [e196]; exact (G163.trans (Fr.ext F173)).size
 have m206:w79.heap.size≤b196:=by rw [e196]; exact (G166.trans (Fr.ext F173)).size
 have m207:w118.heap.size≤b196:=by rw [e196]; exact (G167.trans (Fr.ext F173)).size
 have E209:=E178.trans F196
 refine o_store rfl B196 (vs:=(cVal x173.1 A190 c191 A193 c194)) rfl sz_api_Value rfl rfl rfl ?_
 intro w222 F222 B222
 have E223:=Ext.st E209 F222 (by simp; omega)
 have G224:Fr (b4::(b1::L)) w11 w222:=((G163.trans (Fr.ext F173)).trans (Fr.ext F196)).stp F222 (upc (.inr m203) (fun m hm=>by cases hm))
 have G227:Fr (b52::(b25::(b4::(b1::L)))) w79 w222:=((G166.trans (Fr.ext F173)).trans (Fr.ext F196)).stp F222 (upc (.inr m206) (fun m hm=>by cases hm))
 have G228:Fr (b90::(b52::(b25::(b4::(b1::L))))) w118 w222:=((G167.trans (Fr.ext F173)).trans (Fr.ext F196)).stp F222 (upc (.inr m207) (fun m hm=>by cases hm))
 have B230:=((B168.ex F173).ex F196).fr F222 (by simp; omega)
 have B231:=((B169.ex F173).ex F196).fr F222 (by simp; omega)
 have B232:=((B170.ex F173).ex F196).fr F222 (by simp; omega)
 have B233:=((B171.ex F173).ex F196).fr F222 (by simp; omega)
 have B234:=((B172.ex F173).ex F196).fr F222 (by simp; omega)
 have B235:=((B161'.ex F173).ex F196).fr F222 (by simp; omega)
 have B222':Blk w222 b196 _ (cVal x173.1 A190 c191 A193 c194):=B222
 refine o_w (v:=.int .i64 x173.2) (r_asg rfl) ?_
 refine eo_r ?_
 refine o_w (v:=.agg #[.int .i64 1,.int .i64 3,.int .i64 1,.bool false,str ([120]:Str),.slice none ([]:List Int).length 0,.slice none ([]:List Int).length 0,.int .u64 0]) (r_lda agg_api_Value rfl (vs:=[.int .i64 1,.int .i64 3,.int .i64 1,.bool false,str ([120]:Str),.slice none ([]:List Int).length 0,.slice none ([]:List Int).length 0,.int .u64 0]) rfl (B230.part (n:=8) rfl)) ?_
 refine o_w (v:=.agg #[.int .i64 2,.int .i64 0,.int .i64 0,.bool false,str [],.slice (some ⟨b71,0,none⟩) ([(5:Int),(0:Int),(0:Int),(0:Int),(0:Int),(0:Int),(0:Int),(1:Int)]:List Int).length 8,.slice (some ⟨b79,0,none⟩) ([(0:Int),(2:Int),(0:Int),(0:Int),(0:Int),(0:Int),(0:Int),(0:Int)]:List Int).length 8,.int .u64 0]) (r_lda agg_api_Value rfl (vs:=[.int .i64 2,.int .i64 0,.int .i64 0,.bool false,str [],.slice (some ⟨b71,0,none⟩) ([(5:Int),(0:Int),(0:Int),(0:Int),(0:Int),(0:Int),(0:Int),(1:Int)]:List Int).length 8,.slice (some ⟨b79,0,none⟩) ([(0:Int),(2:Int),(0:Int),(0:Int),(0:Int),(0:Int),(0:Int),(0:Int)]:List Int).length 8,.int .u64 0]) rfl (B234.part (n:=8) rfl)) ?_
 obtain ⟨ha237,h⟩:=h
 obtain ⟨ha238,h⟩:=h
 obtain ⟨x236,hx236,h⟩:=h
 refine o_call cf_value_Join rfl (value_Join_c (⟨(1:Int),(3:Int),(1:Int),false,([120]:Str),([]:List Int),([]:List Int),(0:Int)⟩:Val) (kVal_mk (d:=(⟨(1:Int),(3:Int),(1:Int),false,([120]:Str),([]:List Int),([]:List Int),(0:Int)⟩:Val)) stb_nil stb_nil) (⟨(2:Int),(0:Int),(0:Int),false,([]:Str),([(5:Int),(0:Int),(0:Int),(0:Int),(0:Int),(0:Int),(0:Int),(1:Int)]:List Int),([(0:Int),(2:Int),(0:Int),(0:Int),(0:Int),(0:Int),(0:Int),(0:Int)]:List Int),(0:Int)⟩:Val) (kVal_mk (d:=(⟨(2:Int),(0:Int),(0:Int),false,([]:Str),([(5:Int),(0:Int),(0:Int),(0:Int),(0:Int),(0:Int),(0:Int),(1:Int)]:List Int),([(0:Int),(2:Int),(0:Int),(0:Int),(0:Int),(0:Int),(0:Int),(0:Int)]:List Int),(0:Int)⟩:Val)) (H88.up G227 sI (upc (.inr m206) (upc (.inr m148) (upc (.inr m98) (upc (.inl mH) (upc (.inl (mT mH)) (upc (.inl (mT (mT mH))) (upc (.inl (mT (mT (mT mH)))) (fun m hm=>Or.inl (mT (mT (mT (mT hm))))))))))))) (H89.up G227 sI (upc (.inr m206) (upc (.inr m148) (upc (.inr m98) (upc (.inl mH) (upc (.inl (mT mH)) (upc (.inl (mT (mT mH))) (upc (.inl (mT (mT (mT mH)))) (fun m hm=>Or.inl (mT (mT (mT (mT hm)))))))))))))) ((((((((hL.fr E223).cons B230.lt).cons B231.lt).cons B232.lt).cons B233.lt).cons B234.lt).cons B235.lt).cons B222'.lt) (eq_ev hx236 (valJoin_ev (⟨(1:Int),(3:Int),(1:Int),false,([120]:Str),([]:List Int),([]:List Int),(0:Int)⟩:Val) (⟨(2:Int),(0:Int),(0:Int),false,([]:Str),([(5:Int),(0:Int),(0:Int),(0:Int),(0:Int),(0:Int),(0:Int),(1:Int)]:List Int),([(0:Int),(2:Int),(0:Int),(0:Int),(0:Int),(0:Int),(0:Int),(0:Int)]:List Int),(0:Int)⟩:Val) ha237 ha238))) rfl rfl ?_
 rintro _ w236 ⟨F236,cs239,rfl,H240⟩
 have E241:=E223.trans F236
 obtain ⟨A255,c256,A258,c259,rfl,H257,H260⟩:=kVal_open H240
 refine o_w (v:=.tuple #[.agg (cVal x236.1 A255 c256 A258 c259).toArray,.int .i64 x236.2]) (r_mov rfl) ?_
 refine o_w (v:=.agg (cVal x236.1 A255 c256 A258 c259).toArray) (r_ext rfl rfl) ?_
 refine o_w (v:=.int .i64 x236.2) (r_ext rfl rfl) ?_
 refine o_alloc zero_api_Value rfl rfl rfl ?_
 intro b261 w261 e261 F261 B261
 have n261:w.heap.size≤b261:=by rw [e261]; exact E241.size
 have q262:b1<b261:=by rw [e261]; exact (B230.ex F236).lt
 have q263:b4<b261:=by rw [e261]; exact (B231.ex F236).lt
 have q264:b25<b261:=by rw [e261]; exact (B232.ex F236).lt
 have q265:b52<b261:=by rw [e261]; exact (B233.ex F236).lt
 have q266:b90<b261:=by rw [e261]; exact (B234.ex F236).lt
 have q267:b139<b261:=by rw [e261]; exact (B235.ex F236).lt
 have q268:b196<b261:=by rw [e261]; exact (B222'.ex F236).lt
 have m269:w11.heap.size≤b261:=by rw [e261]; exact (G224.trans (Fr.ext F236)).size
 have m272:w79.heap.size≤b261:=by rw [e261]; exact (G227.trans (Fr.ext F236)).size
 have m273:w118.heap.size≤b261:=by rw [e261]; exact (G228.trans (Fr.ext F236)).size
 have E276:=E241.trans F261
 refine o_store rfl B261 (vs:=(cVal x236.1 A255 c256 A258 c259)) rfl sz_api_Value rfl rfl rfl ?_
 intro w291 F291 B291
 have E292:=Ext.st E276 F291 (by simp; omega)
 have G293:Fr (b4::(b1::L)) w11 w291:=((G224.trans (Fr.ext F236)).trans (Fr.ext F261)).stp F291 (upc (.inr m269) (fun m hm=>by cases hm))
 have G296:Fr (b52::(b25::(b4::(b1::L)))) w79 w291:=((G227.trans (Fr.ext F236)).trans (Fr.ext F261)).stp F291 (upc (.inr m272) (fun m hm=>by cases hm))
 have G297:Fr (b90::(b52::(b25::(b4::(b1::L))))) w118 w291:=((G228.trans (Fr.ext F236)).trans (Fr.ext F261)).stp F291 (upc (.inr m273) (fun m hm=>by cases hm))
 have B300:=((B230.ex F236).ex F261).fr F291 (by simp; omega)
 have B301:=((B231.ex F236).ex F261).fr F291 (by simp; omega)
 have B302:=((B232.ex F236).ex F261).fr F291 (by simp; omega)
 have B303:=((B233.ex F236).ex F261).fr F291 (by simp; omega)
 have B304:=((B234.ex F236).ex F261).fr F291 (by simp; omega)
 have B305:=((B235.ex F236).ex F261).fr F291 (by simp; omega)
 have B306:=((B222'.ex F236).ex F261).fr F291 (by simp; omega)
 have B291':Blk w291 b261 _ (cVal x236.1 A255 c256 A258 c259):=B291
 refine o_w (v:=.int .i64 x236.2) (r_asg rfl) ?_
 refine eo_r ?_
 refine o_w (v:=.agg #[.int .i64 1,.int .i64 3,.int .i64 1,.bool false,str ([120]:Str),.slice none ([]:List Int).length 0,.slice none ([]:List Int).length 0,.int .u64 0]) (r_lda agg_api_Value rfl (vs:=[.int .i64 1,.int .i64 3,.int .i64 1,.bool false,str ([120]:Str),.slice none ([]:List Int).length 0,.slice none ([]:List Int).length 0,.int .u64 0]) rfl (B300.part (n:=8) rfl)) ?_
 refine o_w (v:=.agg #[.int .i64 0,.int .i64 0,.int .i64 0,.bool false,str [],.slice none ([]:List Int).length 0,.slice none ([]:List Int).length 0,.int .u64 0]) (r_build bld_api_Value (vs:=[]) (cells:=[.int .i64 0,.int .i64 0,.int .i64 0,.bool false,str [],.slice none ([]:List Int).length 0,.slice none ([]:List Int).length 0,.int .u64 0]) rfl rfl) ?_
 obtain ⟨ha308,h⟩:=h
 obtain ⟨ha309,h⟩:=h
 obtain ⟨x307,hx307,h⟩:=h
 refine o_call cf_value_Join rfl (value_Join_c (⟨(1:Int),(3:Int),(1:Int),false,([120]:Str),([]:List Int),([]:List Int),(0:Int)⟩:Val) (kVal_mk (d:=(⟨(1:Int),(3:Int),(1:Int),false,([120]:Str),([]:List Int),([]:List Int),(0:Int)⟩:Val)) stb_nil stb_nil) (⟨(0:Int),(0:Int),(0:Int),false,([]:Str),([]:List Int),([]:List Int),(0:Int)⟩:Val) (kVal_mk (d:=(⟨(0:Int),(0:Int),(0:Int),false,([]:Str),([]:List Int),([]:List Int),(0:Int)⟩:Val)) stb_nil stb_nil) (((((((((hL.fr E292).cons B300.lt).cons B301.lt).cons B302.lt).cons B303.lt).cons B304.lt).cons B305.lt).cons B306.lt).cons B291'.lt) (eq_ev hx307 (valJoin_ev (⟨(1:Int),(3:Int),(1:Int),false,([120]:Str),([]:List Int),([]:List Int),(0:Int)⟩:Val) (⟨(0:Int),(0:Int),(0:Int),false,([]:Str),([]:List Int),([]:List Int),(0:Int)⟩:Val) ha308 ha309))) rfl rfl ?_
 rintro _ w307 ⟨F307,cs310,rfl,H311⟩
 have E312:=E292.trans F307
 obtain ⟨A328,c329,A331,c332,rfl,H330,H333⟩:=kVal_open H311
 refine o_w (v:=.tuple #[.agg (cVal x307.1 A328 c329 A331 c332).toArray,.int .i64 x307.2]) (r_mov rfl) ?_
 refine o_w (v:=.agg (cVal x307.1 A328 c329 A331 c332).toArray) (r_ext rfl rfl) ?_
 refine o_w (v:=.int .i64 x307.2) (r_ext rfl rfl) ?_
 refine o_alloc zero_api_Value rfl rfl rfl ?_
 intro b334 w334 e334 F334 B334
 have n334:w.heap.size≤b334:=by rw [e334]; exact E312.size
 have q335:b1<b334:=by rw [e334]; exact (B300.ex F307).lt
 have q336:b4<b334:=by rw [e334]; exact (B301.ex F307).lt
 have q337:b25<b334:=by rw [e334]; exact (B302.ex F307).lt
 have q338:b52<b334:=by rw [e334]; exact (B303.ex F307).lt
 have q339:b90<b334:=by rw [e334]; exact (B304.ex F307).lt
 have q340:b139<b334:=by rw [e334]; exact (B305.ex F307).lt
 have q341:b196<b334:=by rw [e334]; exact (B306.ex F307).lt
 have q342:b261<b334:=by rw [e334]; exact (B291'.ex F307).lt
 have m343:w11.heap.size≤b334:=by rw [e334]; exact (G293.trans (Fr.ext F307)).size
 have m346:w79.heap.size≤b334:=by rw [e334]; exact (G296.trans (Fr.ext F307)).size
 have m347:w118.heap.size≤b334:=by rw [e334]; exact (G297.trans (Fr.ext F307)).size
 have E351:=E312.trans F334
 refine o_store rfl B334 (vs:=(cVal x307.1 A328 c329 A331 c332)) rfl sz_api_Value rfl rfl rfl ?_
 intro w368 F368 B368
 have E369:=Ext.st E351 F368 (by simp; omega)
 have G370:Fr (b4::(b1::L)) w11 w368:=((G293.trans (Fr.ext F307)).trans (Fr.ext F334)).stp F368 (upc (.inr m343) (fun m hm=>by cases hm))
 have G373:Fr (b52::(b25::(b4::(b1::L)))) w79 w368:=((G296.trans (Fr.ext F307)).trans (Fr.ext F334)).stp F368 (upc (.inr m346) (fun m hm=>by cases hm))
 have G374:Fr (b90::(b52::(b25::(b4::(b1::L))))) w118 w368:=((G297.trans (Fr.ext F307)).trans (Fr.ext F334)).stp F368 (upc (.inr m347) (fun m hm=>by cases hm))
 have B378:=((B300.ex F307).ex F334).fr F368 (by simp; omega)
 have B379:=((B301.ex F307).ex F334).fr F368 (by simp; omega)
 have B380:=((B302.ex F307).ex F334).fr F368 (by simp; omega)
 have B381:=((B303.ex F307).ex F334).fr F368 (by simp; omega)
 have B382:=((B304.ex F307).ex F334).fr F368 (by simp; omega)
 have B383:=((B305.ex F307).ex F334).fr F368 (by simp; omega)
 have B384:=((B306.ex F307).ex F334).fr F368 (by simp; omega)
 have B385:=((B291'.ex F307).ex F334).fr F368 (by simp; omega)
 have B368':Blk w368 b334 _ (cVal x307.1 A328 c329 A331 c332):=B368
 refine o_w (v:=.int .i64 x307.2) (r_asg rfl) ?_
 refine eo_r ?_
 obtain ⟨x386,hx386,h⟩:=h
 refine o_call cf_value_Least rfl (value_Least_c (4:Int) ((((((((((hL.fr E369).cons B378.lt).cons B379.lt).cons B380.lt).cons B381.lt).cons B382.lt).cons B383.lt).cons B384.lt).cons B385.lt).cons B368'.lt) (eq_ev hx386 (valLeast_ev (4:Int)))) rfl rfl ?_
 rintro _ w386 ⟨F386,cs387,rfl,H388⟩
 have E389:=E369.trans F386
 obtain ⟨A407,c408,A410,c411,rfl,H409,H412⟩:=kVal_open H388
 refine o_w (v:=.tuple #[.agg (cVal x386.1 A407 c408 A410 c411).toArray,.int .i64 x386.2]) (r_mov rfl) ?_
 refine o_w (v:=.agg (cVal x386.1 A407 c408 A410 c411).toArray) (r_ext rfl rfl) ?_
 refine o_w (v:=.int .i64 x386.2) (r_ext rfl rfl) ?_
 refine o_alloc zero_api_Value rfl rfl rfl ?_
 intro b413 w413 e413 F413 B413
 have n413:w.heap.size≤b413:=by rw [e413]; exact E389.size
 have q414:b1<b413:=by rw [e413]; exact (B378.ex F386).lt
 have q415:b4<b413:=by rw [e413]; exact (B379.ex F386).lt
 have q416:b25<b413:=by rw [e413]; exact (B380.ex F386).lt
 have q417:b52<b413:=by rw [e413]; exact (B381.ex F386).lt
 have q418:b90<b413:=by rw [e413]; exact (B382.ex F386).lt
 have q419:b139<b413:=by rw [e413]; exact (B383.ex F386).lt
 have q420:b196<b413:=by rw [e413]; exact (B384.ex F386).lt
 have q421:b261<b413:=by rw [e413]; exact (B385.ex F386).lt
 have q422:b334<b413:=by rw [e413]; exact (B368'.ex F386).lt
 have m423:w11.heap.size≤b413:=by rw [e413]; exact (G370.trans (Fr.ext F386)).size
 have m426:w79.heap.size≤b413:=by rw [e413]; exact (G373.trans (Fr.ext F386)).size
 have m427:w118.heap.size≤b413:=by rw [e413]; exact (G374.trans (Fr.ext F386)).size
 have E432:=E389.trans F413
 refine o_store rfl B413 (vs:=(cVal x386.1 A407 c408 A410 c411)) rfl sz_api_Value rfl rfl rfl ?_
 intro w451 F451 B451
 have E452:=Ext.st E432 F451 (by simp; omega)
 have G453:Fr (b4::(b1::L)) w11 w451:=((G370.trans (Fr.ext F386)).trans (Fr.ext F413)).stp F451 (upc (.inr m423) (fun m hm=>by cases hm))
 have G456:Fr (b52::(b25::(b4::(b1::L)))) w79 w451:=((G373.trans (Fr.ext F386)).trans (Fr.ext F413)).stp F451 (upc (.inr m426) (fun m hm=>by cases hm))
 have G457:Fr (b90::(b52::(b25::(b4::(b1::L))))) w118 w451:=((G374.trans (Fr.ext F386)).trans (Fr.ext F413)).stp F451 (upc (.inr m427) (fun m hm=>by cases hm))
 have B462:=((B378.ex F386).ex F413).fr F451 (by simp; omega)
 have B463:=((B379.ex F386).ex F413).fr F451 (by simp; omega)
 have B464:=((B380.ex F386).ex F413).fr F451 (by simp; omega)
 have B465:=((B381.ex F386).ex F413).fr F451 (by simp; omega)
 have B466:=((B382.ex F386).ex F413).fr F451 (by simp; omega)
 have B467:=((B383.ex F386).ex F413).fr F451 (by simp; omega)
 have B468:=((B384.ex F386).ex F413).fr F451 (by simp; omega)
 have B469:=((B385.ex F386).ex F413).fr F451 (by simp; omega)
 have B470:=((B368'.ex F386).ex F413).fr F451 (by simp; omega)
 have B451':Blk w451 b413 _ (cVal x386.1 A407 c408 A410 c411):=B451
 refine o_w (v:=.int .i64 x386.2) (r_asg rfl) ?_
 refine eo_r ?_
 refine o_w (v:=.agg (cVal x11.1 A19 c20 A22 c23).toArray) (r_lda agg_api_Value rfl (vs:=(cVal x11.1 A19 c20 A22 c23)) rfl (B464.part (n:=8) rfl)) ?_
 refine o_w (v:=.agg #[.int .i64 1,.int .i64 3,.int .i64 2,.bool false,str ([97]:Str),.slice none ([]:List Int).length 0,.slice none ([]:List Int).length 0,.int .u64 0]) (r_lda agg_api_Value rfl (vs:=[.int .i64 1,.int .i64 3,.int .i64 2,.bool false,str ([97]:Str),.slice none ([]:List Int).length 0,.slice none ([]:List Int).length 0,.int .u64 0]) rfl (B463.part (n:=8) rfl)) ?_
 obtain ⟨ha479,h⟩:=h
 obtain ⟨x478,hx478,h⟩:=h
 refine o_call cf_value_Same rfl (value_Same_c x11.1 (kVal_mk (d:=x11.1) (H21.up G453 sI (upc (.inr m423) (upc (.inr m343) (upc (.inr m269) (upc (.inr m203) (upc (.inr m145) (upc (.inr m95) (upc (.inr m56) (upc (.inr m28) (upc (.inl mH) (upc (.inl (mT mH)) (fun m hm=>Or.inl (mT (mT hm)))))))))))))) (H24.up G453 sI (upc (.inr m423) (upc (.inr m343) (upc (.inr m269) (upc (.inr m203) (upc (.inr m145) (upc (.inr m95) (upc (.inr m56) (upc (.inr m28) (upc (.inl mH) (upc (.inl (mT mH)) (fun m hm=>Or.inl (mT (mT hm))))))))))))))) (⟨(1:Int),(3:Int),(2:Int),false,([97]:Str),([]:List Int),([]:List Int),(0:Int)⟩:Val) (kVal_mk (d:=(⟨(1:Int),(3:Int),(2:Int),false,([97]:Str),([]:List Int),([]:List Int),(0:Int)⟩:Val)) stb_nil stb_nil) (((((((((((hL.fr E452).cons B462.lt).cons B463.lt).cons B464.lt).cons B465.lt).cons B466.lt).cons B467.lt).cons B468.lt).cons B469.lt).cons B470.lt).cons B451'.lt) (eq_ev hx478 (valSame_ev x11.1 (⟨(1:Int),(3:Int),(2:Int),false,([97]:Str),([]:List Int),([]:List Int),(0:Int)⟩:Val) ha479))) rfl rfl ?_
 rintro _ w478 ⟨F478,rfl⟩
 have E480:=E452.trans F478
 refine o_w (v:=.bool x478) (r_mov rfl) ?_
 refine o_vg (v:=.int .i64 x11.2) (want_ct (t:=64) rfl rfl) (fun hk=>(r_mov rfl)) rfl rfl ?_
 refine o_vg (v:=.bool (x11.2==0)) (want_ct (t:=64) rfl rfl) (fun hk=>(r_int (gdT hk) rfl rfl)) rfl rfl ?_
 refine o_w (v:=.bool (x478&&(x11.2==0))) (r_pickAnd rfl (fun ht=>(gdT ht)) rfl) ?_
 refine o_w (v:=.bool (x478&&(x11.2==0))) (r_mov rfl) ?_
 refine o_vg (v:=.int .i64 x38.2) (want_ct (t:=68) rfl rfl) (fun hk=>(r_mov rfl)) rfl rfl ?_
 refine o_vg (v:=.bool (x38.2==0)) (want_ct (t:=68) rfl rfl) (fun hk=>(r_int (gdT hk) rfl rfl)) rfl rfl ?_
 refine o_w (v:=.bool ((x478&&(x11.2==0))&&(x38.2==0))) (r_pickAnd rfl (fun ht=>(gdT ht)) rfl) ?_
 refine o_w (v:=.bool ((x478&&(x11.2==0))&&(x38.2==0))) (r_mov rfl) ?_
 refine o_vg (v:=.agg (cVal x118.1 A133 c134 A136 c137).toArray) (want_ct (t:=72) rfl rfl) (fun hk=>(r_lda agg_api_Value rfl (vs:=(cVal x118.1 A133 c134 A136 c137)) rfl ((B467.ex F478).part (n:=8) rfl))) rfl rfl ?_
 refine o_vg (v:=.agg #[.int .i64 2,.int .i64 0,.int .i64 0,.bool false,str [],.slice (some ⟨b71,0,none⟩) ([(5:Int),(0:Int),(0:Int),(0:Int),(0:Int),(0:Int),(0:Int),(1:Int)]:List Int).length 8,.slice (some ⟨b79,0,none⟩) ([(0:Int),(2:Int),(0:Int),(0:Int),(0:Int),(0:Int),(0:Int),(0:Int)]:List Int).length 8,.int .u64 0]) (want_ct (t:=72) rfl rfl) (fun hk=>(r_lda agg_api_Value rfl (vs:=[.int .i64 2,.int .i64 0,.int .i64 0,.bool false,str [],.slice (some ⟨b71,0,none⟩) ([(5:Int),(0:Int),(0:Int),(0:Int),(0:Int),(0:Int),(0:Int),(1:Int)]:List Int).length 8,.slice (some ⟨b79,0,none⟩) ([(0:Int),(2:Int),(0:Int),(0:Int),(0:Int),(0:Int),(0:Int),(0:Int)]:List Int).length 8,.int .u64 0]) rfl ((B466.ex F478).part (n:=8) rfl))) rfl rfl ?_
 obtain ⟨ha501,h⟩:=h
 refine o_callg (V:=.bool (sameV x118.1 (⟨(2:Int),(0:Int),(0:Int),false,([]:Str),([(5:Int),(0:Int),(0:Int),(0:Int),(0:Int),(0:Int),(0:Int),(1:Int)]:List Int),([(0:Int),(2:Int),(0:Int),(0:Int),(0:Int),(0:Int),(0:Int),(0:Int)]:List Int),(0:Int)⟩:Val))) cf_value_Same (want_ct (t:=72) rfl rfl) (fun hk=>(mapv2 (gdT hk) (gdT hk))) (fun hk=>(value_Same_c x118.1 (kVal_mk (d:=x118.1) (H135.up (G457.trans (Fr.ext F478)) sI (upc (.inr m427) (upc (.inr m347) (upc (.inr m273) (upc (.inr m207) (upc (.inr m149) (upc (.inl mH) (upc (.inl (mT mH)) (upc (.inl (mT (mT mH))) (upc (.inl (mT (mT (mT mH)))) (upc (.inl (mT (mT (mT (mT mH))))) (fun m hm=>Or.inl (mT (mT (mT (mT (mT hm))))))))))))))))) (H138.up (G457.trans (Fr.ext F478)) sI (upc (.inr m427) (upc (.inr m347) (upc (.inr m273) (upc (.inr m207) (upc (.inr m149) (upc (.inl mH) (upc (.inl (mT mH)) (upc (.inl (mT (mT mH))) (upc (.inl (mT (mT (mT mH)))) (upc (.inl (mT (mT (mT (mT mH))))) (fun m hm=>Or.inl (mT (mT (mT (mT (mT hm)))))))))))))))))) (⟨(2:Int),(0:Int),(0:Int),false,([]:Str),([(5:Int),(0:Int),(0:Int),(0:Int),(0:Int),(0:Int),(0:Int),(1:Int)]:List Int),([(0:Int),(2:Int),(0:Int),(0:Int),(0:Int),(0:Int),(0:Int),(0:Int)]:List Int),(0:Int)⟩:Val) (kVal_mk (d:=(⟨(2:Int),(0:Int),(0:Int),false,([]:Str),([(5:Int),(0:Int),(0:Int),(0:Int),(0:Int),(0:Int),(0:Int),(1:Int)]:List Int),([(0:Int),(2:Int),(0:Int),(0:Int),(0:Int),(0:Int),(0:Int),(0:Int)]:List Int),(0:Int)⟩:Val)) (H88.up (G456.trans (Fr.ext F478)) sI (upc (.inr m426) (upc (.inr m346) (upc (.inr m272) (upc (.inr m206) (upc (.inr m148) (upc (.inr m98) (upc (.inl mH) (upc (.inl (mT mH)) (upc (.inl (mT (mT mH))) (upc (.inl (mT (mT (mT mH)))) (fun m hm=>Or.inl (mT (mT (mT (mT hm)))))))))))))))) (H89.up (G456.trans (Fr.ext F478)) sI (upc (.inr m426) (upc (.inr m346) (upc (.inr m272) (upc (.inr m206) (upc (.inr m148) (upc (.inr m98) (upc (.inl mH) (upc (.inl (mT mH)) (upc (.inl (mT (mT mH))) (upc (.inl (mT (mT (mT mH)))) (fun m hm=>Or.inl (mT (mT (mT (mT hm))))))))))))))))) (((((((((((hL.fr E480).cons (B462.ex F478).lt).cons (B463.ex F478).lt).cons (B464.ex F478).lt).cons (B465.ex F478).lt).cons (B466.ex F478).lt).cons (B467.ex F478).lt).cons (B468.ex F478).lt).cons (B469.ex F478).lt).cons (B470.ex F478).lt).cons (B451'.ex F478).lt) (valSame_ev x118.1 (⟨(2:Int),(0:Int),(0:Int),false,([]:Str),([(5:Int),(0:Int),(0:Int),(0:Int),(0:Int),(0:Int),(0:Int),(1:Int)]:List Int),([(0:Int),(2:Int),(0:Int),(0:Int),(0:Int),(0:Int),(0:Int),(0:Int)]:List Int),(0:Int)⟩:Val) (ha501 hk)))) rfl ?_
 intro w500 F500
 have E502:=E480.trans F500
 refine o_w (v:=.bool (((x478&&(x11.2==0))&&(x38.2==0))&&(sameV x118.1 (⟨(2:Int),(0:Int),(0:Int),false,([]:Str),([(5:Int),(0:Int),(0:Int),(0:Int),(0:Int),(0:Int),(0:Int),(1:Int)]:List Int),([(0:Int),(2:Int),(0:Int),(0:Int),(0:Int),(0:Int),(0:Int),(0:Int)]:List Int),(0:Int)⟩:Val)))) (r_pickAnd rfl (fun ht=>(gdT ht)) rfl) ?_
 refine o_w (v:=.bool (((x478&&(x11.2==0))&&(x38.2==0))&&(sameV x118.1 (⟨(2:Int),(0:Int),(0:Int),false,([]:Str),([(5:Int),(0:Int),(0:Int),(0:Int),(0:Int),(0:Int),(0:Int),(1:Int)]:List Int),([(0:Int),(2:Int),(0:Int),(0:Int),(0:Int),(0:Int),(0:Int),(0:Int)]:List Int),(0:Int)⟩:Val)))) (r_mov rfl) ?_
 refine o_vg (v:=.int .i64 x118.2) (want_ct (t:=77) rfl rfl) (fun hk=>(r_mov rfl)) rfl rfl ?_
 refine o_vg (v:=.bool (x118.2==0)) (want_ct (t:=77) rfl rfl) (fun hk=>(r_int (gdT hk) rfl rfl)) rfl rfl ?_
 refine o_w (v:=.bool ((((x478&&(x11.2==0))&&(x38.2==0))&&(sameV x118.1 (⟨(2:Int),(0:Int),(0:Int),false,([]:Str),([(5:Int),(0:Int),(0:Int),(0:Int),(0:Int),(0:Int),(0:Int),(1:Int)]:List Int),([(0:Int),(2:Int),(0:Int),(0:Int),(0:Int),(0:Int),(0:Int),(0:Int)]:List Int),(0:Int)⟩:Val)))&&(x118.2==0))) (r_pickAnd rfl (fun ht=>(gdT ht)) rfl) ?_
 refine o_w (v:=.bool ((((x478&&(x11.2==0))&&(x38.2==0))&&(sameV x118.1 (⟨(2:Int),(0:Int),(0:Int),false,([]:Str),([(5:Int),(0:Int),(0:Int),(0:Int),(0:Int),(0:Int),(0:Int),(1:Int)]:List Int),([(0:Int),(2:Int),(0:Int),(0:Int),(0:Int),(0:Int),(0:Int),(0:Int)]:List Int),(0:Int)⟩:Val)))&&(x118.2==0))) (r_mov rfl) ?_
 refine o_vg (v:=.agg #[.int .i64 2,.int .i64 0,.int .i64 0,.bool false,str [],.slice (some ⟨b71,0,none⟩) ([(5:Int),(0:Int),(0:Int),(0:Int),(0:Int),(0:Int),(0:Int),(1:Int)]:List Int).length 8,.slice (some ⟨b79,0,none⟩) ([(0:Int),(2:Int),(0:Int),(0:Int),(0:Int),(0:Int),(0:Int),(0:Int)]:List Int).length 8,.int .u64 0]) (want_ct (t:=81) rfl rfl) (fun hk=>(r_lda agg_api_Value rfl (vs:=[.int .i64 2,.int .i64 0,.int .i64 0,.bool false,str [],.slice (some ⟨b71,0,none⟩) ([(5:Int),(0:Int),(0:Int),(0:Int),(0:Int),(0:Int),(0:Int),(1:Int)]:List Int).length 8,.slice (some ⟨b79,0,none⟩) ([(0:Int),(2:Int),(0:Int),(0:Int),(0:Int),(0:Int),(0:Int),(0:Int)]:List Int).length 8,.int .u64 0]) rfl (((B466.ex F478).ex F500).part (n:=8) rfl))) rfl rfl ?_
 obtain ⟨ha523,h⟩:=h
 refine o_callg (V:=.int .i64 (sumV (⟨(2:Int),(0:Int),(0:Int),false,([]:Str),([(5:Int),(0:Int),(0:Int),(0:Int),(0:Int),(0:Int),(0:Int),(1:Int)]:List Int),([(0:Int),(2:Int),(0:Int),(0:Int),(0:Int),(0:Int),(0:Int),(0:Int)]:List Int),(0:Int)⟩:Val))) cf_value_Sum (want_ct (t:=81) rfl rfl) (fun hk=>(mapv1 (gdT hk))) (fun hk=>(value_Sum_c (⟨(2:Int),(0:Int),(0:Int),false,([]:Str),([(5:Int),(0:Int),(0:Int),(0:Int),(0:Int),(0:Int),(0:Int),(1:Int)]:List Int),([(0:Int),(2:Int),(0:Int),(0:Int),(0:Int),(0:Int),(0:Int),(0:Int)]:List Int),(0:Int)⟩:Val) (kVal_mk (d:=(⟨(2:Int),(0:Int),(0:Int),false,([]:Str),([(5:Int),(0:Int),(0:Int),(0:Int),(0:Int),(0:Int),(0:Int),(1:Int)]:List Int),([(0:Int),(2:Int),(0:Int),(0:Int),(0:Int),(0:Int),(0:Int),(0:Int)]:List Int),(0:Int)⟩:Val)) (H88.up ((G456.trans (Fr.ext F478)).trans (Fr.ext F500)) sI (upc (.inr m426) (upc (.inr m346) (upc (.inr m272) (upc (.inr m206) (upc (.inr m148) (upc (.inr m98) (upc (.inl mH) (upc (.inl (mT mH)) (upc (.inl (mT (mT mH))) (upc (.inl (mT (mT (mT mH)))) (fun m hm=>Or.inl (mT (mT (mT (mT hm)))))))))))))))) (H89.up ((G456.trans (Fr.ext F478)).trans (Fr.ext F500)) sI (upc (.inr m426) (upc (.inr m346) (upc (.inr m272) (upc (.inr m206) (upc (.inr m148) (upc (.inr m98) (upc (.inl mH) (upc (.inl (mT mH)) (upc (.inl (mT (mT mH))) (upc (.inl (mT (mT (mT mH)))) (fun m hm=>Or.inl (mT (mT (mT (mT hm))))))))))))))))) (((((((((((hL.fr E502).cons ((B462.ex F478).ex F500).lt).cons ((B463.ex F478).ex F500).lt).cons ((B464.ex F478).ex F500).lt).cons ((B465.ex F478).ex F500).lt).cons ((B466.ex F478).ex F500).lt).cons ((B467.ex F478).ex F500).lt).cons ((B468.ex F478).ex F500).lt).cons ((B469.ex F478).ex F500).lt).cons ((B470.ex F478).ex F500).lt).cons ((B451'.ex F478).ex F500).lt) (valSum_ev (⟨(2:Int),(0:Int),(0:Int),false,([]:Str),([(5:Int),(0:Int),(0:Int),(0:Int),(0:Int),(0:Int),(0:Int),(1:Int)]:List Int),([(0:Int),(2:Int),(0:Int),(0:Int),(0:Int),(0:Int),(0:Int),(0:Int)]:List Int),(0:Int)⟩:Val) (ha523 hk)))) rfl ?_
 intro w522 F522
 have E524:=E502.trans F522
 refine o_vg (v:=.bool ((sumV (⟨(2:Int),(0:Int),(0:Int),false,([]:Str),([(5:Int),(0:Int),(0:Int),(0:Int),(0:Int),(0:Int),(0:Int),(1:Int)]:List Int),([(0:Int),(2:Int),(0:Int),(0:Int),(0:Int),(0:Int),(0:Int),(0:Int)]:List Int),(0:Int)⟩:Val))==4)) (want_ct (t:=81) rfl rfl) (fun hk=>(r_int (gdT hk) rfl rfl)) rfl rfl ?_
 refine o_w (v:=.bool (((((x478&&(x11.2==0))&&(x38.2==0))&&(sameV x118.1 (⟨(2:Int),(0:Int),(0:Int),false,([]:Str),([(5:Int),(0:Int),(0:Int),(0:Int),(0:Int),(0:Int),(0:Int),(1:Int)]:List Int),([(0:Int),(2:Int),(0:Int),(0:Int),(0:Int),(0:Int),(0:Int),(0:Int)]:List Int),(0:Int)⟩:Val)))&&(x118.2==0))&&((sumV (⟨(2:Int),(0:Int),(0:Int),false,([]:Str),([(5:Int),(0:Int),(0:Int),(0:Int),(0:Int),(0:Int),(0:Int),(1:Int)]:List Int),([(0:Int),(2:Int),(0:Int),(0:Int),(0:Int),(0:Int),(0:Int),(0:Int)]:List Int),(0:Int)⟩:Val))==4))) (r_pickAnd rfl (fun ht=>(gdT ht)) rfl) ?_
 refine o_w (v:=.bool (((((x478&&(x11.2==0))&&(x38.2==0))&&(sameV x118.1 (⟨(2:Int),(0:Int),(0:Int),false,([]:Str),([(5:Int),(0:Int),(0:Int),(0:Int),(0:Int),(0:Int),(0:Int),(1:Int)]:List Int),([(0:Int),(2:Int),(0:Int),(0:Int),(0:Int),(0:Int),(0:Int),(0:Int)]:List Int),(0:Int)⟩:Val)))&&(x118.2==0))&&((sumV (⟨(2:Int),(0:Int),(0:Int),false,([]:Str),([(5:Int),(0:Int),(0:Int),(0:Int),(0:Int),(0:Int),(0:Int),(1:Int)]:List Int),([(0:Int),(2:Int),(0:Int),(0:Int),(0:Int),(0:Int),(0:Int),(0:Int)]:List Int),(0:Int)⟩:Val))==4))) (r_mov rfl) ?_
 refine o_vg (v:=.pointer (some ⟨b196,7,none⟩)) (want_ct (t:=86) rfl rfl) (fun hk=>(r_fa fld_api_Value_7 rfl rfl)) rfl rfl ?_
 refine o_vg (v:=.int .u64 x173.1.flags) (want_ct (t:=86) rfl rfl) (fun hk=>(r_ld one_uint64 (gdT hk) ((((B468.ex F478).ex F500).ex F522).cell rfl))) rfl rfl ?_
 refine o_vg (v:=.bool (x173.1.flags==7)) (want_ct (t:=86) rfl rfl) (fun hk=>(r_int (gdT hk) rfl rfl)) rfl rfl ?_
 refine o_w (v:=.bool ((((((x478&&(x11.2==0))&&(x38.2==0))&&(sameV x118.1 (⟨(2:Int),(0:Int),(0:Int),false,([]:Str),([(5:Int),(0:Int),(0:Int),(0:Int),(0:Int),(0:Int),(0:Int),(1:Int)]:List Int),([(0:Int),(2:Int),(0:Int),(0:Int),(0:Int),(0:Int),(0:Int),(0:Int)]:List Int),(0:Int)⟩:Val)))&&(x118.2==0))&&((sumV (⟨(2:Int),(0:Int),(0:Int),false,([]:Str),([(5:Int),(0:Int),(0:Int),(0:Int),(0:Int),(0:Int),(0:Int),(1:Int)]:List Int),([(0:Int),(2:Int),(0:Int),(0:Int),(0:Int),(0:Int),(0:Int),(0:Int)]:List Int),(0:Int)⟩:Val))==4))&&(x173.1.flags==7))) (r_pickAnd rfl (fun ht=>(gdT ht)) rfl) ?_
 refine o_w (v:=.bool ((((((x478&&(x11.2==0))&&(x38.2==0))&&(sameV x118.1 (⟨(2:Int),(0:Int),(0:Int),false,([]:Str),([(5:Int),(0:Int),(0:Int),(0:Int),(0:Int),(0:Int),(0:Int),(1:Int)]:List Int),([(0:Int),(2:Int),(0:Int),(0:Int),(0:Int),(0:Int),(0:Int),(0:Int)]:List Int),(0:Int)⟩:Val)))&&(x118.2==0))&&((sumV (⟨(2:Int),(0:Int),(0:Int),false,([]:Str),([(5:Int),(0:Int),(0:Int),(0:Int),(0:Int),(0:Int),(0:Int),(1:Int)]:List Int),([(0:Int),(2:Int),(0:Int),(0:Int),(0:Int),(0:Int),(0:Int),(0:Int)]:List Int),(0:Int)⟩:Val))==4))&&(x173.1.flags==7))) (r_mov rfl) ?_
 refine o_vg (v:=.int .i64 x173.2) (want_ct (t:=91) rfl rfl) (fun hk=>(r_mov rfl)) rfl rfl ?_
 refine o_vg (v:=.bool (x173.2==0)) (want_ct (t:=91) rfl rfl) (fun hk=>(r_int (gdT hk) rfl rfl)) rfl rfl ?_
 refine o_w (v:=.bool (((((((x478&&(x11.2==0))&&(x38.2==0))&&(sameV x118.1 (⟨(2:Int),(0:Int),(0:Int),false,([]:Str),([(5:Int),(0:Int),(0:Int),(0:Int),(0:Int),(0:Int),(0:Int),(1:Int)]:List Int),([(0:Int),(2:Int),(0:Int),(0:Int),(0:Int),(0:Int),(0:Int),(0:Int)]:List Int),(0:Int)⟩:Val)))&&(x118.2==0))&&((sumV (⟨(2:Int),(0:Int),(0:Int),false,([]:Str),([(5:Int),(0:Int),(0:Int),(0:Int),(0:Int),(0:Int),(0:Int),(1:Int)]:List Int),([(0:Int),(2:Int),(0:Int),(0:Int),(0:Int),(0:Int),(0:Int),(0:Int)]:List Int),(0:Int)⟩:Val))==4))&&(x173.1.flags==7))&&(x173.2==0))) (r_pickAnd rfl (fun ht=>(gdT ht)) rfl) ?_
 refine o_w (v:=.bool (((((((x478&&(x11.2==0))&&(x38.2==0))&&(sameV x118.1 (⟨(2:Int),(0:Int),(0:Int),false,([]:Str),([(5:Int),(0:Int),(0:Int),(0:Int),(0:Int),(0:Int),(0:Int),(1:Int)]:List Int),([(0:Int),(2:Int),(0:Int),(0:Int),(0:Int),(0:Int),(0:Int),(0:Int)]:List Int),(0:Int)⟩:Val)))&&(x118.2==0))&&((sumV (⟨(2:Int),(0:Int),(0:Int),false,([]:Str),([(5:Int),(0:Int),(0:Int),(0:Int),(0:Int),(0:Int),(0:Int),(1:Int)]:List Int),([(0:Int),(2:Int),(0:Int),(0:Int),(0:Int),(0:Int),(0:Int),(0:Int)]:List Int),(0:Int)⟩:Val))==4))&&(x173.1.flags==7))&&(x173.2==0))) (r_mov rfl) ?_
 refine o_vg (v:=.int .i64 x236.2) (want_ct (t:=95) rfl rfl) (fun hk=>(r_mov rfl)) rfl rfl ?_
 refine o_vg (v:=.bool (x236.2==3)) (want_ct (t:=95) rfl rfl) (fun hk=>(r_int (gdT hk) rfl rfl)) rfl rfl ?_
 refine o_w (v:=.bool ((((((((x478&&(x11.2==0))&&(x38.2==0))&&(sameV x118.1 (⟨(2:Int),(0:Int),(0:Int),false,([]:Str),([(5:Int),(0:Int),(0:Int),(0:Int),(0:Int),(0:Int),(0:Int),(1:Int)]:List Int),([(0:Int),(2:Int),(0:Int),(0:Int),(0:Int),(0:Int),(0:Int),(0:Int)]:List Int),(0:Int)⟩:Val)))&&(x118.2==0))&&((sumV (⟨(2:Int),(0:Int),(0:Int),false,([]:Str),([(5:Int),(0:Int),(0:Int),(0:Int),(0:Int),(0:Int),(0:Int),(1:Int)]:List Int),([(0:Int),(2:Int),(0:Int),(0:Int),(0:Int),(0:Int),(0:Int),(0:Int)]:List Int),(0:Int)⟩:Val))==4))&&(x173.1.flags==7))&&(x173.2==0))&&(x236.2==3))) (r_pickAnd rfl (fun ht=>(gdT ht)) rfl) ?_
 refine o_w (v:=.bool ((((((((x478&&(x11.2==0))&&(x38.2==0))&&(sameV x118.1 (⟨(2:Int),(0:Int),(0:Int),false,([]:Str),([(5:Int),(0:Int),(0:Int),(0:Int),(0:Int),(0:Int),(0:Int),(1:Int)]:List Int),([(0:Int),(2:Int),(0:Int),(0:Int),(0:Int),(0:Int),(0:Int),(0:Int)]:List Int),(0:Int)⟩:Val)))&&(x118.2==0))&&((sumV (⟨(2:Int),(0:Int),(0:Int),false,([]:Str),([(5:Int),(0:Int),(0:Int),(0:Int),(0:Int),(0:Int),(0:Int),(1:Int)]:List Int),([(0:Int),(2:Int),(0:Int),(0:Int),(0:Int),(0:Int),(0:Int),(0:Int)]:List Int),(0:Int)⟩:Val))==4))&&(x173.1.flags==7))&&(x173.2==0))&&(x236.2==3))) (r_mov rfl) ?_
 refine o_vg (v:=.int .i64 x307.2) (want_ct (t:=99) rfl rfl) (fun hk=>(r_mov rfl)) rfl rfl ?_
 refine o_vg (v:=.bool (x307.2==2)) (want_ct (t:=99) rfl rfl) (fun hk=>(r_int (gdT hk) rfl rfl)) rfl rfl ?_
 refine o_w (v:=.bool (((((((((x478&&(x11.2==0))&&(x38.2==0))&&(sameV x118.1 (⟨(2:Int),(0:Int),(0:Int),false,([]:Str),([(5:Int),(0:Int),(0:Int),(0:Int),(0:Int),(0:Int),(0:Int),(1:Int)]:List Int),([(0:Int),(2:Int),(0:Int),(0:Int),(0:Int),(0:Int),(0:Int),(0:Int)]:List Int),(0:Int)⟩:Val)))&&(x118.2==0))&&((sumV (⟨(2:Int),(0:Int),(0:Int),false,([]:Str),([(5:Int),(0:Int),(0:Int),(0:Int),(0:Int),(0:Int),(0:Int),(1:Int)]:List Int),([(0:Int),(2:Int),(0:Int),(0:Int),(0:Int),(0:Int),(0:Int),(0:Int)]:List Int),(0:Int)⟩:Val))==4))&&(x173.1.flags==7))&&(x173.2==0))&&(x236.2==3))&&(x307.2==2))) (r_pickAnd rfl (fun ht=>(gdT ht)) rfl) ?_
 refine o_w (v:=.bool (((((((((x478&&(x11.2==0))&&(x38.2==0))&&(sameV x118.1 (⟨(2:Int),(0:Int),(0:Int),false,([]:Str),([(5:Int),(0:Int),(0:Int),(0:Int),(0:Int),(0:Int),(0:Int),(1:Int)]:List Int),([(0:Int),(2:Int),(0:Int),(0:Int),(0:Int),(0:Int),(0:Int),(0:Int)]:List Int),(0:Int)⟩:Val)))&&(x118.2==0))&&((sumV (⟨(2:Int),(0:Int),(0:Int),false,([]:Str),([(5:Int),(0:Int),(0:Int),(0:Int),(0:Int),(0:Int),(0:Int),(1:Int)]:List Int),([(0:Int),(2:Int),(0:Int),(0:Int),(0:Int),(0:Int),(0:Int),(0:Int)]:List Int),(0:Int)⟩:Val))==4))&&(x173.1.flags==7))&&(x173.2==0))&&(x236.2==3))&&(x307.2==2))) (r_mov rfl) ?_
 refine o_vg (v:=.int .i64 x386.2) (want_ct (t:=103) rfl rfl) (fun hk=>(r_mov rfl)) rfl rfl ?_
 refine o_vg (v:=.bool (x386.2==3)) (want_ct (t:=103) rfl rfl) (fun hk=>(r_int (gdT hk) rfl rfl)) rfl rfl ?_
 refine o_w (v:=.bool ((((((((((x478&&(x11.2==0))&&(x38.2==0))&&(sameV x118.1 (⟨(2:Int),(0:Int),(0:Int),false,([]:Str),([(5:Int),(0:Int),(0:Int),(0:Int),(0:Int),(0:Int),(0:Int),(1:Int)]:List Int),([(0:Int),(2:Int),(0:Int),(0:Int),(0:Int),(0:Int),(0:Int),(0:Int)]:List Int),(0:Int)⟩:Val)))&&(x118.2==0))&&((sumV (⟨(2:Int),(0:Int),(0:Int),false,([]:Str),([(5:Int),(0:Int),(0:Int),(0:Int),(0:Int),(0:Int),(0:Int),(1:Int)]:List Int),([(0:Int),(2:Int),(0:Int),(0:Int),(0:Int),(0:Int),(0:Int),(0:Int)]:List Int),(0:Int)⟩:Val))==4))&&(x173.1.flags==7))&&(x173.2==0))&&(x236.2==3))&&(x307.2==2))&&(x386.2==3))) (r_pickAnd rfl (fun ht=>(gdT ht)) rfl) ?_
 refine o_w (v:=.bool ((((((((((x478&&(x11.2==0))&&(x38.2==0))&&(sameV x118.1 (⟨(2:Int),(0:Int),(0:Int),false,([]:Str),([(5:Int),(0:Int),(0:Int),(0:Int),(0:Int),(0:Int),(0:Int),(1:Int)]:List Int),([(0:Int),(2:Int),(0:Int),(0:Int),(0:Int),(0:Int),(0:Int),(0:Int)]:List Int),(0:Int)⟩:Val)))&&(x118.2==0))&&((sumV (⟨(2:Int),(0:Int),(0:Int),false,([]:Str),([(5:Int),(0:Int),(0:Int),(0:Int),(0:Int),(0:Int),(0:Int),(1:Int)]:List Int),([(0:Int),(2:Int),(0:Int),(0:Int),(0:Int),(0:Int),(0:Int),(0:Int)]:List Int),(0:Int)⟩:Val))==4))&&(x173.1.flags==7))&&(x173.2==0))&&(x236.2==3))&&(x307.2==2))&&(x386.2==3))) (r_mov rfl) ?_
 refine o_vg (v:=.agg #[.int .i64 1,.int .i64 3,.int .i64 1,.bool false,str ([120]:Str),.slice none ([]:List Int).length 0,.slice none ([]:List Int).length 0,.int .u64 0]) (want_ct (t:=107) rfl rfl) (fun hk=>(r_lda agg_api_Value rfl (vs:=[.int .i64 1,.int .i64 3,.int .i64 1,.bool false,str ([120]:Str),.slice none ([]:List Int).length 0,.slice none ([]:List Int).length 0,.int .u64 0]) rfl ((((B462.ex F478).ex F500).ex F522).part (n:=8) rfl))) rfl rfl ?_
 obtain ⟨ha545,h⟩:=h
 refine o_callg (V:=.int .i64 (checkV (⟨(1:Int),(3:Int),(1:Int),false,([120]:Str),([]:List Int),([]:List Int),(0:Int)⟩:Val))) cf_value_Check (want_ct (t:=107) rfl rfl) (fun hk=>(mapv1 (gdT hk))) (fun hk=>(value_Check_c (⟨(1:Int),(3:Int),(1:Int),false,([120]:Str),([]:List Int),([]:List Int),(0:Int)⟩:Val) (kVal_mk (d:=(⟨(1:Int),(3:Int),(1:Int),false,([120]:Str),([]:List Int),([]:List Int),(0:Int)⟩:Val)) stb_nil stb_nil) (((((((((((hL.fr E524).cons (((B462.ex F478).ex F500).ex F522).lt).cons (((B463.ex F478).ex F500).ex F522).lt).cons (((B464.ex F478).ex F500).ex F522).lt).cons (((B465.ex F478).ex F500).ex F522).lt).cons (((B466.ex F478).ex F500).ex F522).lt).cons (((B467.ex F478).ex F500).ex F522).lt).cons (((B468.ex F478).ex F500).ex F522).lt).cons (((B469.ex F478).ex F500).ex F522).lt).cons (((B470.ex F478).ex F500).ex F522).lt).cons (((B451'.ex F478).ex F500).ex F522).lt) (valCheck_ev (⟨(1:Int),(3:Int),(1:Int),false,([120]:Str),([]:List Int),([]:List Int),(0:Int)⟩:Val) (ha545 hk)))) rfl ?_
 intro w544 F544
 have E546:=E524.trans F544
 refine o_vg (v:=.bool ((checkV (⟨(1:Int),(3:Int),(1:Int),false,([120]:Str),([]:List Int),([]:List Int),(0:Int)⟩:Val))==0)) (want_ct (t:=107) rfl rfl) (fun hk=>(r_int (gdT hk) rfl rfl)) rfl rfl ?_
 refine o_w (v:=.bool (((((((((((x478&&(x11.2==0))&&(x38.2==0))&&(sameV x118.1 (⟨(2:Int),(0:Int),(0:Int),false,([]:Str),([(5:Int),(0:Int),(0:Int),(0:Int),(0:Int),(0:Int),(0:Int),(1:Int)]:List Int),([(0:Int),(2:Int),(0:Int),(0:Int),(0:Int),(0:Int),(0:Int),(0:Int)]:List Int),(0:Int)⟩:Val)))&&(x118.2==0))&&((sumV (⟨(2:Int),(0:Int),(0:Int),false,([]:Str),([(5:Int),(0:Int),(0:Int),(0:Int),(0:Int),(0:Int),(0:Int),(1:Int)]:List Int),([(0:Int),(2:Int),(0:Int),(0:Int),(0:Int),(0:Int),(0:Int),(0:Int)]:List Int),(0:Int)⟩:Val))==4))&&(x173.1.flags==7))&&(x173.2==0))&&(x236.2==3))&&(x307.2==2))&&(x386.2==3))&&((checkV (⟨(1:Int),(3:Int),(1:Int),false,([120]:Str),([]:List Int),([]:List Int),(0:Int)⟩:Val))==0))) (r_pickAnd rfl (fun ht=>(gdT ht)) rfl) ?_
 refine o_w (v:=.bool (((((((((((x478&&(x11.2==0))&&(x38.2==0))&&(sameV x118.1 (⟨(2:Int),(0:Int),(0:Int),false,([]:Str),([(5:Int),(0:Int),(0:Int),(0:Int),(0:Int),(0:Int),(0:Int),(1:Int)]:List Int),([(0:Int),(2:Int),(0:Int),(0:Int),(0:Int),(0:Int),(0:Int),(0:Int)]:List Int),(0:Int)⟩:Val)))&&(x118.2==0))&&((sumV (⟨(2:Int),(0:Int),(0:Int),false,([]:Str),([(5:Int),(0:Int),(0:Int),(0:Int),(0:Int),(0:Int),(0:Int),(1:Int)]:List Int),([(0:Int),(2:Int),(0:Int),(0:Int),(0:Int),(0:Int),(0:Int),(0:Int)]:List Int),(0:Int)⟩:Val))==4))&&(x173.1.flags==7))&&(x173.2==0))&&(x236.2==3))&&(x307.2==2))&&(x386.2==3))&&((checkV (⟨(1:Int),(3:Int),(1:Int),false,([120]:Str),([]:List Int),([]:List Int),(0:Int)⟩:Val))==0))) (r_mov rfl) ?_
 refine o_vg (v:=.agg #[.int .i64 1,.int .i64 0,.int .i64 0,.bool true,str ([120]:Str),.slice none ([]:List Int).length 0,.slice none ([]:List Int).length 0,.int .u64 0]) (want_ct (t:=112) rfl rfl) (fun hk=>(r_build bld_api_Value (vs:=[(0,.int .i64 1),(3,.bool true),(4,str ([120]:Str))]) (cells:=[.int .i64 1,.int .i64 0,.int .i64 0,.bool true,str ([120]:Str),.slice none ([]:List Int).length 0,.slice none ([]:List Int).length 0,.int .u64 0]) rfl rfl)) rfl rfl ?_
 obtain ⟨ha567,h⟩:=h
 refine o_callg (V:=.int .i64 (checkV (⟨(1:Int),(0:Int),(0:Int),true,([120]:Str),([]:List Int),([]:List Int),(0:Int)⟩:Val))) cf_value_Check (want_ct (t:=112) rfl rfl) (fun hk=>(mapv1 (gdT hk))) (fun hk=>(value_Check_c (⟨(1:Int),(0:Int),(0:Int),true,([120]:Str),([]:List Int),([]:List Int),(0:Int)⟩:Val) (kVal_mk (d:=(⟨(1:Int),(0:Int),(0:Int),true,([120]:Str),([]:List Int),([]:List Int),(0:Int)⟩:Val)) stb_nil stb_nil) (((((((((((hL.fr E546).cons ((((B462.ex F478).ex F500).ex F522).ex F544).lt).cons ((((B463.ex F478).ex F500).ex F522).ex F544).lt).cons ((((B464.ex F478).ex F500).ex F522).ex F544).lt).cons ((((B465.ex F478).ex F500).ex F522).ex F544).lt).cons ((((B466.ex F478).ex F500).ex F522).ex F544).lt).cons ((((B467.ex F478).ex F500).ex F522).ex F544).lt).cons ((((B468.ex F478).ex F500).ex F522).ex F544).lt).cons ((((B469.ex F478).ex F500).ex F522).ex F544).lt).cons ((((B470.ex F478).ex F500).ex F522).ex F544).lt).cons ((((B451'.ex F478).ex F500).ex F522).ex F544).lt) (valCheck_ev (⟨(1:Int),(0:Int),(0:Int),true,([120]:Str),([]:List Int),([]:List Int),(0:Int)⟩:Val) (ha567 hk)))) rfl ?_
 intro w566 F566
 have E568:=E546.trans F566
 refine o_vg (v:=.bool ((checkV (⟨(1:Int),(0:Int),(0:Int),true,([120]:Str),([]:List Int),([]:List Int),(0:Int)⟩:Val))==2)) (want_ct (t:=112) rfl rfl) (fun hk=>(r_int (gdT hk) rfl rfl)) rfl rfl ?_
 refine o_w (v:=.bool ((((((((((((x478&&(x11.2==0))&&(x38.2==0))&&(sameV x118.1 (⟨(2:Int),(0:Int),(0:Int),false,([]:Str),([(5:Int),(0:Int),(0:Int),(0:Int),(0:Int),(0:Int),(0:Int),(1:Int)]:List Int),([(0:Int),(2:Int),(0:Int),(0:Int),(0:Int),(0:Int),(0:Int),(0:Int)]:List Int),(0:Int)⟩:Val)))&&(x118.2==0))&&((sumV (⟨(2:Int),(0:Int),(0:Int),false,([]:Str),([(5:Int),(0:Int),(0:Int),(0:Int),(0:Int),(0:Int),(0:Int),(1:Int)]:List Int),([(0:Int),(2:Int),(0:Int),(0:Int),(0:Int),(0:Int),(0:Int),(0:Int)]:List Int),(0:Int)⟩:Val))==4))&&(x173.1.flags==7))&&(x173.2==0))&&(x236.2==3))&&(x307.2==2))&&(x386.2==3))&&((checkV (⟨(1:Int),(3:Int),(1:Int),false,([120]:Str),([]:List Int),([]:List Int),(0:Int)⟩:Val))==0))&&((checkV (⟨(1:Int),(0:Int),(0:Int),true,([120]:Str),([]:List Int),([]:List Int),(0:Int)⟩:Val))==2))) (r_pickAnd rfl (fun ht=>(gdT ht)) rfl) ?_
 refine o_w (v:=.bool ((((((((((((x478&&(x11.2==0))&&(x38.2==0))&&(sameV x118.1 (⟨(2:Int),(0:Int),(0:Int),false,([]:Str),([(5:Int),(0:Int),(0:Int),(0:Int),(0:Int),(0:Int),(0:Int),(1:Int)]:List Int),([(0:Int),(2:Int),(0:Int),(0:Int),(0:Int),(0:Int),(0:Int),(0:Int)]:List Int),(0:Int)⟩:Val)))&&(x118.2==0))&&((sumV (⟨(2:Int),(0:Int),(0:Int),false,([]:Str),([(5:Int),(0:Int),(0:Int),(0:Int),(0:Int),(0:Int),(0:Int),(1:Int)]:List Int),([(0:Int),(2:Int),(0:Int),(0:Int),(0:Int),(0:Int),(0:Int),(0:Int)]:List Int),(0:Int)⟩:Val))==4))&&(x173.1.flags==7))&&(x173.2==0))&&(x236.2==3))&&(x307.2==2))&&(x386.2==3))&&((checkV (⟨(1:Int),(3:Int),(1:Int),false,([120]:Str),([]:List Int),([]:List Int),(0:Int)⟩:Val))==0))&&((checkV (⟨(1:Int),(0:Int),(0:Int),true,([120]:Str),([]:List Int),([]:List Int),(0:Int)⟩:Val))==2))) (r_mov rfl) ?_
 refine o_vg (v:=.agg #[.int .i64 1,.int .i64 3,.int .i64 1,.bool false,str ([120]:Str),.slice none ([]:List Int).length 0,.slice none ([]:List Int).length 0,.int .u64 0]) (want_ct (t:=117) rfl rfl) (fun hk=>(r_lda agg_api_Value rfl (vs:=[.int .i64 1,.int .i64 3,.int .i64 1,.bool false,str ([120]:Str),.slice none ([]:List Int).length 0,.slice none ([]:List Int).length 0,.int .u64 0]) rfl ((((((B462.ex F478).ex F500).ex F522).ex F544).ex F566).part (n:=8) rfl))) rfl rfl ?_
 refine o_vg (v:=.agg #[.int .i64 1,.int .i64 3,.int .i64 2,.bool false,str ([97]:Str),.slice none ([]:List Int).length 0,.slice none ([]:List Int).length 0,.int .u64 0]) (want_ct (t:=117) rfl rfl) (fun hk=>(r_lda agg_api_Value rfl (vs:=[.int .i64 1,.int .i64 3,.int .i64 2,.bool false,str ([97]:Str),.slice none ([]:List Int).length 0,.slice none ([]:List Int).length 0,.int .u64 0]) rfl ((((((B463.ex F478).ex F500).ex F522).ex F544).ex F566).part (n:=8) rfl))) rfl rfl ?_
 obtain ⟨ha589,h⟩:=h
 obtain ⟨ha590,h⟩:=h
 refine o_callg (V:=.bool (belowV (⟨(1:Int),(3:Int),(1:Int),false,([120]:Str),([]:List Int),([]:List Int),(0:Int)⟩:Val) (⟨(1:Int),(3:Int),(2:Int),false,([97]:Str),([]:List Int),([]:List Int),(0:Int)⟩:Val))) cf_value_Below (want_ct (t:=117) rfl rfl) (fun hk=>(mapv2 (gdT hk) (gdT hk))) (fun hk=>(value_Below_c (⟨(1:Int),(3:Int),(1:Int),false,([120]:Str),([]:List Int),([]:List Int),(0:Int)⟩:Val) (kVal_mk (d:=(⟨(1:Int),(3:Int),(1:Int),false,([120]:Str),([]:List Int),([]:List Int),(0:Int)⟩:Val)) stb_nil stb_nil) (⟨(1:Int),(3:Int),(2:Int),false,([97]:Str),([]:List Int),([]:List Int),(0:Int)⟩:Val) (kVal_mk (d:=(⟨(1:Int),(3:Int),(2:Int),false,([97]:Str),([]:List Int),([]:List Int),(0:Int)⟩:Val)) stb_nil stb_nil) (((((((((((hL.fr E568).cons (((((B462.ex F478).ex F500).ex F522).ex F544).ex F566).lt).cons (((((B463.ex F478).ex F500).ex F522).ex F544).ex F566).lt).cons (((((B464.ex F478).ex F500).ex F522).ex F544).ex F566).lt).cons (((((B465.ex F478).ex F500).ex F522).ex F544).ex F566).lt).cons (((((B466.ex F478).ex F500).ex F522).ex F544).ex F566).lt).cons (((((B467.ex F478).ex F500).ex F522).ex F544).ex F566).lt).cons (((((B468.ex F478).ex F500).ex F522).ex F544).ex F566).lt).cons (((((B469.ex F478).ex F500).ex F522).ex F544).ex F566).lt).cons (((((B470.ex F478).ex F500).ex F522).ex F544).ex F566).lt).cons (((((B451'.ex F478).ex F500).ex F522).ex F544).ex F566).lt) (valBelow_ev (⟨(1:Int),(3:Int),(1:Int),false,([120]:Str),([]:List Int),([]:List Int),(0:Int)⟩:Val) (⟨(1:Int),(3:Int),(2:Int),false,([97]:Str),([]:List Int),([]:List Int),(0:Int)⟩:Val) (ha589 hk) (ha590 hk)))) rfl ?_
 intro w588 F588
 have E591:=E568.trans F588
 refine o_w (v:=.bool (((((((((((((x478&&(x11.2==0))&&(x38.2==0))&&(sameV x118.1 (⟨(2:Int),(0:Int),(0:Int),false,([]:Str),([(5:Int),(0:Int),(0:Int),(0:Int),(0:Int),(0:Int),(0:Int),(1:Int)]:List Int),([(0:Int),(2:Int),(0:Int),(0:Int),(0:Int),(0:Int),(0:Int),(0:Int)]:List Int),(0:Int)⟩:Val)))&&(x118.2==0))&&((sumV (⟨(2:Int),(0:Int),(0:Int),false,([]:Str),([(5:Int),(0:Int),(0:Int),(0:Int),(0:Int),(0:Int),(0:Int),(1:Int)]:List Int),([(0:Int),(2:Int),(0:Int),(0:Int),(0:Int),(0:Int),(0:Int),(0:Int)]:List Int),(0:Int)⟩:Val))==4))&&(x173.1.flags==7))&&(x173.2==0))&&(x236.2==3))&&(x307.2==2))&&(x386.2==3))&&((checkV (⟨(1:Int),(3:Int),(1:Int),false,([120]:Str),([]:List Int),([]:List Int),(0:Int)⟩:Val))==0))&&((checkV (⟨(1:Int),(0:Int),(0:Int),true,([120]:Str),([]:List Int),([]:List Int),(0:Int)⟩:Val))==2))&&(belowV (⟨(1:Int),(3:Int),(1:Int),false,([120]:Str),([]:List Int),([]:List Int),(0:Int)⟩:Val) (⟨(1:Int),(3:Int),(2:Int),false,([97]:Str),([]:List Int),([]:List Int),(0:Int)⟩:Val)))) (r_pickAnd rfl (fun ht=>(gdT ht)) rfl) ?_
 refine o_w (v:=.bool (((((((((((((x478&&(x11.2==0))&&(x38.2==0))&&(sameV x118.1 (⟨(2:Int),(0:Int),(0:Int),false,([]:Str),([(5:Int),(0:Int),(0:Int),(0:Int),(0:Int),(0:Int),(0:Int),(1:Int)]:List Int),([(0:Int),(2:Int),(0:Int),(0:Int),(0:Int),(0:Int),(0:Int),(0:Int)]:List Int),(0:Int)⟩:Val)))&&(x118.2==0))&&((sumV (⟨(2:Int),(0:Int),(0:Int),false,([]:Str),([(5:Int),(0:Int),(0:Int),(0:Int),(0:Int),(0:Int),(0:Int),(1:Int)]:List Int),([(0:Int),(2:Int),(0:Int),(0:Int),(0:Int),(0:Int),(0:Int),(0:Int)]:List Int),(0:Int)⟩:Val))==4))&&(x173.1.flags==7))&&(x173.2==0))&&(x236.2==3))&&(x307.2==2))&&(x386.2==3))&&((checkV (⟨(1:Int),(3:Int),(1:Int),false,([120]:Str),([]:List Int),([]:List Int),(0:Int)⟩:Val))==0))&&((checkV (⟨(1:Int),(0:Int),(0:Int),true,([120]:Str),([]:List Int),([]:List Int),(0:Int)⟩:Val))==2))&&(belowV (⟨(1:Int),(3:Int),(1:Int),false,([120]:Str),([]:List Int),([]:List Int),(0:Int)⟩:Val) (⟨(1:Int),(3:Int),(2:Int),false,([97]:Str),([]:List Int),([]:List Int),(0:Int)⟩:Val)))) (r_mov rfl) ?_
 refine o_vg (v:=.agg #[.int .i64 1,.int .i64 3,.int .i64 2,.bool false,str ([97]:Str),.slice none ([]:List Int).length 0,.slice none ([]:List Int).length 0,.int .u64 0]) (want_ct (t:=122) rfl rfl) (fun hk=>(r_lda agg_api_Value rfl (vs:=[.int .i64 1,.int .i64 3,.int .i64 2,.bool false,str ([97]:Str),.slice none ([]:List Int).length 0,.slice none ([]:List Int).length 0,.int .u64 0]) rfl (((((((B463.ex F478).ex F500).ex F522).ex F544).ex F566).ex F588).part (n:=8) rfl))) rfl rfl ?_
 refine o_vg (v:=.agg #[.int .i64 1,.int .i64 3,.int .i64 1,.bool false,str ([120]:Str),.slice none ([]:List Int).length 0,.slice none ([]:List Int).length 0,.int .u64 0]) (want_ct (t:=122) rfl rfl) (fun hk=>(r_lda agg_api_Value rfl (vs:=[.int .i64 1,.int .i64 3,.int .i64 1,.bool false,str ([120]:Str),.slice none ([]:List Int).length 0,.slice none ([]:List Int).length 0,.int .u64 0]) rfl (((((((B462.ex F478).ex F500).ex F522).ex F544).ex F566).ex F588).part (n:=8) rfl))) rfl rfl ?_
 obtain ⟨ha612,h⟩:=h
 obtain ⟨ha613,h⟩:=h
 refine o_callg (V:=.bool (belowV (⟨(1:Int),(3:Int),(2:Int),false,([97]:Str),([]:List Int),([]:List Int),(0:Int)⟩:Val) (⟨(1:Int),(3:Int),(1:Int),false,([120]:Str),([]:List Int),([]:List Int),(0:Int)⟩:Val))) cf_value_Below (want_ct (t:=122) rfl rfl) (fun hk=>(mapv2 (gdT hk) (gdT hk))) (fun hk=>(value_Below_c (⟨(1:Int),(3:Int),(2:Int),false,([97]:Str),([]:List Int),([]:List Int),(0:Int)⟩:Val) (kVal_mk (d:=(⟨(1:Int),(3:Int),(2:Int),false,([97]:Str),([]:List Int),([]:List Int),(0:Int)⟩:Val)) stb_nil stb_nil) (⟨(1:Int),(3:Int),(1:Int),false,([120]:Str),([]:List Int),([]:List Int),(0:Int)⟩:Val) (kVal_mk (d:=(⟨(1:Int),(3:Int),(1:Int),false,([120]:Str),([]:List Int),([]:List Int),(0:Int)⟩:Val)) stb_nil stb_nil) (((((((((((hL.fr E591).cons ((((((B462.ex F478).ex F500).ex F522).ex F544).ex F566).ex F588).lt).cons ((((((B463.ex F478).ex F500).ex F522).ex F544).ex F566).ex F588).lt).cons ((((((B464.ex F478).ex F500).ex F522).ex F544).ex F566).ex F588).lt).cons ((((((B465.ex F478).ex F500).ex F522).ex F544).ex F566).ex F588).lt).cons ((((((B466.ex F478).ex F500).ex F522).ex F544).ex F566).ex F588).lt).cons ((((((B467.ex F478).ex F500).ex F522).ex F544).ex F566).ex F588).lt).cons ((((((B468.ex F478).ex F500).ex F522).ex F544).ex F566).ex F588).lt).cons ((((((B469.ex F478).ex F500).ex F522).ex F544).ex F566).ex F588).lt).cons ((((((B470.ex F478).ex F500).ex F522).ex F544).ex F566).ex F588).lt).cons ((((((B451'.ex F478).ex F500).ex F522).ex F544).ex F566).ex F588).lt) (valBelow_ev (⟨(1:Int),(3:Int),(2:Int),false,([97]:Str),([]:List Int),([]:List Int),(0:Int)⟩:Val) (⟨(1:Int),(3:Int),(1:Int),false,([120]:Str),([]:List Int),([]:List Int),(0:Int)⟩:Val) (ha612 hk) (ha613 hk)))) rfl ?_
 intro w611 F611
 have E614:=E591.trans F611
 have B624:=((((((B462.ex F478).ex F500).ex F522).ex F544).ex F566).ex F588).ex F611
 have B625:=((((((B463.ex F478).ex F500).ex F522).ex F544).ex F566).ex F588).ex F611
 have B626:=((((((B464.ex F478).ex F500).ex F522).ex F544).ex F566).ex F588).ex F611
 have B627:=((((((B465.ex F478).ex F500).ex F522).ex F544).ex F566).ex F588).ex F611
 have B628:=((((((B466.ex F478).ex F500).ex F522).ex F544).ex F566).ex F588).ex F611
 have B629:=((((((B467.ex F478).ex F500).ex F522).ex F544).ex F566).ex F588).ex F611
 have B630:=((((((B468.ex F478).ex F500).ex F522).ex F544).ex F566).ex F588).ex F611
 have B631:=((((((B469.ex F478).ex F500).ex F522).ex F544).ex F566).ex F588).ex F611
 have B632:=((((((B470.ex F478).ex F500).ex F522).ex F544).ex F566).ex F588).ex F611
 have B633:=((((((B451'.ex F478).ex F500).ex F522).ex F544).ex F566).ex F588).ex F611
 refine o_vg (v:=.bool (!(belowV (⟨(1:Int),(3:Int),(2:Int),false,([97]:Str),([]:List Int),([]:List Int),(0:Int)⟩:Val) (⟨(1:Int),(3:Int),(1:Int),false,([120]:Str),([]:List Int),([]:List Int),(0:Int)⟩:Val)))) (want_ct (t:=122) rfl rfl) (fun hk=>(r_not (gdT hk))) rfl rfl ?_
 refine o_w (v:=.bool ((((((((((((((x478&&(x11.2==0))&&(x38.2==0))&&(sameV x118.1 (⟨(2:Int),(0:Int),(0:Int),false,([]:Str),([(5:Int),(0:Int),(0:Int),(0:Int),(0:Int),(0:Int),(0:Int),(1:Int)]:List Int),([(0:Int),(2:Int),(0:Int),(0:Int),(0:Int),(0:Int),(0:Int),(0:Int)]:List Int),(0:Int)⟩:Val)))&&(x118.2==0))&&((sumV (⟨(2:Int),(0:Int),(0:Int),false,([]:Str),([(5:Int),(0:Int),(0:Int),(0:Int),(0:Int),(0:Int),(0:Int),(1:Int)]:List Int),([(0:Int),(2:Int),(0:Int),(0:Int),(0:Int),(0:Int),(0:Int),(0:Int)]:List Int),(0:Int)⟩:Val))==4))&&(x173.1.flags==7))&&(x173.2==0))&&(x236.2==3))&&(x307.2==2))&&(x386.2==3))&&((checkV (⟨(1:Int),(3:Int),(1:Int),false,([120]:Str),([]:List Int),([]:List Int),(0:Int)⟩:Val))==0))&&((checkV (⟨(1:Int),(0:Int),(0:Int),true,([120]:Str),([]:List Int),([]:List Int),(0:Int)⟩:Val))==2))&&(belowV (⟨(1:Int),(3:Int),(1:Int),false,([120]:Str),([]:List Int),([]:List Int),(0:Int)⟩:Val) (⟨(1:Int),(3:Int),(2:Int),false,([97]:Str),([]:List Int),([]:List Int),(0:Int)⟩:Val)))&&(!(belowV (⟨(1:Int),(3:Int),(2:Int),false,([97]:Str),([]:List Int),([]:List Int),(0:Int)⟩:Val) (⟨(1:Int),(3:Int),(1:Int),false,([120]:Str),([]:List Int),([]:List Int),(0:Int)⟩:Val))))) (r_pickAnd rfl (fun ht=>(gdT ht)) rfl) ?_
 refine o_w (v:=.bool ((((((((((((((x478&&(x11.2==0))&&(x38.2==0))&&(sameV x118.1 (⟨(2:Int),(0:Int),(0:Int),false,([]:Str),([(5:Int),(0:Int),(0:Int),(0:Int),(0:Int),(0:Int),(0:Int),(1:Int)]:List Int),([(0:Int),(2:Int),(0:Int),(0:Int),(0:Int),(0:Int),(0:Int),(0:Int)]:List Int),(0:Int)⟩:Val)))&&(x118.2==0))&&((sumV (⟨(2:Int),(0:Int),(0:Int),false,([]:Str),([(5:Int),(0:Int),(0:Int),(0:Int),(0:Int),(0:Int),(0:Int),(1:Int)]:List Int),([(0:Int),(2:Int),(0:Int),(0:Int),(0:Int),(0:Int),(0:Int),(0:Int)]:List Int),(0:Int)⟩:Val))==4))&&(x173.1.flags==7))&&(x173.2==0))&&(x236.2==3))&&(x307.2==2))&&(x386.2==3))&&((checkV (⟨(1:Int),(3:Int),(1:Int),false,([120]:Str),([]:List Int),([]:List Int),(0:Int)⟩:Val))==0))&&((checkV (⟨(1:Int),(0:Int),(0:Int),true,([120]:Str),([]:List Int),([]:List Int),(0:Int)⟩:Val))==2))&&(belowV (⟨(1:Int),(3:Int),(1:Int),false,([120]:Str),([]:List Int),([]:List Int),(0:Int)⟩:Val) (⟨(1:Int),(3:Int),(2:Int),false,([97]:Str),([]:List Int),([]:List Int),(0:Int)⟩:Val)))&&(!(belowV (⟨(1:Int),(3:Int),(2:Int),false,([97]:Str),([]:List Int),([]:List Int),(0:Int)⟩:Val) (⟨(1:Int),(3:Int),(1:Int),false,([120]:Str),([]:List Int),([]:List Int),(0:Int)⟩:Val))))) (r_mov rfl) ?_
 refine o_vg (v:=.agg #[.int .i64 1,.int .i64 3,.int .i64 1,.bool false,str ([120]:Str),.slice none ([]:List Int).length 0,.slice none ([]:List Int).length 0,.int .u64 0]) (want_ct (t:=128) rfl rfl) (fun hk=>(r_lda agg_api_Value rfl (vs:=[.int .i64 1,.int .i64 3,.int .i64 1,.bool false,str ([120]:Str),.slice none ([]:List Int).length 0,.slice none ([]:List Int).length 0,.int .u64 0]) rfl (B624.part (n:=8) rfl))) rfl rfl ?_
 refine o_vg (v:=.agg #[.int .i64 1,.int .i64 3,.int .i64 2,.bool false,str ([97]:Str),.slice none ([]:List Int).length 0,.slice none ([]:List Int).length 0,.int .u64 0]) (want_ct (t:=128) rfl rfl) (fun hk=>(r_lda agg_api_Value rfl (vs:=[.int .i64 1,.int .i64 3,.int .i64 2,.bool false,str ([97]:Str),.slice none ([]:List Int).length 0,.slice none ([]:List Int).length 0,.int .u64 0]) rfl (B625.part (n:=8) rfl))) rfl rfl ?_
 obtain ⟨ha635,h⟩:=h
 refine o_callg (V:=.bool (sameV (⟨(1:Int),(3:Int),(1:Int),false,([120]:Str),([]:List Int),([]:List Int),(0:Int)⟩:Val) (⟨(1:Int),(3:Int),(2:Int),false,([97]:Str),([]:List Int),([]:List Int),(0:Int)⟩:Val))) cf_value_Same (want_ct (t:=128) rfl rfl) (fun hk=>(mapv2 (gdT hk) (gdT hk))) (fun hk=>(value_Same_c (⟨(1:Int),(3:Int),(1:Int),false,([120]:Str),([]:List Int),([]:List Int),(0:Int)⟩:Val) (kVal_mk (d:=(⟨(1:Int),(3:Int),(1:Int),false,([120]:Str),([]:List Int),([]:List Int),(0:Int)⟩:Val)) stb_nil stb_nil) (⟨(1:Int),(3:Int),(2:Int),false,([97]:Str),([]:List Int),([]:List Int),(0:Int)⟩:Val) (kVal_mk (d:=(⟨(1:Int),(3:Int),(2:Int),false,([97]:Str),([]:List Int),([]:List Int),(0:Int)⟩:Val)) stb_nil stb_nil) (((((((((((hL.fr E614).cons B624.lt).cons B625.lt).cons B626.lt).cons B627.lt).cons B628.lt).cons B629.lt).cons B630.lt).cons B631.lt).cons B632.lt).cons B633.lt) (valSame_ev (⟨(1:Int),(3:Int),(1:Int),false,([120]:Str),([]:List Int),([]:List Int),(0:Int)⟩:Val) (⟨(1:Int),(3:Int),(2:Int),false,([97]:Str),([]:List Int),([]:List Int),(0:Int)⟩:Val) (ha635 hk)))) rfl ?_
 intro w634 F634
 have E636:=E614.trans F634
 refine o_vg (v:=.bool (!(sameV (⟨(1:Int),(3:Int),(1:Int),false,([120]:Str),([]:List Int),([]:List Int),(0:Int)⟩:Val) (⟨(1:Int),(3:Int),(2:Int),false,([97]:Str),([]:List Int),([]:List Int),(0:Int)⟩:Val)))) (want_ct (t:=128) rfl rfl) (fun hk=>(r_not (gdT hk))) rfl rfl ?_
 refine o_w (v:=.bool (((((((((((((((x478&&(x11.2==0))&&(x38.2==0))&&(sameV x118.1 (⟨(2:Int),(0:Int),(0:Int),false,([]:Str),([(5:Int),(0:Int),(0:Int),(0:Int),(0:Int),(0:Int),(0:Int),(1:Int)]:List Int),([(0:Int),(2:Int),(0:Int),(0:Int),(0:Int),(0:Int),(0:Int),(0:Int)]:List Int),(0:Int)⟩:Val)))&&(x118.2==0))&&((sumV (⟨(2:Int),(0:Int),(0:Int),false,([]:Str),([(5:Int),(0:Int),(0:Int),(0:Int),(0:Int),(0:Int),(0:Int),(1:Int)]:List Int),([(0:Int),(2:Int),(0:Int),(0:Int),(0:Int),(0:Int),(0:Int),(0:Int)]:List Int),(0:Int)⟩:Val))==4))&&(x173.1.flags==7))&&(x173.2==0))&&(x236.2==3))&&(x307.2==2))&&(x386.2==3))&&((checkV (⟨(1:Int),(3:Int),(1:Int),false,([120]:Str),([]:List Int),([]:List Int),(0:Int)⟩:Val))==0))&&((checkV (⟨(1:Int),(0:Int),(0:Int),true,([120]:Str),([]:List Int),([]:List Int),(0:Int)⟩:Val))==2))&&(belowV (⟨(1:Int),(3:Int),(1:Int),false,([120]:Str),([]:List Int),([]:List Int),(0:Int)⟩:Val) (⟨(1:Int),(3:Int),(2:Int),false,([97]:Str),([]:List Int),([]:List Int),(0:Int)⟩:Val)))&&(!(belowV (⟨(1:Int),(3:Int),(2:Int),false,([97]:Str),([]:List Int),([]:List Int),(0:Int)⟩:Val) (⟨(1:Int),(3:Int),(1:Int),false,([120]:Str),([]:List Int),([]:List Int),(0:Int)⟩:Val))))&&(!(sameV (⟨(1:Int),(3:Int),(1:Int),false,([120]:Str),([]:List Int),([]:List Int),(0:Int)⟩:Val) (⟨(1:Int),(3:Int),(2:Int),false,([97]:Str),([]:List Int),([]:List Int),(0:Int)⟩:Val))))) (r_pickAnd rfl (fun ht=>(gdT ht)) rfl) ?_
 refine o_w (v:=.bool (((((((((((((((x478&&(x11.2==0))&&(x38.2==0))&&(sameV x118.1 (⟨(2:Int),(0:Int),(0:Int),false,([]:Str),([(5:Int),(0:Int),(0:Int),(0:Int),(0:Int),(0:Int),(0:Int),(1:Int)]:List Int),([(0:Int),(2:Int),(0:Int),(0:Int),(0:Int),(0:Int),(0:Int),(0:Int)]:List Int),(0:Int)⟩:Val)))&&(x118.2==0))&&((sumV (⟨(2:Int),(0:Int),(0:Int),false,([]:Str),([(5:Int),(0:Int),(0:Int),(0:Int),(0:Int),(0:Int),(0:Int),(1:Int)]:List Int),([(0:Int),(2:Int),(0:Int),(0:Int),(0:Int),(0:Int),(0:Int),(0:Int)]:List Int),(0:Int)⟩:Val))==4))&&(x173.1.flags==7))&&(x173.2==0))&&(x236.2==3))&&(x307.2==2))&&(x386.2==3))&&((checkV (⟨(1:Int),(3:Int),(1:Int),false,([120]:Str),([]:List Int),([]:List Int),(0:Int)⟩:Val))==0))&&((checkV (⟨(1:Int),(0:Int),(0:Int),true,([120]:Str),([]:List Int),([]:List Int),(0:Int)⟩:Val))==2))&&(belowV (⟨(1:Int),(3:Int),(1:Int),false,([120]:Str),([]:List Int),([]:List Int),(0:Int)⟩:Val) (⟨(1:Int),(3:Int),(2:Int),false,([97]:Str),([]:List Int),([]:List Int),(0:Int)⟩:Val)))&&(!(belowV (⟨(1:Int),(3:Int),(2:Int),false,([97]:Str),([]:List Int),([]:List Int),(0:Int)⟩:Val) (⟨(1:Int),(3:Int),(1:Int),false,([120]:Str),([]:List Int),([]:List Int),(0:Int)⟩:Val))))&&(!(sameV (⟨(1:Int),(3:Int),(1:Int),false,([120]:Str),([]:List Int),([]:List Int),(0:Int)⟩:Val) (⟨(1:Int),(3:Int),(2:Int),false,([97]:Str),([]:List Int),([]:List Int),(0:Int)⟩:Val))))) (r_asg rfl) ?_
 refine eo_nil_sq ?_
 refine ec_ret ?_
 subst h
 exact (end1 rfl ⟨_,rfl,E636,rfl⟩)
set_option maxRecDepth 100000 in
theorem works_ev:law06_works_raw worksV:=by
 unfold law06_works_raw
 repeat' first
  | (refine ⟨_,rfl,?_⟩)
  | (refine ⟨fun _=>?_,fun h=>absurd h (by decide +kernel)⟩)
  | (refine ⟨fun h=>absurd h (by decide +kernel),fun _=>?_⟩)
  | (refine ⟨by decide +kernel,?_⟩)
  | (refine ⟨fun _=>by decide +kernel,?_⟩)
  | rfl
  | (decide +kernel)

end Go.Proofs.Ytdojgmmpcdbeoaa
