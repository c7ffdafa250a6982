/- The law of entry: its example. -/
import Derived.Test.YtbijobepjjokmaaCu2
import Derived.Test.YtbijobepjjokmaaWh
namespace Go.Proofs.Ytbijobepjjokmaa
open Go Go.RowKit
set_option linter.unusedVariables false
set_option linter.unusedSimpArgs false
def law07_works_raw (y:Bool):Prop :=
 (sm (⟨([107]:Str),(⟨(3:Int),(0:Int),(0:Int),false,([]:Str),([]:List Int),([]:List Int),(5:Int)⟩:Val)⟩:Ent).val)∧(∃ x4,x4=(putE (⟨([107]:Str),(⟨(3:Int),(0:Int),(0:Int),false,([]:Str),([]:List Int),([]:List Int),(5:Int)⟩:Val)⟩:Ent))∧((okG x4.1)∧(∃ x8,x8=(getE x4.1)∧((sm (⟨([107]:Str),(⟨(3:Int),(0:Int),(0:Int),false,([]:Str),([]:List Int),([]:List Int),(5:Int)⟩:Val)⟩:Ent).val)∧((sm (⟨([107]:Str),(⟨(1:Int),(2:Int),(1:Int),false,([118]:Str),([]:List Int),([]:List Int),(0:Int)⟩:Val)⟩:Ent).val)∧(∃ x43,x43=(joinE (⟨([107]:Str),(⟨(3:Int),(0:Int),(0:Int),false,([]:Str),([]:List Int),([]:List Int),(5:Int)⟩:Val)⟩:Ent) (⟨([107]:Str),(⟨(1:Int),(2:Int),(1:Int),false,([118]:Str),([]:List Int),([]:List Int),(0:Int)⟩:Val)⟩:Ent))∧((sm (⟨([107]:Str),(⟨(3:Int),(0:Int),(0:Int),false,([]:Str),([]:List Int),([]:List Int),(5:Int)⟩:Val)⟩:Ent).val)∧((sm (⟨([107]:Str),(⟨(3:Int),(0:Int),(0:Int),false,([]:Str),([]:List Int),([]:List Int),(2:Int)⟩:Val)⟩:Ent).val)∧(∃ x78,x78=(joinE (⟨([107]:Str),(⟨(3:Int),(0:Int),(0:Int),false,([]:Str),([]:List Int),([]:List Int),(5:Int)⟩:Val)⟩:Ent) (⟨([107]:Str),(⟨(3:Int),(0:Int),(0:Int),false,([]:Str),([]:List Int),([]:List Int),(2:Int)⟩:Val)⟩:Ent))∧(x4.1.length + ([120]:Str).length≤9223372036854775807∧((okG (x4.1++([120]:Str)))∧(∃ x122,x122=(getE (x4.1++([120]:Str)))∧((sm (⟨([]:Str),(⟨(0:Int),(0:Int),(0:Int),false,([]:Str),([]:List Int),([]:List Int),(0:Int)⟩:Val)⟩:Ent).val)∧(∃ x172,x172=(putE (⟨([]:Str),(⟨(0:Int),(0:Int),(0:Int),false,([]:Str),([]:List Int),([]:List Int),(0:Int)⟩:Val)⟩:Ent))∧((0≤(31:Int)∧(31:Int) * 1≤281474976710656∧(31:Int)≤9223372036854775807)∧((bstr ([(3:Int),(1:Int),(107:Int),(0:Int),(0:Int),(0:Int),(0:Int),(0:Int),(0:Int),(0:Int),(5:Int)]:List Int)).length + (bstr (List.replicate ((31:Int)).toNat (0:Int))).length≤9223372036854775807∧((((x4.1==((bstr ([(3:Int),(1:Int),(107:Int),(0:Int),(0:Int),(0:Int),(0:Int),(0:Int),(0:Int),(0:Int),(5:Int)]:List Int))++(bstr (List.replicate ((31:Int)).toNat (0:Int)))))&&(x4.2==(0:Int)))=true→sm (⟨([107]:Str),(⟨(3:Int),(0:Int),(0:Int),false,([]:Str),([]:List Int),([]:List Int),(5:Int)⟩:Val)⟩:Ent).val)∧((((((((((((((x4.1==((bstr ([(3:Int),(1:Int),(107:Int),(0:Int),(0:Int),(0:Int),(0:Int),(0:Int),(0:Int),(0:Int),(5:Int)]:List Int))++(bstr (List.replicate ((31:Int)).toNat (0:Int)))))&&(x4.2==(0:Int)))&&(sameE (⟨([107]:Str),(⟨(3:Int),(0:Int),(0:Int),false,([]:Str),([]:List Int),([]:List Int),(5:Int)⟩:Val)⟩:Ent) x8.1))&&(x8.2==(0:Int)))&&(x43.2==(3:Int)))&&(x78.1.val.flags==(7:Int)))&&(x78.2==(0:Int)))&&(x122.2==(2:Int)))&&(x172.2==(2:Int)))&&(lessE (⟨([107]:Str),(⟨(1:Int),(2:Int),(1:Int),false,([118]:Str),([]:List Int),([]:List Int),(0:Int)⟩:Val)⟩:Ent) (⟨([107]:Str),(⟨(3:Int),(0:Int),(0:Int),false,([]:Str),([]:List Int),([]:List Int),(5:Int)⟩:Val)⟩:Ent)))&&(!(lessE (⟨([107]:Str),(⟨(3:Int),(0:Int),(0:Int),false,([]:Str),([]:List Int),([]:List Int),(5:Int)⟩:Val)⟩:Ent) (⟨([107]:Str),(⟨(1:Int),(2:Int),(1:Int),false,([118]:Str),([]:List Int),([]:List Int),(0:Int)⟩:Val)⟩:Ent))))&&(!(lessE (⟨([107]:Str),(⟨(3:Int),(0:Int),(0:Int),false,([]:Str),([]:List Int),([]:List Int),(5:Int)⟩:Val)⟩:Ent) (⟨([107]:Str),(⟨(3:Int),(0:Int),(0:Int),false,([]:Str),([]:List Int),([]:List Int),(5:Int)⟩:Val)⟩:Ent))))=true→sm (⟨([107]:Str),(⟨(1:Int),(2:Int),(1:Int),false,([118]:Str),([]:List Int),([]:List Int),(0:Int)⟩:Val)⟩:Ent).val)∧(((((((((((((((x4.1==((bstr ([(3:Int),(1:Int),(107:Int),(0:Int),(0:Int),(0:Int),(0:Int),(0:Int),(0:Int),(0:Int),(5:Int)]:List Int))++(bstr (List.replicate ((31:Int)).toNat (0:Int)))))&&(x4.2==(0:Int)))&&(sameE (⟨([107]:Str),(⟨(3:Int),(0:Int),(0:Int),false,([]:Str),([]:List Int),([]:List Int),(5:Int)⟩:Val)⟩:Ent) x8.1))&&(x8.2==(0:Int)))&&(x43.2==(3:Int)))&&(x78.1.val.flags==(7:Int)))&&(x78.2==(0:Int)))&&(x122.2==(2:Int)))&&(x172.2==(2:Int)))&&(lessE (⟨([107]:Str),(⟨(1:Int),(2:Int),(1:Int),false,([118]:Str),([]:List Int),([]:List Int),(0:Int)⟩:Val)⟩:Ent) (⟨([107]:Str),(⟨(3:Int),(0:Int),(0:Int),false,([]:Str),([]:List Int),([]:List Int),(5:Int)⟩:Val)⟩:Ent)))&&(!(lessE (⟨([107]:Str),(⟨(3:Int),(0:Int),(0:Int),false,([]:Str),([]:List Int),([]:List Int),(5:Int)⟩:Val)⟩:Ent) (⟨([107]:Str),(⟨(1:Int),(2:Int),(1:Int),false,([118]:Str),([]:List Int),([]:List Int),(0:Int)⟩:Val)⟩:Ent))))&&(!(lessE (⟨([107]:Str),(⟨(3:Int),(0:Int),(0:Int),false,([]:Str),([]:List Int),([]:List Int),(5:Int)⟩:Val)⟩:Ent) (⟨([107]:Str),(⟨(3:Int),(0:Int),(0:Int),false,([]:Str),([]:List Int),([]:List Int),(5:Int)⟩:Val)⟩:Ent))))&&((checkE (⟨([107]:Str),(⟨(1:Int),(2:Int),(1:Int),false,([118]:Str),([]:List Int),([]:List Int),(0:Int)⟩:Val)⟩:Ent))==(0:Int)))=true→sm (⟨([107]:Str),(⟨(3:Int),(0:Int),(0:Int),false,([]:Str),([]:List Int),([]:List Int),(5:Int)⟩:Val)⟩:Ent).val)∧(y=((((((((((((((x4.1==((bstr ([(3:Int),(1:Int),(107:Int),(0:Int),(0:Int),(0:Int),(0:Int),(0:Int),(0:Int),(0:Int),(5:Int)]:List Int))++(bstr (List.replicate ((31:Int)).toNat (0:Int)))))&&(x4.2==(0:Int)))&&(sameE (⟨([107]:Str),(⟨(3:Int),(0:Int),(0:Int),false,([]:Str),([]:List Int),([]:List Int),(5:Int)⟩:Val)⟩:Ent) x8.1))&&(x8.2==(0:Int)))&&(x43.2==(3:Int)))&&(x78.1.val.flags==(7:Int)))&&(x78.2==(0:Int)))&&(x122.2==(2:Int)))&&(x172.2==(2:Int)))&&(lessE (⟨([107]:Str),(⟨(1:Int),(2:Int),(1:Int),false,([118]:Str),([]:List Int),([]:List Int),(0:Int)⟩:Val)⟩:Ent) (⟨([107]:Str),(⟨(3:Int),(0:Int),(0:Int),false,([]:Str),([]:List Int),([]:List Int),(5:Int)⟩:Val)⟩:Ent)))&&(!(lessE (⟨([107]:Str),(⟨(3:Int),(0:Int),(0:Int),false,([]:Str),([]:List Int),([]:List Int),(5:Int)⟩:Val)⟩:Ent) (⟨([107]:Str),(⟨(1:Int),(2:Int),(1:Int),false,([118]:Str),([]:List Int),([]:List Int),(0:Int)⟩:Val)⟩:Ent))))&&(!(lessE (⟨([107]:Str),(⟨(3:Int),(0:Int),(0:Int),false,([]:Str),([]:List Int),([]:List Int),(5:Int)⟩:Val)⟩:Ent) (⟨([107]:Str),(⟨(3:Int),(0:Int),(0:Int),false,([]:Str),([]:List Int),([]:List Int),(5:Int)⟩:Val)⟩:Ent))))&&((checkE (⟨([107]:Str),(⟨(1:Int),(2:Int),(1:Int),false,([118]:Str),([]:List Int),([]:List Int),(0:Int)⟩:Val)⟩:Ent))==(0:Int)))&&(!(sameE (⟨([107]:Str),(⟨(3:Int),(0:Int),(0:Int),false,([]:Str),([]:List Int),([]:List Int),(5:Int)⟩:Val)⟩:Ent) (⟨([107]:Str),(⟨(1:Int),(2:Int),(1:Int),false,([118]:Str),([]:List Int),([]:List Int),(0:Int)⟩:Val)⟩:Ent))))))))))))))))))))))))
set_option maxRecDepth 20000 in
set_option maxHeartbeats 4000000 in
theorem law07_works_c {L:List Nat} {w:World}  (hL:Lt L w) {y:Bool} (h:law07_works_raw y) :
  Calls Try.prog 9 [].toArray w (Ret fun v w'=>Ext w w'∧v=.bool y):=by
 unfold law07_works_raw at h
 refine calls_ec Try.func9 rfl rfl rfl ?_
 refine ec_seq ?_
 refine ec_region ?_
 refine o_w (v:=.bool false) (r_asg rfl) ?_
 refine eo_nil_sq ?_
 refine ec_seq ?_
 refine ec_region ?_
 refine o_w (v:=.agg #[.int .i64 (3:Int),.int .i64 (0:Int),.int .i64 (0:Int),.bool false,str ([]:Str),.slice none ([]:List Int).length 0,.slice none ([]:List Int).length 0,.int .u64 (5:Int)]) (r_build bld_api_Value (vs:=[(0,.int .i64 (3:Int)),(7,.int .u64 (5:Int))]) (cells:=[.int .i64 (3:Int),.int .i64 (0:Int),.int .i64 (0:Int),.bool false,str ([]:Str),.slice none ([]:List Int).length 0,.slice none ([]:List Int).length 0,.int .u64 (5:Int)]) rfl rfl) ?_
 refine o_w (v:=.agg #[str ([107]:Str),.int .i64 (3:Int),.int .i64 (0:Int),.int .i64 (0:Int),.bool false,str ([]:Str),.slice none ([]:List Int).length 0,.slice none ([]:List Int).length 0,.int .u64 (5:Int)]) (r_build bld_api_Entry (vs:=[(0,str ([107]:Str)),(1,.agg #[.int .i64 (3:Int),.int .i64 (0:Int),.int .i64 (0:Int),.bool false,str ([]:Str),.slice none ([]:List Int).length 0,.slice none ([]:List Int).length 0,.int .u64 (5:Int)])]) (cells:=[str ([107]:Str),.int .i64 (3:Int),.int .i64 (0:Int),.int .i64 (0:Int),.bool false,str ([]:Str),.slice none ([]:List Int).length 0,.slice none ([]:List Int).length 0,.int .u64 (5:Int)]) rfl rfl) ?_
 refine o_alloc zero_api_Entry rfl rfl rfl ?_
 intro b1 w1 e1 F1 B1
 have n1:w.heap.size≤b1:=Nat.le_of_eq e1.symm
 refine o_store rfl B1 (vs:=[str ([107]:Str),.int .i64 (3:Int),.int .i64 (0:Int),.int .i64 (0:Int),.bool false,str ([]:Str),.slice none ([]:List Int).length 0,.slice none ([]:List Int).length 0,.int .u64 (5:Int)]) rfl sz_api_Entry rfl rfl rfl ?_
 intro w2 F2 B2
 have E3:=Ext.st F1 F2 (by simp; omega)
 have B2':Blk w2 b1 _ [str ([107]:Str),.int .i64 (3:Int),.int .i64 (0:Int),.int .i64 (0:Int),.bool false,str ([]:Str),.slice none ([]:List Int).length 0,.slice none ([]:List Int).length 0,.int .u64 (5:Int)]:=B2
 refine eo_nil_sq ?_
 refine ec_seq ?_
 refine ec_region ?_
 refine o_w (v:=.agg #[str ([107]:Str),.int .i64 (3:Int),.int .i64 (0:Int),.int .i64 (0:Int),.bool false,str ([]:Str),.slice none ([]:List Int).length 0,.slice none ([]:List Int).length 0,.int .u64 (5:Int)]) (r_lda agg_api_Entry rfl (vs:=[str ([107]:Str),.int .i64 (3:Int),.int .i64 (0:Int),.int .i64 (0:Int),.bool false,str ([]:Str),.slice none ([]:List Int).length 0,.slice none ([]:List Int).length 0,.int .u64 (5:Int)]) rfl (B2'.part (n:=9) rfl)) ?_
 obtain ⟨ha5,h⟩:=h
 obtain ⟨x4,hx4,h⟩:=h
 refine o_call cf_entry_Put rfl (entry_Put_c (⟨([107]:Str),(⟨(3:Int),(0:Int),(0:Int),false,([]:Str),([]:List Int),([]:List Int),(5:Int)⟩:Val)⟩:Ent) (kEnt_mk (d:=(⟨([107]:Str),(⟨(3:Int),(0:Int),(0:Int),false,([]:Str),([]:List Int),([]:List Int),(5:Int)⟩:Val)⟩:Ent)) stb_nil stb_nil) ((hL.fr E3).cons B2'.lt) (eq_ev hx4 (entPut_ev (⟨([107]:Str),(⟨(3:Int),(0:Int),(0:Int),false,([]:Str),([]:List Int),([]:List Int),(5:Int)⟩:Val)⟩:Ent) ha5))) rfl rfl ?_
 rintro _ w4 ⟨F4,rfl⟩
 have E6:=E3.trans F4
 refine o_w (v:=.tuple #[str x4.1,.int .i64 x4.2]) (r_mov rfl) ?_
 refine o_w (v:=str x4.1) (r_ext rfl rfl) ?_
 refine o_w (v:=.int .i64 x4.2) (r_ext rfl rfl) ?_
 refine o_w (v:=str x4.1) (r_asg rfl) ?_
 refine o_w (v:=.int .i64 x4.2) (r_asg rfl) ?_
 refine eo_nil_sq ?_
 refine ec_seq ?_
 refine ec_region ?_
 refine o_w (v:=str x4.1) (r_mov rfl) ?_
 obtain ⟨ha9,h⟩:=h
 obtain ⟨x8,hx8,h⟩:=h
 refine o_call cf_entry_Get rfl (entry_Get_c x4.1 ((hL.fr E6).cons (B2'.ex F4).lt) (eq_ev hx8 (entGet_ev x4.1 ha9))) rfl rfl ?_
 rintro _ w8 ⟨F8,cs10,rfl,H11⟩
 have E12:=E6.trans F8
 obtain ⟨A14,c15,A17,c18,rfl,H16,H19⟩:=kEnt_open H11
 refine o_w (v:=.tuple #[.agg (cEnt x8.1 A14 c15 A17 c18).toArray,.int .i64 x8.2]) (r_mov rfl) ?_
 refine o_w (v:=.agg (cEnt x8.1 A14 c15 A17 c18).toArray) (r_ext rfl rfl) ?_
 refine o_w (v:=.int .i64 x8.2) (r_ext rfl rfl) ?_
 refine o_alloc zero_api_Entry rfl rfl rfl ?_
 intro b20 w20 e20 F20 B20
 have n20:w.heap.size≤b20:=by rw [e20]; exact E12.size
 have q21:b1<b20:=by rw [e20]; exact ((B2'.ex F4).ex F8).lt
 have m22:w8.heap.size≤b20:=Nat.le_of_eq e20.symm
 have E23:=E12.trans F20
 have G24:Fr (b1::L) w8 w20:=Fr.ext F20
 refine o_store rfl B20 (vs:=(cEnt x8.1 A14 c15 A17 c18)) rfl sz_api_Entry rfl rfl rfl ?_
 intro w26 F26 B26
 have E27:=Ext.st E23 F26 (by simp; omega)
 have G28:Fr (b1::L) w8 w26:=G24.stp F26 (upc (.inr m22) (fun m hm=>by cases hm))
 have B29:=(((B2'.ex F4).ex F8).ex F20).fr F26 (by simp; omega)
 have B26':Blk w26 b20 _ (cEnt x8.1 A14 c15 A17 c18):=B26
 refine o_w (v:=.int .i64 x8.2) (r_asg rfl) ?_
 refine eo_nil_sq ?_
 refine ec_seq ?_
 refine ec_region ?_
 refine o_w (v:=.agg #[.int .i64 (1:Int),.int .i64 (2:Int),.int .i64 (1:Int),.bool false,str ([118]:Str),.slice none ([]:List Int).length 0,.slice none ([]:List Int).length 0,.int .u64 (0:Int)]) (r_build bld_api_Value (vs:=[(0,.int .i64 (1:Int)),(1,.int .i64 (2:Int)),(2,.int .i64 (1:Int)),(4,str ([118]:Str))]) (cells:=[.int .i64 (1:Int),.int .i64 (2:Int),.int .i64 (1:Int),.bool false,str ([118]:Str),.slice none ([]:List Int).length 0,.slice none ([]:List Int).length 0,.int .u64 (0:Int)]) rfl rfl) ?_
 refine o_w (v:=.agg #[str ([107]:Str),.int .i64 (1:Int),.int .i64 (2:Int),.int .i64 (1:Int),.bool false,str ([118]:Str),.slice none ([]:List Int).length 0,.slice none ([]:List Int).length 0,.int .u64 (0:Int)]) (r_build bld_api_Entry (vs:=[(0,str ([107]:Str)),(1,.agg #[.int .i64 (1:Int),.int .i64 (2:Int),.int .i64 (1:Int),.bool false,str ([118]:Str),.slice none ([]:List Int).length 0,.slice none ([]:List Int).length 0,.int .u64 (0:Int)])]) (cells:=[str ([107]:Str),.int .i64 (1:Int),.int .i64 (2:Int),.int .i64 (1:Int),.bool false,str ([118]:Str),.slice none ([]:List Int).length 0,.slice none ([]:List Int).length 0,.int .u64 (0:Int)]) rfl rfl) ?_
 refine o_alloc zero_api_Entry rfl rfl rfl ?_
 intro b30 w30 e30 F30 B30
 have n30:w.heap.size≤b30:=by rw [e30]; exact E27.size
 have q31:b1<b30:=by rw [e30]; exact B29.lt
 have q32:b20<b30:=by rw [e30]; exact B26'.lt
 have m33:w8.heap.size≤b30:=by rw [e30]; exact G28.size
 have E34:=E27.trans F30
 refine o_store rfl B30 (vs:=[str ([107]:Str),.int .i64 (1:Int),.int .i64 (2:Int),.int .i64 (1:Int),.bool false,str ([118]:Str),.slice none ([]:List Int).length 0,.slice none ([]:List Int).length 0,.int .u64 (0:Int)]) rfl sz_api_Entry rfl rfl rfl ?_
 intro w38 F38 B38
 have E39:=Ext.st E34 F38 (by simp; omega)
 have G40:Fr (b1::L) w8 w38:=(G28.trans (Fr.ext F30)).stp F38 (upc (.inr m33) (fun m hm=>by cases hm))
 have B41:=(B29.ex F30).fr F38 (by simp; omega)
 have B42:=(B26'.ex F30).fr F38 (by simp; omega)
 have B38':Blk w38 b30 _ [str ([107]:Str),.int .i64 (1:Int),.int .i64 (2:Int),.int .i64 (1:Int),.bool false,str ([118]:Str),.slice none ([]:List Int).length 0,.slice none ([]:List Int).length 0,.int .u64 (0:Int)]:=B38
 refine eo_nil_sq ?_
 refine ec_seq ?_
 refine ec_region ?_
 refine o_w (v:=.agg #[str ([107]:Str),.int .i64 (3:Int),.int .i64 (0:Int),.int .i64 (0:Int),.bool false,str ([]:Str),.slice none ([]:List Int).length 0,.slice none ([]:List Int).length 0,.int .u64 (5:Int)]) (r_lda agg_api_Entry rfl (vs:=[str ([107]:Str),.int .i64 (3:Int),.int .i64 (0:Int),.int .i64 (0:Int),.bool false,str ([]:Str),.slice none ([]:List Int).length 0,.slice none ([]:List Int).length 0,.int .u64 (5:Int)]) rfl (B41.part (n:=9) rfl)) ?_
 refine o_w (v:=.agg #[str ([107]:Str),.int .i64 (1:Int),.int .i64 (2:Int),.int .i64 (1:Int),.bool false,str ([118]:Str),.slice none ([]:List Int).length 0,.slice none ([]:List Int).length 0,.int .u64 (0:Int)]) (r_lda agg_api_Entry rfl (vs:=[str ([107]:Str),.int .i64 (1:Int),.int .i64 (2:Int),.int .i64 (1:Int),.bool false,str ([118]:Str),.slice none ([]:List Int).length 0,.slice none ([]:List Int).length 0,.int .u64 (0:Int)]) rfl (B38'.part (n:=9) rfl)) ?_
 obtain ⟨ha44,h⟩:=h
 obtain ⟨ha45,h⟩:=h
 obtain ⟨x43,hx43,h⟩:=h
 refine o_call cf_entry_Join rfl (entry_Join_c (⟨([107]:Str),(⟨(3:Int),(0:Int),(0:Int),false,([]:Str),([]:List Int),([]:List Int),(5:Int)⟩:Val)⟩:Ent) (kEnt_mk (d:=(⟨([107]:Str),(⟨(3:Int),(0:Int),(0:Int),false,([]:Str),([]:List Int),([]:List Int),(5:Int)⟩:Val)⟩:Ent)) stb_nil stb_nil) (⟨([107]:Str),(⟨(1:Int),(2:Int),(1:Int),false,([118]:Str),([]:List Int),([]:List Int),(0:Int)⟩:Val)⟩:Ent) (kEnt_mk (d:=(⟨([107]:Str),(⟨(1:Int),(2:Int),(1:Int),false,([118]:Str),([]:List Int),([]:List Int),(0:Int)⟩:Val)⟩:Ent)) stb_nil stb_nil) ((((hL.fr E39).cons B41.lt).cons B42.lt).cons B38'.lt) (eq_ev hx43 (entJoin_ev (⟨([107]:Str),(⟨(3:Int),(0:Int),(0:Int),false,([]:Str),([]:List Int),([]:List Int),(5:Int)⟩:Val)⟩:Ent) (⟨([107]:Str),(⟨(1:Int),(2:Int),(1:Int),false,([118]:Str),([]:List Int),([]:List Int),(0:Int)⟩:Val)⟩:Ent) ha44 ha45))) rfl rfl ?_
 rintro _ w43 ⟨F43,cs46,rfl,H47⟩
 have E48:=E39.trans F43
 obtain ⟨A53,c54,A56,c57,rfl,H55,H58⟩:=kEnt_open H47
 refine o_w (v:=.tuple #[.agg (cEnt x43.1 A53 c54 A56 c57).toArray,.int .i64 x43.2]) (r_mov rfl) ?_
 refine o_w (v:=.agg (cEnt x43.1 A53 c54 A56 c57).toArray) (r_ext rfl rfl) ?_
 refine o_w (v:=.int .i64 x43.2) (r_ext rfl rfl) ?_
 refine o_alloc zero_api_Entry rfl rfl rfl ?_
 intro b59 w59 e59 F59 B59
 have n59:w.heap.size≤b59:=by rw [e59]; exact E48.size
 have q60:b1<b59:=by rw [e59]; exact (B41.ex F43).lt
 have q61:b20<b59:=by rw [e59]; exact (B42.ex F43).lt
 have q62:b30<b59:=by rw [e59]; exact (B38'.ex F43).lt
 have m63:w8.heap.size≤b59:=by rw [e59]; exact (G40.trans (Fr.ext F43)).size
 have E65:=E48.trans F59
 refine o_store rfl B59 (vs:=(cEnt x43.1 A53 c54 A56 c57)) rfl sz_api_Entry rfl rfl rfl ?_
 intro w71 F71 B71
 have E72:=Ext.st E65 F71 (by simp; omega)
 have G73:Fr (b1::L) w8 w71:=((G40.trans (Fr.ext F43)).trans (Fr.ext F59)).stp F71 (upc (.inr m63) (fun m hm=>by cases hm))
 have B75:=((B41.ex F43).ex F59).fr F71 (by simp; omega)
 have B76:=((B42.ex F43).ex F59).fr F71 (by simp; omega)
 have B77:=((B38'.ex F43).ex F59).fr F71 (by simp; omega)
 have B71':Blk w71 b59 _ (cEnt x43.1 A53 c54 A56 c57):=B71
 refine o_w (v:=.int .i64 x43.2) (r_asg rfl) ?_
 refine eo_nil_sq ?_
 refine ec_seq ?_
 refine ec_region ?_
 refine o_w (v:=.agg #[str ([107]:Str),.int .i64 (3:Int),.int .i64 (0:Int),.int .i64 (0:Int),.bool false,str ([]:Str),.slice none ([]:List Int).length 0,.slice none ([]:List Int).length 0,.int .u64 (5:Int)]) (r_lda agg_api_Entry rfl (vs:=[str ([107]:Str),.int .i64 (3:Int),.int .i64 (0:Int),.int .i64 (0:Int),.bool false,str ([]:Str),.slice none ([]:List Int).length 0,.slice none ([]:List Int).length 0,.int .u64 (5:Int)]) rfl (B75.part (n:=9) rfl)) ?_
 refine o_w (v:=.agg #[.int .i64 (3:Int),.int .i64 (0:Int),.int .i64 (0:Int),.bool false,str ([]:Str),.slice none ([]:List Int).length 0,.slice none ([]:List Int).length 0,.int .u64 (2:Int)]) (r_build bld_api_Value (vs:=[(0,.int .i64 (3:Int)),(7,.int .u64 (2:Int))]) (cells:=[.int .i64 (3:Int),.int .i64 (0:Int),.int .i64 (0:Int),.bool false,str ([]:Str),.slice none ([]:List Int).length 0,.slice none ([]:List Int).length 0,.int .u64 (2:Int)]) rfl rfl) ?_
 refine o_w (v:=.agg #[str ([107]:Str),.int .i64 (3:Int),.int .i64 (0:Int),.int .i64 (0:Int),.bool false,str ([]:Str),.slice none ([]:List Int).length 0,.slice none ([]:List Int).length 0,.int .u64 (2:Int)]) (r_build bld_api_Entry (vs:=[(0,str ([107]:Str)),(1,.agg #[.int .i64 (3:Int),.int .i64 (0:Int),.int .i64 (0:Int),.bool false,str ([]:Str),.slice none ([]:List Int).length 0,.slice none ([]:List Int).length 0,.int .u64 (2:Int)])]) (cells:=[str ([107]:Str),.int .i64 (3:Int),.int .i64 (0:Int),.int .i64 (0:Int),.bool false,str ([]:Str),.slice none ([]:List Int).length 0,.slice none ([]:List Int).length 0,.int .u64 (2:Int)]) rfl rfl) ?_
 obtain ⟨ha79,h⟩:=h
 obtain ⟨ha80,h⟩:=h
 obtain ⟨x78,hx78,h⟩:=h
 refine o_call cf_entry_Join rfl (entry_Join_c (⟨([107]:Str),(⟨(3:Int),(0:Int),(0:Int),false,([]:Str),([]:List Int),([]:List Int),(5:Int)⟩:Val)⟩:Ent) (kEnt_mk (d:=(⟨([107]:Str),(⟨(3:Int),(0:Int),(0:Int),false,([]:Str),([]:List Int),([]:List Int),(5:Int)⟩:Val)⟩:Ent)) stb_nil stb_nil) (⟨([107]:Str),(⟨(3:Int),(0:Int),(0:Int),false,([]:Str),([]:List Int),([]:List Int),(2:Int)⟩:Val)⟩:Ent) (kEnt_mk (d:=(⟨([107]:Str),(⟨(3:Int),(0:Int),(0:Int),false,([]:Str),([]:List Int),([]:List Int),(2:Int)⟩:Val)⟩:Ent)) stb_nil stb_nil) (((((hL.fr E72).cons B75.lt).cons B76.lt).cons B77.lt).cons B71'.lt) (eq_ev hx78 (entJoin_ev (⟨([107]:Str),(⟨(3:Int),(0:Int),(0:Int),false,([]:Str),([]:List Int),([]:List Int),(5:Int)⟩:Val)⟩:Ent) (⟨([107]:Str),(⟨(3:Int),(0:Int),(0:Int),false,([]:Str),([]:List Int),([]:List Int),(2:Int)⟩:Val)⟩:Ent) ha79 ha80))) rfl rfl ?_
 rintro _ w78 ⟨F78,cs81,rfl,H82⟩
 have E83:=E72.trans F78
 obtain ⟨A90,c91,A93,c94,rfl,H92,H95⟩:=kEnt_open H82
 refine o_w (v:=.tuple #[.agg (cEnt x78.1 A90 c91 A93 c94).toArray,.int .i64 x78.2]) (r_mov rfl) ?_
 refine o_w (v:=.agg (cEnt x78.1 A90 c91 A93 c94).toArray) (r_ext rfl rfl) ?_
 refine o_w (v:=.int .i64 x78.2) (r_ext rfl rfl) ?_
 refine o_alloc zero_api_Entry rfl rfl rfl ?_
 intro b96 w96 e96 F96 B96
 have n96:w.heap.size≤b96:=by rw [e96]; exact E83.size
 have q97:b1<b96:=by rw [e96]; exact (B75.ex F78).lt
 have q98:b20<b96:=by rw [e96]; exact (B76.ex F78).lt
 have q99:b30<b96:=by rw [e96]; exact (B77.ex F78).lt
 have q100:b59<b96:=by rw [e96]; exact (B71'.ex F78).lt
 have m101:w8.heap.size≤b96:=by rw [e96]; exact (G73.trans (Fr.ext F78)).size
 have E104:=E83.trans F96
 refine o_store rfl B96 (vs:=(cEnt x78.1 A90 c91 A93 c94)) rfl sz_api_Entry rfl rfl rfl ?_
 intro w112 F112 B112
 have E113:=Ext.st E104 F112 (by simp; omega)
 have G114:Fr (b1::L) w8 w112:=((G73.trans (Fr.ext F78)).trans (Fr.ext F96)).stp F112 (upc (.inr m101) (fun m hm=>by cases hm))
 have B117:=((B75.ex F78).ex F96).fr F112 (by simp; omega)
 have B118:=((B76.ex F78).ex F96).fr F112 (by simp; omega)
 have B119:=((B77.ex F78).ex F96).fr F112 (by simp; omega)
 have B120:=((B71'.ex F78).ex F96).fr F112 (by simp; omega)
 have B112':Blk w112 b96 _ (cEnt x78.1 A90 c91 A93 c94):=B112
 refine o_w (v:=.int .i64 x78.2) (r_asg rfl) ?_
 refine eo_nil_sq ?_
 refine ec_seq ?_
 refine ec_region ?_
 refine o_w (v:=str x4.1) (r_mov rfl) ?_
 obtain ⟨ha121,h⟩:=h
 refine o_w (v:=str (x4.1++([120]:Str))) (r_cat rfl rfl ha121) ?_
 obtain ⟨ha123,h⟩:=h
 obtain ⟨x122,hx122,h⟩:=h
 refine o_call cf_entry_Get rfl (entry_Get_c (x4.1++([120]:Str)) ((((((hL.fr E113).cons B117.lt).cons B118.lt).cons B119.lt).cons B120.lt).cons B112'.lt) (eq_ev hx122 (entGet_ev (x4.1++([120]:Str)) ha123))) rfl rfl ?_
 rintro _ w122 ⟨F122,cs124,rfl,H125⟩
 have E126:=E113.trans F122
 obtain ⟨A135,c136,A138,c139,rfl,H137,H140⟩:=kEnt_open H125
 refine o_w (v:=.tuple #[.agg (cEnt x122.1 A135 c136 A138 c139).toArray,.int .i64 x122.2]) (r_mov rfl) ?_
 refine o_w (v:=.agg (cEnt x122.1 A135 c136 A138 c139).toArray) (r_ext rfl rfl) ?_
 refine o_w (v:=.int .i64 x122.2) (r_ext rfl rfl) ?_
 refine o_alloc zero_api_Entry rfl rfl rfl ?_
 intro b141 w141 e141 F141 B141
 have n141:w.heap.size≤b141:=by rw [e141]; exact E126.size
 have q142:b1<b141:=by rw [e141]; exact (B117.ex F122).lt
 have q143:b20<b141:=by rw [e141]; exact (B118.ex F122).lt
 have q144:b30<b141:=by rw [e141]; exact (B119.ex F122).lt
 have q145:b59<b141:=by rw [e141]; exact (B120.ex F122).lt
 have q146:b96<b141:=by rw [e141]; exact (B112'.ex F122).lt
 have m147:w8.heap.size≤b141:=by rw [e141]; exact (G114.trans (Fr.ext F122)).size
 have E151:=E126.trans F141
 refine o_store rfl B141 (vs:=(cEnt x122.1 A135 c136 A138 c139)) rfl sz_api_Entry rfl rfl rfl ?_
 intro w161 F161 B161
 have E162:=Ext.st E151 F161 (by simp; omega)
 have G163:Fr (b1::L) w8 w161:=((G114.trans (Fr.ext F122)).trans (Fr.ext F141)).stp F161 (upc (.inr m147) (fun m hm=>by cases hm))
 have B167:=((B117.ex F122).ex F141).fr F161 (by simp; omega)
 have B168:=((B118.ex F122).ex F141).fr F161 (by simp; omega)
 have B169:=((B119.ex F122).ex F141).fr F161 (by simp; omega)
 have B170:=((B120.ex F122).ex F141).fr F161 (by simp; omega)
 have B171:=((B112'.ex F122).ex F141).fr F161 (by simp; omega)
 have B161':Blk w161 b141 _ (cEnt x122.1 A135 c136 A138 c139):=B161
 refine o_w (v:=.int .i64 x122.2) (r_asg rfl) ?_
 refine eo_nil_sq ?_
 refine ec_seq ?_
 refine ec_region ?_
 refine o_w (v:=.agg #[str ([]:Str),.int .i64 (0:Int),.int .i64 (0:Int),.int .i64 (0:Int),.bool false,str ([]:Str),.slice none ([]:List Int).length 0,.slice none ([]:List Int).length 0,.int .u64 (0:Int)]) (r_build bld_api_Entry (vs:=[]) (cells:=[str ([]:Str),.int .i64 (0:Int),.int .i64 (0:Int),.int .i64 (0:Int),.bool false,str ([]:Str),.slice none ([]:List Int).length 0,.slice none ([]:List Int).length 0,.int .u64 (0:Int)]) rfl rfl) ?_
 obtain ⟨ha173,h⟩:=h
 obtain ⟨x172,hx172,h⟩:=h
 refine o_call cf_entry_Put rfl (entry_Put_c (⟨([]:Str),(⟨(0:Int),(0:Int),(0:Int),false,([]:Str),([]:List Int),([]:List Int),(0:Int)⟩:Val)⟩:Ent) (kEnt_mk (d:=(⟨([]:Str),(⟨(0:Int),(0:Int),(0:Int),false,([]:Str),([]:List Int),([]:List Int),(0:Int)⟩:Val)⟩:Ent)) stb_nil stb_nil) (((((((hL.fr E162).cons B167.lt).cons B168.lt).cons B169.lt).cons B170.lt).cons B171.lt).cons B161'.lt) (eq_ev hx172 (entPut_ev (⟨([]:Str),(⟨(0:Int),(0:Int),(0:Int),false,([]:Str),([]:List Int),([]:List Int),(0:Int)⟩:Val)⟩:Ent) ha173))) rfl rfl ?_
 rintro _ w172 ⟨F172,rfl⟩
 have E174:=E162.trans F172
 refine o_w (v:=.tuple #[str x172.1,.int .i64 x172.2]) (r_mov rfl) ?_
 refine o_w (v:=str x172.1) (r_ext rfl rfl) ?_
 refine o_w (v:=.int .i64 x172.2) (r_ext rfl rfl) ?_
 refine o_w (v:=str x172.1) (r_asg rfl) ?_
 refine o_w (v:=.int .i64 x172.2) (r_asg rfl) ?_
 refine eo_nil_sq ?_
 refine ec_seq ?_
 obtain ⟨ha187,h⟩:=h
 obtain ⟨ha188,h⟩:=h
 refine ec_any0 (by kernel_rfl) [[],[0],[],[2],[0,1,2,3],[0,1,2,3,4]] [15,54,55,56,57,58] [fun v w'=>∃ b185_0,v=(.slice (some ⟨b185_0,0,none⟩) 11 11:Value)∧Blk w' b185_0 5 [.int .u8 (3:Int),.int .u8 (1:Int),.int .u8 (107:Int),.int .u8 (0:Int),.int .u8 (0:Int),.int .u8 (0:Int),.int .u8 (0:Int),.int .u8 (0:Int),.int .u8 (0:Int),.int .u8 (0:Int),.int .u8 (5:Int)]∧w172.heap.size≤b185_0,fun v _=>v=(str (bstr ([(3:Int),(1:Int),(107:Int),(0:Int),(0:Int),(0:Int),(0:Int),(0:Int),(0:Int),(0:Int),(5:Int)]:List Int)):Value),fun v w'=>∃ A186 c186,v=(.slice A186 (List.replicate ((31:Int)).toNat (0:Int)).length c186:Value)∧Stb (b141::(b96::(b59::(b30::(b20::(b1::L)))))) w' (fun w=>SlC (kI .u8) w A186 c186 (List.replicate ((31:Int)).toNat (0:Int))),fun v _=>v=(str (bstr (List.replicate ((31:Int)).toNat (0:Int))):Value),fun v _=>v=(str ((bstr ([(3:Int),(1:Int),(107:Int),(0:Int),(0:Int),(0:Int),(0:Int),(0:Int),(0:Int),(0:Int),(5:Int)]:List Int))++(bstr (List.replicate ((31:Int)).toNat (0:Int)))):Value),fun v _=>v=(str ((bstr ([(3:Int),(1:Int),(107:Int),(0:Int),(0:Int),(0:Int),(0:Int),(0:Int),(0:Int),(0:Int),(5:Int)]:List Int))++(bstr (List.replicate ((31:Int)).toNat (0:Int)))):Value)] (by kernel_rfl) ⟨fun _ v w' w'' F h=>by obtain ⟨b185_0,hv,B185_0,qB185_0⟩:=h; exact ⟨b185_0,hv,(B185_0.ex F),qB185_0⟩,fun _ _ _ _ _ h=>h,fun _ v w' w'' F h=>by obtain ⟨A186,c186,hv,H186⟩:=h; exact ⟨A186,c186,hv,(H186.ex F)⟩,fun _ _ _ _ _ h=>h,fun _ _ _ _ _ h=>h,fun _ _ _ _ _ h=>h,trivial⟩ ?_ ?_
 ·refine ⟨?_,?_,?_,?_,?_,?_,trivial⟩
  ·intro ρ w185o F185o hS hρ
   refine o_bslice slc_s_uint8 rfl (vs:=[.int .u8 (3:Int),.int .u8 (1:Int),.int .u8 (107:Int),.int .u8 (0:Int),.int .u8 (0:Int),.int .u8 (0:Int),.int .u8 (0:Int),.int .u8 (0:Int),.int .u8 (0:Int),.int .u8 (0:Int),.int .u8 (5:Int)]) rfl rfl rfl (cs:=[.int .u8 (3:Int),.int .u8 (1:Int),.int .u8 (107:Int),.int .u8 (0:Int),.int .u8 (0:Int),.int .u8 (0:Int),.int .u8 (0:Int),.int .u8 (0:Int),.int .u8 (0:Int),.int .u8 (0:Int),.int .u8 (5:Int)]) rfl rfl rfl rfl ?_
   intro b w' e F B
   exact eo_nil ⟨rfl,rfl,_,rfl,F,b,rfl,B,by rw [e]; exact F185o.size⟩
  ·intro ρ w185o F185o hS hρ
   obtain ⟨b185_0,q54,B185_0,qB185_0⟩:=hS 0 (by decide) 54 rfl
   exact o_q (r_bstrB (l:=([(3:Int),(1:Int),(107:Int),(0:Int),(0:Int),(0:Int),(0:Int),(0:Int),(0:Int),(0:Int),(5:Int)]:List Int)) slc_s_uint8 un_uint8 un_string q54 B185_0 rfl) ⟨Fr.refl _ _,rfl⟩
  ·intro ρ w185o F185o hS hρ
   have E189:=E174.trans F185o
   refine o_make1 (k:=(kI .u8)) slc_s_uint8 rfl rfl (z:=(0:Int)) (fun _=>rfl) rfl rfl ha187 (((((((hL.fr E189).cons ((B167.ex F172).ex F185o).lt).cons ((B168.ex F172).ex F185o).lt).cons ((B169.ex F172).ex F185o).lt).cons ((B170.ex F172).ex F185o).lt).cons ((B171.ex F172).ex F185o).lt).cons ((B161'.ex F172).ex F185o).lt) rfl rfl (by decide) ?_
   intro A c w' F H
   exact eo_nil ⟨rfl,rfl,_,rfl,F,A,c,rfl,H⟩
  ·intro ρ w185o F185o hS hρ
   obtain ⟨A186,c186,q56,H186⟩:=hS 2 (by decide) 56 rfl
   exact o_q (r_bstr slc_s_uint8 un_uint8 un_string q56 H186.now) ⟨Fr.refl _ _,rfl⟩
  ·intro ρ w185o F185o hS hρ
   have q55:ρ 55=str (bstr ([(3:Int),(1:Int),(107:Int),(0:Int),(0:Int),(0:Int),(0:Int),(0:Int),(0:Int),(0:Int),(5:Int)]:List Int)):=hS 1 (by decide) 55 rfl
   have q57:ρ 57=str (bstr (List.replicate ((31:Int)).toNat (0:Int))):=hS 3 (by decide) 57 rfl
   exact o_q (r_cat q55 q57 ha188) ⟨Fr.refl _ _,rfl⟩
  ·intro ρ w185o F185o hS hρ
   have q58:ρ 58=str ((bstr ([(3:Int),(1:Int),(107:Int),(0:Int),(0:Int),(0:Int),(0:Int),(0:Int),(0:Int),(0:Int),(5:Int)]:List Int))++(bstr (List.replicate ((31:Int)).toNat (0:Int)))):=hS 4 (by decide) 58 rfl
   exact o_q (r_asg q58) ⟨Fr.refl _ _,rfl⟩
 ·intro ρ w185 F185 hS hρ
  have q15:ρ 15=str ((bstr ([(3:Int),(1:Int),(107:Int),(0:Int),(0:Int),(0:Int),(0:Int),(0:Int),(0:Int),(0:Int),(5:Int)]:List Int))++(bstr (List.replicate ((31:Int)).toNat (0:Int)))):=hS 5 15 rfl
  obtain ⟨ρ',rfl⟩:∃ ρ',ρ=envs (ovr [15,54,55,56,57,58] ρ' _) [(15,str ((bstr ([(3:Int),(1:Int),(107:Int),(0:Int),(0:Int),(0:Int),(0:Int),(0:Int),(0:Int),(0:Int),(5:Int)]:List Int))++(bstr (List.replicate ((31:Int)).toNat (0:Int)))))]:=⟨ρ,ovr_self hρ ⟨q15,trivial⟩⟩
  have E200:=E174.trans F185
  refine sq_n ?_
  refine ec_seq ?_
  refine ec_region ?_
  refine o_w (v:=str x4.1) (r_mov rfl) ?_
  refine o_w (v:=str ((bstr ([(3:Int),(1:Int),(107:Int),(0:Int),(0:Int),(0:Int),(0:Int),(0:Int),(0:Int),(0:Int),(5:Int)]:List Int))++(bstr (List.replicate ((31:Int)).toNat (0:Int))))) (r_mov rfl) ?_
  refine o_w (v:=.bool (x4.1==((bstr ([(3:Int),(1:Int),(107:Int),(0:Int),(0:Int),(0:Int),(0:Int),(0:Int),(0:Int),(0:Int),(5:Int)]:List Int))++(bstr (List.replicate ((31:Int)).toNat (0:Int)))))) (r_str rfl rfl rfl) ?_
  refine o_w (v:=.bool (x4.1==((bstr ([(3:Int),(1:Int),(107:Int),(0:Int),(0:Int),(0:Int),(0:Int),(0:Int),(0:Int),(0:Int),(5:Int)]:List Int))++(bstr (List.replicate ((31:Int)).toNat (0:Int)))))) (r_mov rfl) ?_
  refine o_vg (v:=.int .i64 x4.2) (want_ct (t:=62) rfl rfl) (fun hk=>(r_mov rfl)) rfl rfl ?_
  refine o_vg (v:=.bool (x4.2==(0:Int))) (want_ct (t:=62) rfl rfl) (fun hk=>(r_int (gdT hk) rfl rfl)) rfl rfl ?_
  refine o_w (v:=.bool ((x4.1==((bstr ([(3:Int),(1:Int),(107:Int),(0:Int),(0:Int),(0:Int),(0:Int),(0:Int),(0:Int),(0:Int),(5:Int)]:List Int))++(bstr (List.replicate ((31:Int)).toNat (0:Int)))))&&(x4.2==(0:Int)))) (r_pickAnd rfl (fun ht=>(gdT ht)) rfl) ?_
  refine o_w (v:=.bool ((x4.1==((bstr ([(3:Int),(1:Int),(107:Int),(0:Int),(0:Int),(0:Int),(0:Int),(0:Int),(0:Int),(0:Int),(5:Int)]:List Int))++(bstr (List.replicate ((31:Int)).toNat (0:Int)))))&&(x4.2==(0:Int)))) (r_mov rfl) ?_
  refine o_vg (v:=.agg #[str ([107]:Str),.int .i64 (3:Int),.int .i64 (0:Int),.int .i64 (0:Int),.bool false,str ([]:Str),.slice none ([]:List Int).length 0,.slice none ([]:List Int).length 0,.int .u64 (5:Int)]) (want_ct (t:=66) rfl rfl) (fun hk=>(r_lda agg_api_Entry rfl (vs:=[str ([107]:Str),.int .i64 (3:Int),.int .i64 (0:Int),.int .i64 (0:Int),.bool false,str ([]:Str),.slice none ([]:List Int).length 0,.slice none ([]:List Int).length 0,.int .u64 (5:Int)]) rfl (((B167.ex F172).ex F185).part (n:=9) rfl))) rfl rfl ?_
  refine o_vg (v:=.agg (cEnt x8.1 A14 c15 A17 c18).toArray) (want_ct (t:=66) rfl rfl) (fun hk=>(r_lda agg_api_Entry rfl (vs:=(cEnt x8.1 A14 c15 A17 c18)) rfl (((B168.ex F172).ex F185).part (n:=9) rfl))) rfl rfl ?_
  obtain ⟨ha218,h⟩:=h
  refine o_callg (V:=.bool (sameE (⟨([107]:Str),(⟨(3:Int),(0:Int),(0:Int),false,([]:Str),([]:List Int),([]:List Int),(5:Int)⟩:Val)⟩:Ent) x8.1)) cf_entry_Same (want_ct (t:=66) rfl rfl) (fun hk=>(mapv2 (gdT hk) (gdT hk))) (fun hk=>(entry_Same_c (⟨([107]:Str),(⟨(3:Int),(0:Int),(0:Int),false,([]:Str),([]:List Int),([]:List Int),(5:Int)⟩:Val)⟩:Ent) (kEnt_mk (d:=(⟨([107]:Str),(⟨(3:Int),(0:Int),(0:Int),false,([]:Str),([]:List Int),([]:List Int),(5:Int)⟩:Val)⟩:Ent)) stb_nil stb_nil) x8.1 (kEnt_mk (d:=x8.1) (H16.up ((G163.trans (Fr.ext F172)).trans (Fr.ext F185)) (fun _ h=>h) (upc (.inr m147) (upc (.inr m101) (upc (.inr m63) (upc (.inr m33) (upc (.inr m22) (upc (.inl (List.Mem.head _)) (fun m hm=>Or.inl (List.Mem.tail _ hm))))))))) (H19.up ((G163.trans (Fr.ext F172)).trans (Fr.ext F185)) (fun _ h=>h) (upc (.inr m147) (upc (.inr m101) (upc (.inr m63) (upc (.inr m33) (upc (.inr m22) (upc (.inl (List.Mem.head _)) (fun m hm=>Or.inl (List.Mem.tail _ hm)))))))))) (((((((hL.fr E200).cons ((B167.ex F172).ex F185).lt).cons ((B168.ex F172).ex F185).lt).cons ((B169.ex F172).ex F185).lt).cons ((B170.ex F172).ex F185).lt).cons ((B171.ex F172).ex F185).lt).cons ((B161'.ex F172).ex F185).lt) (entSame_ev (⟨([107]:Str),(⟨(3:Int),(0:Int),(0:Int),false,([]:Str),([]:List Int),([]:List Int),(5:Int)⟩:Val)⟩:Ent) x8.1 (ha218 hk)))) rfl ?_
  intro w217 F217
  have E219:=E200.trans F217
  refine o_w (v:=.bool (((x4.1==((bstr ([(3:Int),(1:Int),(107:Int),(0:Int),(0:Int),(0:Int),(0:Int),(0:Int),(0:Int),(0:Int),(5:Int)]:List Int))++(bstr (List.replicate ((31:Int)).toNat (0:Int)))))&&(x4.2==(0:Int)))&&(sameE (⟨([107]:Str),(⟨(3:Int),(0:Int),(0:Int),false,([]:Str),([]:List Int),([]:List Int),(5:Int)⟩:Val)⟩:Ent) x8.1))) (r_pickAnd rfl (fun ht=>(gdT ht)) rfl) ?_
  refine o_w (v:=.bool (((x4.1==((bstr ([(3:Int),(1:Int),(107:Int),(0:Int),(0:Int),(0:Int),(0:Int),(0:Int),(0:Int),(0:Int),(5:Int)]:List Int))++(bstr (List.replicate ((31:Int)).toNat (0:Int)))))&&(x4.2==(0:Int)))&&(sameE (⟨([107]:Str),(⟨(3:Int),(0:Int),(0:Int),false,([]:Str),([]:List Int),([]:List Int),(5:Int)⟩:Val)⟩:Ent) x8.1))) (r_mov rfl) ?_
  refine o_vg (v:=.int .i64 x8.2) (want_ct (t:=71) rfl rfl) (fun hk=>(r_mov rfl)) rfl rfl ?_
  refine o_vg (v:=.bool (x8.2==(0:Int))) (want_ct (t:=71) rfl rfl) (fun hk=>(r_int (gdT hk) rfl rfl)) rfl rfl ?_
  refine o_w (v:=.bool ((((x4.1==((bstr ([(3:Int),(1:Int),(107:Int),(0:Int),(0:Int),(0:Int),(0:Int),(0:Int),(0:Int),(0:Int),(5:Int)]:List Int))++(bstr (List.replicate ((31:Int)).toNat (0:Int)))))&&(x4.2==(0:Int)))&&(sameE (⟨([107]:Str),(⟨(3:Int),(0:Int),(0:Int),false,([]:Str),([]:List Int),([]:List Int),(5:Int)⟩:Val)⟩:Ent) x8.1))&&(x8.2==(0:Int)))) (r_pickAnd rfl (fun ht=>(gdT ht)) rfl) ?_
  refine o_w (v:=.bool ((((x4.1==((bstr ([(3:Int),(1:Int),(107:Int),(0:Int),(0:Int),(0:Int),(0:Int),(0:Int),(0:Int),(0:Int),(5:Int)]:List Int))++(bstr (List.replicate ((31:Int)).toNat (0:Int)))))&&(x4.2==(0:Int)))&&(sameE (⟨([107]:Str),(⟨(3:Int),(0:Int),(0:Int),false,([]:Str),([]:List Int),([]:List Int),(5:Int)⟩:Val)⟩:Ent) x8.1))&&(x8.2==(0:Int)))) (r_mov rfl) ?_
  refine o_vg (v:=.int .i64 x43.2) (want_ct (t:=75) rfl rfl) (fun hk=>(r_mov rfl)) rfl rfl ?_
  refine o_vg (v:=.bool (x43.2==(3:Int))) (want_ct (t:=75) rfl rfl) (fun hk=>(r_int (gdT hk) rfl rfl)) rfl rfl ?_
  refine o_w (v:=.bool (((((x4.1==((bstr ([(3:Int),(1:Int),(107:Int),(0:Int),(0:Int),(0:Int),(0:Int),(0:Int),(0:Int),(0:Int),(5:Int)]:List Int))++(bstr (List.replicate ((31:Int)).toNat (0:Int)))))&&(x4.2==(0:Int)))&&(sameE (⟨([107]:Str),(⟨(3:Int),(0:Int),(0:Int),false,([]:Str),([]:List Int),([]:List Int),(5:Int)⟩:Val)⟩:Ent) x8.1))&&(x8.2==(0:Int)))&&(x43.2==(3:Int)))) (r_pickAnd rfl (fun ht=>(gdT ht)) rfl) ?_
  refine o_w (v:=.bool (((((x4.1==((bstr ([(3:Int),(1:Int),(107:Int),(0:Int),(0:Int),(0:Int),(0:Int),(0:Int),(0:Int),(0:Int),(5:Int)]:List Int))++(bstr (List.replicate ((31:Int)).toNat (0:Int)))))&&(x4.2==(0:Int)))&&(sameE (⟨([107]:Str),(⟨(3:Int),(0:Int),(0:Int),false,([]:Str),([]:List Int),([]:List Int),(5:Int)⟩:Val)⟩:Ent) x8.1))&&(x8.2==(0:Int)))&&(x43.2==(3:Int)))) (r_mov rfl) ?_
  refine o_vg (v:=.pointer (some ⟨b96,1,none⟩)) (want_ct (t:=79) rfl rfl) (fun hk=>(r_fa fld_api_Entry_1 rfl rfl)) rfl rfl ?_
  refine o_vg (v:=.pointer (some ⟨b96,8,none⟩)) (want_ct (t:=79) rfl rfl) (fun hk=>(r_fa fld_api_Value_7 rfl (gdT hk))) rfl rfl ?_
  refine o_vg (v:=.int .u64 x78.1.val.flags) (want_ct (t:=79) rfl rfl) (fun hk=>(r_ld one_uint64 (gdT hk) ((((B171.ex F172).ex F185).ex F217).cell rfl))) rfl rfl ?_
  refine o_vg (v:=.bool (x78.1.val.flags==(7:Int))) (want_ct (t:=79) rfl rfl) (fun hk=>(r_int (gdT hk) rfl rfl)) rfl rfl ?_
  refine o_w (v:=.bool ((((((x4.1==((bstr ([(3:Int),(1:Int),(107:Int),(0:Int),(0:Int),(0:Int),(0:Int),(0:Int),(0:Int),(0:Int),(5:Int)]:List Int))++(bstr (List.replicate ((31:Int)).toNat (0:Int)))))&&(x4.2==(0:Int)))&&(sameE (⟨([107]:Str),(⟨(3:Int),(0:Int),(0:Int),false,([]:Str),([]:List Int),([]:List Int),(5:Int)⟩:Val)⟩:Ent) x8.1))&&(x8.2==(0:Int)))&&(x43.2==(3:Int)))&&(x78.1.val.flags==(7:Int)))) (r_pickAnd rfl (fun ht=>(gdT ht)) rfl) ?_
  refine o_w (v:=.bool ((((((x4.1==((bstr ([(3:Int),(1:Int),(107:Int),(0:Int),(0:Int),(0:Int),(0:Int),(0:Int),(0:Int),(0:Int),(5:Int)]:List Int))++(bstr (List.replicate ((31:Int)).toNat (0:Int)))))&&(x4.2==(0:Int)))&&(sameE (⟨([107]:Str),(⟨(3:Int),(0:Int),(0:Int),false,([]:Str),([]:List Int),([]:List Int),(5:Int)⟩:Val)⟩:Ent) x8.1))&&(x8.2==(0:Int)))&&(x43.2==(3:Int)))&&(x78.1.val.flags==(7:Int)))) (r_mov rfl) ?_
  refine o_vg (v:=.int .i64 x78.2) (want_ct (t:=85) rfl rfl) (fun hk=>(r_mov rfl)) rfl rfl ?_
  refine o_vg (v:=.bool (x78.2==(0:Int))) (want_ct (t:=85) rfl rfl) (fun hk=>(r_int (gdT hk) rfl rfl)) rfl rfl ?_
  refine o_w (v:=.bool (((((((x4.1==((bstr ([(3:Int),(1:Int),(107:Int),(0:Int),(0:Int),(0:Int),(0:Int),(0:Int),(0:Int),(0:Int),(5:Int)]:List Int))++(bstr (List.replicate ((31:Int)).toNat (0:Int)))))&&(x4.2==(0:Int)))&&(sameE (⟨([107]:Str),(⟨(3:Int),(0:Int),(0:Int),false,([]:Str),([]:List Int),([]:List Int),(5:Int)⟩:Val)⟩:Ent) x8.1))&&(x8.2==(0:Int)))&&(x43.2==(3:Int)))&&(x78.1.val.flags==(7:Int)))&&(x78.2==(0:Int)))) (r_pickAnd rfl (fun ht=>(gdT ht)) rfl) ?_
  refine o_w (v:=.bool (((((((x4.1==((bstr ([(3:Int),(1:Int),(107:Int),(0:Int),(0:Int),(0:Int),(0:Int),(0:Int),(0:Int),(0:Int),(5:Int)]:List Int))++(bstr (List.replicate ((31:Int)).toNat (0:Int)))))&&(x4.2==(0:Int)))&&(sameE (⟨([107]:Str),(⟨(3:Int),(0:Int),(0:Int),false,([]:Str),([]:List Int),([]:List Int),(5:Int)⟩:Val)⟩:Ent) x8.1))&&(x8.2==(0:Int)))&&(x43.2==(3:Int)))&&(x78.1.val.flags==(7:Int)))&&(x78.2==(0:Int)))) (r_mov rfl) ?_
  refine o_vg (v:=.int .i64 x122.2) (want_ct (t:=89) rfl rfl) (fun hk=>(r_mov rfl)) rfl rfl ?_
  refine o_vg (v:=.bool (x122.2==(2:Int))) (want_ct (t:=89) rfl rfl) (fun hk=>(r_int (gdT hk) rfl rfl)) rfl rfl ?_
  refine o_w (v:=.bool ((((((((x4.1==((bstr ([(3:Int),(1:Int),(107:Int),(0:Int),(0:Int),(0:Int),(0:Int),(0:Int),(0:Int),(0:Int),(5:Int)]:List Int))++(bstr (List.replicate ((31:Int)).toNat (0:Int)))))&&(x4.2==(0:Int)))&&(sameE (⟨([107]:Str),(⟨(3:Int),(0:Int),(0:Int),false,([]:Str),([]:List Int),([]:List Int),(5:Int)⟩:Val)⟩:Ent) x8.1))&&(x8.2==(0:Int)))&&(x43.2==(3:Int)))&&(x78.1.val.flags==(7:Int)))&&(x78.2==(0:Int)))&&(x122.2==(2:Int)))) (r_pickAnd rfl (fun ht=>(gdT ht)) rfl) ?_
  refine o_w (v:=.bool ((((((((x4.1==((bstr ([(3:Int),(1:Int),(107:Int),(0:Int),(0:Int),(0:Int),(0:Int),(0:Int),(0:Int),(0:Int),(5:Int)]:List Int))++(bstr (List.replicate ((31:Int)).toNat (0:Int)))))&&(x4.2==(0:Int)))&&(sameE (⟨([107]:Str),(⟨(3:Int),(0:Int),(0:Int),false,([]:Str),([]:List Int),([]:List Int),(5:Int)⟩:Val)⟩:Ent) x8.1))&&(x8.2==(0:Int)))&&(x43.2==(3:Int)))&&(x78.1.val.flags==(7:Int)))&&(x78.2==(0:Int)))&&(x122.2==(2:Int)))) (r_mov rfl) ?_
  refine o_vg (v:=.int .i64 x172.2) (want_ct (t:=93) rfl rfl) (fun hk=>(r_mov rfl)) rfl rfl ?_
  refine o_vg (v:=.bool (x172.2==(2:Int))) (want_ct (t:=93) rfl rfl) (fun hk=>(r_int (gdT hk) rfl rfl)) rfl rfl ?_
  refine o_w (v:=.bool (((((((((x4.1==((bstr ([(3:Int),(1:Int),(107:Int),(0:Int),(0:Int),(0:Int),(0:Int),(0:Int),(0:Int),(0:Int),(5:Int)]:List Int))++(bstr (List.replicate ((31:Int)).toNat (0:Int)))))&&(x4.2==(0:Int)))&&(sameE (⟨([107]:Str),(⟨(3:Int),(0:Int),(0:Int),false,([]:Str),([]:List Int),([]:List Int),(5:Int)⟩:Val)⟩:Ent) x8.1))&&(x8.2==(0:Int)))&&(x43.2==(3:Int)))&&(x78.1.val.flags==(7:Int)))&&(x78.2==(0:Int)))&&(x122.2==(2:Int)))&&(x172.2==(2:Int)))) (r_pickAnd rfl (fun ht=>(gdT ht)) rfl) ?_
  refine o_w (v:=.bool (((((((((x4.1==((bstr ([(3:Int),(1:Int),(107:Int),(0:Int),(0:Int),(0:Int),(0:Int),(0:Int),(0:Int),(0:Int),(5:Int)]:List Int))++(bstr (List.replicate ((31:Int)).toNat (0:Int)))))&&(x4.2==(0:Int)))&&(sameE (⟨([107]:Str),(⟨(3:Int),(0:Int),(0:Int),false,([]:Str),([]:List Int),([]:List Int),(5:Int)⟩:Val)⟩:Ent) x8.1))&&(x8.2==(0:Int)))&&(x43.2==(3:Int)))&&(x78.1.val.flags==(7:Int)))&&(x78.2==(0:Int)))&&(x122.2==(2:Int)))&&(x172.2==(2:Int)))) (r_mov rfl) ?_
  refine o_vg (v:=.agg #[str ([107]:Str),.int .i64 (1:Int),.int .i64 (2:Int),.int .i64 (1:Int),.bool false,str ([118]:Str),.slice none ([]:List Int).length 0,.slice none ([]:List Int).length 0,.int .u64 (0:Int)]) (want_ct (t:=97) rfl rfl) (fun hk=>(r_lda agg_api_Entry rfl (vs:=[str ([107]:Str),.int .i64 (1:Int),.int .i64 (2:Int),.int .i64 (1:Int),.bool false,str ([118]:Str),.slice none ([]:List Int).length 0,.slice none ([]:List Int).length 0,.int .u64 (0:Int)]) rfl ((((B169.ex F172).ex F185).ex F217).part (n:=9) rfl))) rfl rfl ?_
  refine o_vg (v:=.agg #[str ([107]:Str),.int .i64 (3:Int),.int .i64 (0:Int),.int .i64 (0:Int),.bool false,str ([]:Str),.slice none ([]:List Int).length 0,.slice none ([]:List Int).length 0,.int .u64 (5:Int)]) (want_ct (t:=97) rfl rfl) (fun hk=>(r_lda agg_api_Entry rfl (vs:=[str ([107]:Str),.int .i64 (3:Int),.int .i64 (0:Int),.int .i64 (0:Int),.bool false,str ([]:Str),.slice none ([]:List Int).length 0,.slice none ([]:List Int).length 0,.int .u64 (5:Int)]) rfl ((((B167.ex F172).ex F185).ex F217).part (n:=9) rfl))) rfl rfl ?_
  refine o_callg (V:=.bool (lessE (⟨([107]:Str),(⟨(1:Int),(2:Int),(1:Int),false,([118]:Str),([]:List Int),([]:List Int),(0:Int)⟩:Val)⟩:Ent) (⟨([107]:Str),(⟨(3:Int),(0:Int),(0:Int),false,([]:Str),([]:List Int),([]:List Int),(5:Int)⟩:Val)⟩:Ent))) cf_entry_Less (want_ct (t:=97) rfl rfl) (fun hk=>(mapv2 (gdT hk) (gdT hk))) (fun hk=>(entry_Less_c (⟨([107]:Str),(⟨(1:Int),(2:Int),(1:Int),false,([118]:Str),([]:List Int),([]:List Int),(0:Int)⟩:Val)⟩:Ent) (kEnt_mk (d:=(⟨([107]:Str),(⟨(1:Int),(2:Int),(1:Int),false,([118]:Str),([]:List Int),([]:List Int),(0:Int)⟩:Val)⟩:Ent)) stb_nil stb_nil) (⟨([107]:Str),(⟨(3:Int),(0:Int),(0:Int),false,([]:Str),([]:List Int),([]:List Int),(5:Int)⟩:Val)⟩:Ent) (kEnt_mk (d:=(⟨([107]:Str),(⟨(3:Int),(0:Int),(0:Int),false,([]:Str),([]:List Int),([]:List Int),(5:Int)⟩:Val)⟩:Ent)) stb_nil stb_nil) (((((((hL.fr E219).cons (((B167.ex F172).ex F185).ex F217).lt).cons (((B168.ex F172).ex F185).ex F217).lt).cons (((B169.ex F172).ex F185).ex F217).lt).cons (((B170.ex F172).ex F185).ex F217).lt).cons (((B171.ex F172).ex F185).ex F217).lt).cons (((B161'.ex F172).ex F185).ex F217).lt) (entLess_ev (⟨([107]:Str),(⟨(1:Int),(2:Int),(1:Int),false,([118]:Str),([]:List Int),([]:List Int),(0:Int)⟩:Val)⟩:Ent) (⟨([107]:Str),(⟨(3:Int),(0:Int),(0:Int),false,([]:Str),([]:List Int),([]:List Int),(5:Int)⟩:Val)⟩:Ent)))) rfl ?_
  intro w231 F231
  have E232:=E219.trans F231
  refine o_w (v:=.bool ((((((((((x4.1==((bstr ([(3:Int),(1:Int),(107:Int),(0:Int),(0:Int),(0:Int),(0:Int),(0:Int),(0:Int),(0:Int),(5:Int)]:List Int))++(bstr (List.replicate ((31:Int)).toNat (0:Int)))))&&(x4.2==(0:Int)))&&(sameE (⟨([107]:Str),(⟨(3:Int),(0:Int),(0:Int),false,([]:Str),([]:List Int),([]:List Int),(5:Int)⟩:Val)⟩:Ent) x8.1))&&(x8.2==(0:Int)))&&(x43.2==(3:Int)))&&(x78.1.val.flags==(7:Int)))&&(x78.2==(0:Int)))&&(x122.2==(2:Int)))&&(x172.2==(2:Int)))&&(lessE (⟨([107]:Str),(⟨(1:Int),(2:Int),(1:Int),false,([118]:Str),([]:List Int),([]:List Int),(0:Int)⟩:Val)⟩:Ent) (⟨([107]:Str),(⟨(3:Int),(0:Int),(0:Int),false,([]:Str),([]:List Int),([]:List Int),(5:Int)⟩:Val)⟩:Ent)))) (r_pickAnd rfl (fun ht=>(gdT ht)) rfl) ?_
  refine o_w (v:=.bool ((((((((((x4.1==((bstr ([(3:Int),(1:Int),(107:Int),(0:Int),(0:Int),(0:Int),(0:Int),(0:Int),(0:Int),(0:Int),(5:Int)]:List Int))++(bstr (List.replicate ((31:Int)).toNat (0:Int)))))&&(x4.2==(0:Int)))&&(sameE (⟨([107]:Str),(⟨(3:Int),(0:Int),(0:Int),false,([]:Str),([]:List Int),([]:List Int),(5:Int)⟩:Val)⟩:Ent) x8.1))&&(x8.2==(0:Int)))&&(x43.2==(3:Int)))&&(x78.1.val.flags==(7:Int)))&&(x78.2==(0:Int)))&&(x122.2==(2:Int)))&&(x172.2==(2:Int)))&&(lessE (⟨([107]:Str),(⟨(1:Int),(2:Int),(1:Int),false,([118]:Str),([]:List Int),([]:List Int),(0:Int)⟩:Val)⟩:Ent) (⟨([107]:Str),(⟨(3:Int),(0:Int),(0:Int),false,([]:Str),([]:List Int),([]:List Int),(5:Int)⟩:Val)⟩:Ent)))) (r_mov rfl) ?_
  refine o_vg (v:=.agg #[str ([107]:Str),.int .i64 (3:Int),.int .i64 (0:Int),.int .i64 (0:Int),.bool false,str ([]:Str),.slice none ([]:List Int).length 0,.slice none ([]:List Int).length 0,.int .u64 (5:Int)]) (want_ct (t:=102) rfl rfl) (fun hk=>(r_lda agg_api_Entry rfl (vs:=[str ([107]:Str),.int .i64 (3:Int),.int .i64 (0:Int),.int .i64 (0:Int),.bool false,str ([]:Str),.slice none ([]:List Int).length 0,.slice none ([]:List Int).length 0,.int .u64 (5:Int)]) rfl (((((B167.ex F172).ex F185).ex F217).ex F231).part (n:=9) rfl))) rfl rfl ?_
  refine o_vg (v:=.agg #[str ([107]:Str),.int .i64 (1:Int),.int .i64 (2:Int),.int .i64 (1:Int),.bool false,str ([118]:Str),.slice none ([]:List Int).length 0,.slice none ([]:List Int).length 0,.int .u64 (0:Int)]) (want_ct (t:=102) rfl rfl) (fun hk=>(r_lda agg_api_Entry rfl (vs:=[str ([107]:Str),.int .i64 (1:Int),.int .i64 (2:Int),.int .i64 (1:Int),.bool false,str ([118]:Str),.slice none ([]:List Int).length 0,.slice none ([]:List Int).length 0,.int .u64 (0:Int)]) rfl (((((B169.ex F172).ex F185).ex F217).ex F231).part (n:=9) rfl))) rfl rfl ?_
  refine o_callg (V:=.bool (lessE (⟨([107]:Str),(⟨(3:Int),(0:Int),(0:Int),false,([]:Str),([]:List Int),([]:List Int),(5:Int)⟩:Val)⟩:Ent) (⟨([107]:Str),(⟨(1:Int),(2:Int),(1:Int),false,([118]:Str),([]:List Int),([]:List Int),(0:Int)⟩:Val)⟩:Ent))) cf_entry_Less (want_ct (t:=102) rfl rfl) (fun hk=>(mapv2 (gdT hk) (gdT hk))) (fun hk=>(entry_Less_c (⟨([107]:Str),(⟨(3:Int),(0:Int),(0:Int),false,([]:Str),([]:List Int),([]:List Int),(5:Int)⟩:Val)⟩:Ent) (kEnt_mk (d:=(⟨([107]:Str),(⟨(3:Int),(0:Int),(0:Int),false,([]:Str),([]:List Int),([]:List Int),(5:Int)⟩:Val)⟩:Ent)) stb_nil stb_nil) (⟨([107]:Str),(⟨(1:Int),(2:Int),(1:Int),false,([118]:Str),([]:List Int),([]:List Int),(0:Int)⟩:Val)⟩:Ent) (kEnt_mk (d:=(⟨([107]:Str),(⟨(1:Int),(2:Int),(1:Int),false,([118]:Str),([]:List Int),([]:List Int),(0:Int)⟩:Val)⟩:Ent)) stb_nil stb_nil) (((((((hL.fr E232).cons ((((B167.ex F172).ex F185).ex F217).ex F231).lt).cons ((((B168.ex F172).ex F185).ex F217).ex F231).lt).cons ((((B169.ex F172).ex F185).ex F217).ex F231).lt).cons ((((B170.ex F172).ex F185).ex F217).ex F231).lt).cons ((((B171.ex F172).ex F185).ex F217).ex F231).lt).cons ((((B161'.ex F172).ex F185).ex F217).ex F231).lt) (entLess_ev (⟨([107]:Str),(⟨(3:Int),(0:Int),(0:Int),false,([]:Str),([]:List Int),([]:List Int),(5:Int)⟩:Val)⟩:Ent) (⟨([107]:Str),(⟨(1:Int),(2:Int),(1:Int),false,([118]:Str),([]:List Int),([]:List Int),(0:Int)⟩:Val)⟩:Ent)))) rfl ?_
  intro w244 F244
  have E245:=E232.trans F244
  refine o_vg (v:=.bool (!(lessE (⟨([107]:Str),(⟨(3:Int),(0:Int),(0:Int),false,([]:Str),([]:List Int),([]:List Int),(5:Int)⟩:Val)⟩:Ent) (⟨([107]:Str),(⟨(1:Int),(2:Int),(1:Int),false,([118]:Str),([]:List Int),([]:List Int),(0:Int)⟩:Val)⟩:Ent)))) (want_ct (t:=102) rfl rfl) (fun hk=>(r_not (gdT hk))) rfl rfl ?_
  refine o_w (v:=.bool (((((((((((x4.1==((bstr ([(3:Int),(1:Int),(107:Int),(0:Int),(0:Int),(0:Int),(0:Int),(0:Int),(0:Int),(0:Int),(5:Int)]:List Int))++(bstr (List.replicate ((31:Int)).toNat (0:Int)))))&&(x4.2==(0:Int)))&&(sameE (⟨([107]:Str),(⟨(3:Int),(0:Int),(0:Int),false,([]:Str),([]:List Int),([]:List Int),(5:Int)⟩:Val)⟩:Ent) x8.1))&&(x8.2==(0:Int)))&&(x43.2==(3:Int)))&&(x78.1.val.flags==(7:Int)))&&(x78.2==(0:Int)))&&(x122.2==(2:Int)))&&(x172.2==(2:Int)))&&(lessE (⟨([107]:Str),(⟨(1:Int),(2:Int),(1:Int),false,([118]:Str),([]:List Int),([]:List Int),(0:Int)⟩:Val)⟩:Ent) (⟨([107]:Str),(⟨(3:Int),(0:Int),(0:Int),false,([]:Str),([]:List Int),([]:List Int),(5:Int)⟩:Val)⟩:Ent)))&&(!(lessE (⟨([107]:Str),(⟨(3:Int),(0:Int),(0:Int),false,([]:Str),([]:List Int),([]:List Int),(5:Int)⟩:Val)⟩:Ent) (⟨([107]:Str),(⟨(1:Int),(2:Int),(1:Int),false,([118]:Str),([]:List Int),([]:List Int),(0:Int)⟩:Val)⟩:Ent))))) (r_pickAnd rfl (fun ht=>(gdT ht)) rfl) ?_
  refine o_w (v:=.bool (((((((((((x4.1==((bstr ([(3:Int),(1:Int),(107:Int),(0:Int),(0:Int),(0:Int),(0:Int),(0:Int),(0:Int),(0:Int),(5:Int)]:List Int))++(bstr (List.replicate ((31:Int)).toNat (0:Int)))))&&(x4.2==(0:Int)))&&(sameE (⟨([107]:Str),(⟨(3:Int),(0:Int),(0:Int),false,([]:Str),([]:List Int),([]:List Int),(5:Int)⟩:Val)⟩:Ent) x8.1))&&(x8.2==(0:Int)))&&(x43.2==(3:Int)))&&(x78.1.val.flags==(7:Int)))&&(x78.2==(0:Int)))&&(x122.2==(2:Int)))&&(x172.2==(2:Int)))&&(lessE (⟨([107]:Str),(⟨(1:Int),(2:Int),(1:Int),false,([118]:Str),([]:List Int),([]:List Int),(0:Int)⟩:Val)⟩:Ent) (⟨([107]:Str),(⟨(3:Int),(0:Int),(0:Int),false,([]:Str),([]:List Int),([]:List Int),(5:Int)⟩:Val)⟩:Ent)))&&(!(lessE (⟨([107]:Str),(⟨(3:Int),(0:Int),(0:Int),false,([]:Str),([]:List Int),([]:List Int),(5:Int)⟩:Val)⟩:Ent) (⟨([107]:Str),(⟨(1:Int),(2:Int),(1:Int),false,([118]:Str),([]:List Int),([]:List Int),(0:Int)⟩:Val)⟩:Ent))))) (r_mov rfl) ?_
  iterate 2 refine o_vg (v:=.agg #[str ([107]:Str),.int .i64 (3:Int),.int .i64 (0:Int),.int .i64 (0:Int),.bool false,str ([]:Str),.slice none ([]:List Int).length 0,.slice none ([]:List Int).length 0,.int .u64 (5:Int)]) (want_ct (t:=108) rfl rfl) (fun hk=>(r_lda agg_api_Entry rfl (vs:=[str ([107]:Str),.int .i64 (3:Int),.int .i64 (0:Int),.int .i64 (0:Int),.bool false,str ([]:Str),.slice none ([]:List Int).length 0,.slice none ([]:List Int).length 0,.int .u64 (5:Int)]) rfl ((((((B167.ex F172).ex F185).ex F217).ex F231).ex F244).part (n:=9) rfl))) rfl rfl ?_
  refine o_callg (V:=.bool (lessE (⟨([107]:Str),(⟨(3:Int),(0:Int),(0:Int),false,([]:Str),([]:List Int),([]:List Int),(5:Int)⟩:Val)⟩:Ent) (⟨([107]:Str),(⟨(3:Int),(0:Int),(0:Int),false,([]:Str),([]:List Int),([]:List Int),(5:Int)⟩:Val)⟩:Ent))) cf_entry_Less (want_ct (t:=108) rfl rfl) (fun hk=>(mapv2 (gdT hk) (gdT hk))) (fun hk=>(entry_Less_c (⟨([107]:Str),(⟨(3:Int),(0:Int),(0:Int),false,([]:Str),([]:List Int),([]:List Int),(5:Int)⟩:Val)⟩:Ent) (kEnt_mk (d:=(⟨([107]:Str),(⟨(3:Int),(0:Int),(0:Int),false,([]:Str),([]:List Int),([]:List Int),(5:Int)⟩:Val)⟩:Ent)) stb_nil stb_nil) (⟨([107]:Str),(⟨(3:Int),(0:Int),(0:Int),false,([]:Str),([]:List Int),([]:List Int),(5:Int)⟩:Val)⟩:Ent) (kEnt_mk (d:=(⟨([107]:Str),(⟨(3:Int),(0:Int),(0:Int),false,([]:Str),([]:List Int),([]:List Int),(5:Int)⟩:Val)⟩:Ent)) stb_nil stb_nil) (((((((hL.fr E245).cons (((((B167.ex F172).ex F185).ex F217).ex F231).ex F244).lt).cons (((((B168.ex F172).ex F185).ex F217).ex F231).ex F244).lt).cons (((((B169.ex F172).ex F185).ex F217).ex F231).ex F244).lt).cons (((((B170.ex F172).ex F185).ex F217).ex F231).ex F244).lt).cons (((((B171.ex F172).ex F185).ex F217).ex F231).ex F244).lt).cons (((((B161'.ex F172).ex F185).ex F217).ex F231).ex F244).lt) (entLess_ev (⟨([107]:Str),(⟨(3:Int),(0:Int),(0:Int),false,([]:Str),([]:List Int),([]:List Int),(5:Int)⟩:Val)⟩:Ent) (⟨([107]:Str),(⟨(3:Int),(0:Int),(0:Int),false,([]:Str),([]:List Int),([]:List Int),(5:Int)⟩:Val)⟩:Ent)))) rfl ?_
  intro w257 F257
  have E258:=E245.trans F257
  refine o_vg (v:=.bool (!(lessE (⟨([107]:Str),(⟨(3:Int),(0:Int),(0:Int),false,([]:Str),([]:List Int),([]:List Int),(5:Int)⟩:Val)⟩:Ent) (⟨([107]:Str),(⟨(3:Int),(0:Int),(0:Int),false,([]:Str),([]:List Int),([]:List Int),(5:Int)⟩:Val)⟩:Ent)))) (want_ct (t:=108) rfl rfl) (fun hk=>(r_not (gdT hk))) rfl rfl ?_
  refine o_w (v:=.bool ((((((((((((x4.1==((bstr ([(3:Int),(1:Int),(107:Int),(0:Int),(0:Int),(0:Int),(0:Int),(0:Int),(0:Int),(0:Int),(5:Int)]:List Int))++(bstr (List.replicate ((31:Int)).toNat (0:Int)))))&&(x4.2==(0:Int)))&&(sameE (⟨([107]:Str),(⟨(3:Int),(0:Int),(0:Int),false,([]:Str),([]:List Int),([]:List Int),(5:Int)⟩:Val)⟩:Ent) x8.1))&&(x8.2==(0:Int)))&&(x43.2==(3:Int)))&&(x78.1.val.flags==(7:Int)))&&(x78.2==(0:Int)))&&(x122.2==(2:Int)))&&(x172.2==(2:Int)))&&(lessE (⟨([107]:Str),(⟨(1:Int),(2:Int),(1:Int),false,([118]:Str),([]:List Int),([]:List Int),(0:Int)⟩:Val)⟩:Ent) (⟨([107]:Str),(⟨(3:Int),(0:Int),(0:Int),false,([]:Str),([]:List Int),([]:List Int),(5:Int)⟩:Val)⟩:Ent)))&&(!(lessE (⟨([107]:Str),(⟨(3:Int),(0:Int),(0:Int),false,([]:Str),([]:List Int),([]:List Int),(5:Int)⟩:Val)⟩:Ent) (⟨([107]:Str),(⟨(1:Int),(2:Int),(1:Int),false,([118]:Str),([]:List Int),([]:List Int),(0:Int)⟩:Val)⟩:Ent))))&&(!(lessE (⟨([107]:Str),(⟨(3:Int),(0:Int),(0:Int),false,([]:Str),([]:List Int),([]:List Int),(5:Int)⟩:Val)⟩:Ent) (⟨([107]:Str),(⟨(3:Int),(0:Int),(0:Int),false,([]:Str),([]:List Int),([]:List Int),(5:Int)⟩:Val)⟩:Ent))))) (r_pickAnd rfl (fun ht=>(gdT ht)) rfl) ?_
  refine o_w (v:=.bool ((((((((((((x4.1==((bstr ([(3:Int),(1:Int),(107:Int),(0:Int),(0:Int),(0:Int),(0:Int),(0:Int),(0:Int),(0:Int),(5:Int)]:List Int))++(bstr (List.replicate ((31:Int)).toNat (0:Int)))))&&(x4.2==(0:Int)))&&(sameE (⟨([107]:Str),(⟨(3:Int),(0:Int),(0:Int),false,([]:Str),([]:List Int),([]:List Int),(5:Int)⟩:Val)⟩:Ent) x8.1))&&(x8.2==(0:Int)))&&(x43.2==(3:Int)))&&(x78.1.val.flags==(7:Int)))&&(x78.2==(0:Int)))&&(x122.2==(2:Int)))&&(x172.2==(2:Int)))&&(lessE (⟨([107]:Str),(⟨(1:Int),(2:Int),(1:Int),false,([118]:Str),([]:List Int),([]:List Int),(0:Int)⟩:Val)⟩:Ent) (⟨([107]:Str),(⟨(3:Int),(0:Int),(0:Int),false,([]:Str),([]:List Int),([]:List Int),(5:Int)⟩:Val)⟩:Ent)))&&(!(lessE (⟨([107]:Str),(⟨(3:Int),(0:Int),(0:Int),false,([]:Str),([]:List Int),([]:List Int),(5:Int)⟩:Val)⟩:Ent) (⟨([107]:Str),(⟨(1:Int),(2:Int),(1:Int),false,([118]:Str),([]:List Int),([]:List Int),(0:Int)⟩:Val)⟩:Ent))))&&(!(lessE (⟨([107]:Str),(⟨(3:Int),(0:Int),(0:Int),false,([]:Str),([]:List Int),([]:List Int),(5:Int)⟩:Val)⟩:Ent) (⟨([107]:Str),(⟨(3:Int),(0:Int),(0:Int),false,([]:Str),([]:List Int),([]:List Int),(5:Int)⟩:Val)⟩:Ent))))) (r_mov rfl) ?_
  refine o_vg (v:=.agg #[str ([107]:Str),.int .i64 (1:Int),.int .i64 (2:Int),.int .i64 (1:Int),.bool false,str ([118]:Str),.slice none ([]:List Int).length 0,.slice none ([]:List Int).length 0,.int .u64 (0:Int)]) (want_ct (t:=114) rfl rfl) (fun hk=>(r_lda agg_api_Entry rfl (vs:=[str ([107]:Str),.int .i64 (1:Int),.int .i64 (2:Int),.int .i64 (1:Int),.bool false,str ([118]:Str),.slice none ([]:List Int).length 0,.slice none ([]:List Int).length 0,.int .u64 (0:Int)]) rfl (((((((B169.ex F172).ex F185).ex F217).ex F231).ex F244).ex F257).part (n:=9) rfl))) rfl rfl ?_
  obtain ⟨ha271,h⟩:=h
  refine o_callg (V:=.int .i64 (checkE (⟨([107]:Str),(⟨(1:Int),(2:Int),(1:Int),false,([118]:Str),([]:List Int),([]:List Int),(0:Int)⟩:Val)⟩:Ent))) cf_entry_Check (want_ct (t:=114) rfl rfl) (fun hk=>(mapv1 (gdT hk))) (fun hk=>(entry_Check_c (⟨([107]:Str),(⟨(1:Int),(2:Int),(1:Int),false,([118]:Str),([]:List Int),([]:List Int),(0:Int)⟩:Val)⟩:Ent) (kEnt_mk (d:=(⟨([107]:Str),(⟨(1:Int),(2:Int),(1:Int),false,([118]:Str),([]:List Int),([]:List Int),(0:Int)⟩:Val)⟩:Ent)) stb_nil stb_nil) (((((((hL.fr E258).cons ((((((B167.ex F172).ex F185).ex F217).ex F231).ex F244).ex F257).lt).cons ((((((B168.ex F172).ex F185).ex F217).ex F231).ex F244).ex F257).lt).cons ((((((B169.ex F172).ex F185).ex F217).ex F231).ex F244).ex F257).lt).cons ((((((B170.ex F172).ex F185).ex F217).ex F231).ex F244).ex F257).lt).cons ((((((B171.ex F172).ex F185).ex F217).ex F231).ex F244).ex F257).lt).cons ((((((B161'.ex F172).ex F185).ex F217).ex F231).ex F244).ex F257).lt) (entCheck_ev (⟨([107]:Str),(⟨(1:Int),(2:Int),(1:Int),false,([118]:Str),([]:List Int),([]:List Int),(0:Int)⟩:Val)⟩:Ent) (ha271 hk)))) rfl ?_
  intro w270 F270
  have E272:=E258.trans F270
  have B278:=((((((B167.ex F172).ex F185).ex F217).ex F231).ex F244).ex F257).ex F270
  have B279:=((((((B168.ex F172).ex F185).ex F217).ex F231).ex F244).ex F257).ex F270
  have B280:=((((((B169.ex F172).ex F185).ex F217).ex F231).ex F244).ex F257).ex F270
  have B281:=((((((B170.ex F172).ex F185).ex F217).ex F231).ex F244).ex F257).ex F270
  have B282:=((((((B171.ex F172).ex F185).ex F217).ex F231).ex F244).ex F257).ex F270
  have B283:=((((((B161'.ex F172).ex F185).ex F217).ex F231).ex F244).ex F257).ex F270
  refine o_vg (v:=.bool ((checkE (⟨([107]:Str),(⟨(1:Int),(2:Int),(1:Int),false,([118]:Str),([]:List Int),([]:List Int),(0:Int)⟩:Val)⟩:Ent))==(0:Int))) (want_ct (t:=114) rfl rfl) (fun hk=>(r_int (gdT hk) rfl rfl)) rfl rfl ?_
  refine o_w (v:=.bool (((((((((((((x4.1==((bstr ([(3:Int),(1:Int),(107:Int),(0:Int),(0:Int),(0:Int),(0:Int),(0:Int),(0:Int),(0:Int),(5:Int)]:List Int))++(bstr (List.replicate ((31:Int)).toNat (0:Int)))))&&(x4.2==(0:Int)))&&(sameE (⟨([107]:Str),(⟨(3:Int),(0:Int),(0:Int),false,([]:Str),([]:List Int),([]:List Int),(5:Int)⟩:Val)⟩:Ent) x8.1))&&(x8.2==(0:Int)))&&(x43.2==(3:Int)))&&(x78.1.val.flags==(7:Int)))&&(x78.2==(0:Int)))&&(x122.2==(2:Int)))&&(x172.2==(2:Int)))&&(lessE (⟨([107]:Str),(⟨(1:Int),(2:Int),(1:Int),false,([118]:Str),([]:List Int),([]:List Int),(0:Int)⟩:Val)⟩:Ent) (⟨([107]:Str),(⟨(3:Int),(0:Int),(0:Int),false,([]:Str),([]:List Int),([]:List Int),(5:Int)⟩:Val)⟩:Ent)))&&(!(lessE (⟨([107]:Str),(⟨(3:Int),(0:Int),(0:Int),false,([]:Str),([]:List Int),([]:List Int),(5:Int)⟩:Val)⟩:Ent) (⟨([107]:Str),(⟨(1:Int),(2:Int),(1:Int),false,([118]:Str),([]:List Int),([]:List Int),(0:Int)⟩:Val)⟩:Ent))))&&(!(lessE (⟨([107]:Str),(⟨(3:Int),(0:Int),(0:Int),false,([]:Str),([]:List Int),([]:List Int),(5:Int)⟩:Val)⟩:Ent) (⟨([107]:Str),(⟨(3:Int),(0:Int),(0:Int),false,([]:Str),([]:List Int),([]:List Int),(5:Int)⟩:Val)⟩:Ent))))&&((checkE (⟨([107]:Str),(⟨(1:Int),(2:Int),(1:Int),false,([118]:Str),([]:List Int),([]:List Int),(0:Int)⟩:Val)⟩:Ent))==(0:Int)))) (r_pickAnd rfl (fun ht=>(gdT ht)) rfl) ?_
  refine o_w (v:=.bool (((((((((((((x4.1==((bstr ([(3:Int),(1:Int),(107:Int),(0:Int),(0:Int),(0:Int),(0:Int),(0:Int),(0:Int),(0:Int),(5:Int)]:List Int))++(bstr (List.replicate ((31:Int)).toNat (0:Int)))))&&(x4.2==(0:Int)))&&(sameE (⟨([107]:Str),(⟨(3:Int),(0:Int),(0:Int),false,([]:Str),([]:List Int),([]:List Int),(5:Int)⟩:Val)⟩:Ent) x8.1))&&(x8.2==(0:Int)))&&(x43.2==(3:Int)))&&(x78.1.val.flags==(7:Int)))&&(x78.2==(0:Int)))&&(x122.2==(2:Int)))&&(x172.2==(2:Int)))&&(lessE (⟨([107]:Str),(⟨(1:Int),(2:Int),(1:Int),false,([118]:Str),([]:List Int),([]:List Int),(0:Int)⟩:Val)⟩:Ent) (⟨([107]:Str),(⟨(3:Int),(0:Int),(0:Int),false,([]:Str),([]:List Int),([]:List Int),(5:Int)⟩:Val)⟩:Ent)))&&(!(lessE (⟨([107]:Str),(⟨(3:Int),(0:Int),(0:Int),false,([]:Str),([]:List Int),([]:List Int),(5:Int)⟩:Val)⟩:Ent) (⟨([107]:Str),(⟨(1:Int),(2:Int),(1:Int),false,([118]:Str),([]:List Int),([]:List Int),(0:Int)⟩:Val)⟩:Ent))))&&(!(lessE (⟨([107]:Str),(⟨(3:Int),(0:Int),(0:Int),false,([]:Str),([]:List Int),([]:List Int),(5:Int)⟩:Val)⟩:Ent) (⟨([107]:Str),(⟨(3:Int),(0:Int),(0:Int),false,([]:Str),([]:List Int),([]:List Int),(5:Int)⟩:Val)⟩:Ent))))&&((checkE (⟨([107]:Str),(⟨(1:Int),(2:Int),(1:Int),false,([118]:Str),([]:List Int),([]:List Int),(0:Int)⟩:Val)⟩:Ent))==(0:Int)))) (r_mov rfl) ?_
  refine o_vg (v:=.agg #[str ([107]:Str),.int .i64 (3:Int),.int .i64 (0:Int),.int .i64 (0:Int),.bool false,str ([]:Str),.slice none ([]:List Int).length 0,.slice none ([]:List Int).length 0,.int .u64 (5:Int)]) (want_ct (t:=119) rfl rfl) (fun hk=>(r_lda agg_api_Entry rfl (vs:=[str ([107]:Str),.int .i64 (3:Int),.int .i64 (0:Int),.int .i64 (0:Int),.bool false,str ([]:Str),.slice none ([]:List Int).length 0,.slice none ([]:List Int).length 0,.int .u64 (5:Int)]) rfl (B278.part (n:=9) rfl))) rfl rfl ?_
  refine o_vg (v:=.agg #[str ([107]:Str),.int .i64 (1:Int),.int .i64 (2:Int),.int .i64 (1:Int),.bool false,str ([118]:Str),.slice none ([]:List Int).length 0,.slice none ([]:List Int).length 0,.int .u64 (0:Int)]) (want_ct (t:=119) rfl rfl) (fun hk=>(r_lda agg_api_Entry rfl (vs:=[str ([107]:Str),.int .i64 (1:Int),.int .i64 (2:Int),.int .i64 (1:Int),.bool false,str ([118]:Str),.slice none ([]:List Int).length 0,.slice none ([]:List Int).length 0,.int .u64 (0:Int)]) rfl (B280.part (n:=9) rfl))) rfl rfl ?_
  obtain ⟨ha285,h⟩:=h
  refine o_callg (V:=.bool (sameE (⟨([107]:Str),(⟨(3:Int),(0:Int),(0:Int),false,([]:Str),([]:List Int),([]:List Int),(5:Int)⟩:Val)⟩:Ent) (⟨([107]:Str),(⟨(1:Int),(2:Int),(1:Int),false,([118]:Str),([]:List Int),([]:List Int),(0:Int)⟩:Val)⟩:Ent))) cf_entry_Same (want_ct (t:=119) rfl rfl) (fun hk=>(mapv2 (gdT hk) (gdT hk))) (fun hk=>(entry_Same_c (⟨([107]:Str),(⟨(3:Int),(0:Int),(0:Int),false,([]:Str),([]:List Int),([]:List Int),(5:Int)⟩:Val)⟩:Ent) (kEnt_mk (d:=(⟨([107]:Str),(⟨(3:Int),(0:Int),(0:Int),false,([]:Str),([]:List Int),([]:List Int),(5:Int)⟩:Val)⟩:Ent)) stb_nil stb_nil) (⟨([107]:Str),(⟨(1:Int),(2:Int),(1:Int),false,([118]:Str),([]:List Int),([]:List Int),(0:Int)⟩:Val)⟩:Ent) (kEnt_mk (d:=(⟨([107]:Str),(⟨(1:Int),(2:Int),(1:Int),false,([118]:Str),([]:List Int),([]:List Int),(0:Int)⟩:Val)⟩:Ent)) stb_nil stb_nil) (((((((hL.fr E272).cons B278.lt).cons B279.lt).cons B280.lt).cons B281.lt).cons B282.lt).cons B283.lt) (entSame_ev (⟨([107]:Str),(⟨(3:Int),(0:Int),(0:Int),false,([]:Str),([]:List Int),([]:List Int),(5:Int)⟩:Val)⟩:Ent) (⟨([107]:Str),(⟨(1:Int),(2:Int),(1:Int),false,([118]:Str),([]:List Int),([]:List Int),(0:Int)⟩:Val)⟩:Ent) (ha285 hk)))) rfl ?_
  intro w284 F284
  have E286:=E272.trans F284
  refine o_vg (v:=.bool (!(sameE (⟨([107]:Str),(⟨(3:Int),(0:Int),(0:Int),false,([]:Str),([]:List Int),([]:List Int),(5:Int)⟩:Val)⟩:Ent) (⟨([107]:Str),(⟨(1:Int),(2:Int),(1:Int),false,([118]:Str),([]:List Int),([]:List Int),(0:Int)⟩:Val)⟩:Ent)))) (want_ct (t:=119) rfl rfl) (fun hk=>(r_not (gdT hk))) rfl rfl ?_
  refine o_w (v:=.bool ((((((((((((((x4.1==((bstr ([(3:Int),(1:Int),(107:Int),(0:Int),(0:Int),(0:Int),(0:Int),(0:Int),(0:Int),(0:Int),(5:Int)]:List Int))++(bstr (List.replicate ((31:Int)).toNat (0:Int)))))&&(x4.2==(0:Int)))&&(sameE (⟨([107]:Str),(⟨(3:Int),(0:Int),(0:Int),false,([]:Str),([]:List Int),([]:List Int),(5:Int)⟩:Val)⟩:Ent) x8.1))&&(x8.2==(0:Int)))&&(x43.2==(3:Int)))&&(x78.1.val.flags==(7:Int)))&&(x78.2==(0:Int)))&&(x122.2==(2:Int)))&&(x172.2==(2:Int)))&&(lessE (⟨([107]:Str),(⟨(1:Int),(2:Int),(1:Int),false,([118]:Str),([]:List Int),([]:List Int),(0:Int)⟩:Val)⟩:Ent) (⟨([107]:Str),(⟨(3:Int),(0:Int),(0:Int),false,([]:Str),([]:List Int),([]:List Int),(5:Int)⟩:Val)⟩:Ent)))&&(!(lessE (⟨([107]:Str),(⟨(3:Int),(0:Int),(0:Int),false,([]:Str),([]:List Int),([]:List Int),(5:Int)⟩:Val)⟩:Ent) (⟨([107]:Str),(⟨(1:Int),(2:Int),(1:Int),false,([118]:Str),([]:List Int),([]:List Int),(0:Int)⟩:Val)⟩:Ent))))&&(!(lessE (⟨([107]:Str),(⟨(3:Int),(0:Int),(0:Int),false,([]:Str),([]:List Int),([]:List Int),(5:Int)⟩:Val)⟩:Ent) (⟨([107]:Str),(⟨(3:Int),(0:Int),(0:Int),false,([]:Str),([]:List Int),([]:List Int),(5:Int)⟩:Val)⟩:Ent))))&&((checkE (⟨([107]:Str),(⟨(1:Int),(2:Int),(1:Int),false,([118]:Str),([]:List Int),([]:List Int),(0:Int)⟩:Val)⟩:Ent))==(0:Int)))&&(!(sameE (⟨([107]:Str),(⟨(3:Int),(0:Int),(0:Int),false,([]:Str),([]:List Int),([]:List Int),(5:Int)⟩:Val)⟩:Ent) (⟨([107]:Str),(⟨(1:Int),(2:Int),(1:Int),false,([118]:Str),([]:List Int),([]:List Int),(0:Int)⟩:Val)⟩:Ent))))) (r_pickAnd rfl (fun ht=>(gdT ht)) rfl) ?_
  refine o_w (v:=.bool ((((((((((((((x4.1==((bstr ([(3:Int),(1:Int),(107:Int),(0:Int),(0:Int),(0:Int),(0:Int),(0:Int),(0:Int),(0:Int),(5:Int)]:List Int))++(bstr (List.replicate ((31:Int)).toNat (0:Int)))))&&(x4.2==(0:Int)))&&(sameE (⟨([107]:Str),(⟨(3:Int),(0:Int),(0:Int),false,([]:Str),([]:List Int),([]:List Int),(5:Int)⟩:Val)⟩:Ent) x8.1))&&(x8.2==(0:Int)))&&(x43.2==(3:Int)))&&(x78.1.val.flags==(7:Int)))&&(x78.2==(0:Int)))&&(x122.2==(2:Int)))&&(x172.2==(2:Int)))&&(lessE (⟨([107]:Str),(⟨(1:Int),(2:Int),(1:Int),false,([118]:Str),([]:List Int),([]:List Int),(0:Int)⟩:Val)⟩:Ent) (⟨([107]:Str),(⟨(3:Int),(0:Int),(0:Int),false,([]:Str),([]:List Int),([]:List Int),(5:Int)⟩:Val)⟩:Ent)))&&(!(lessE (⟨([107]:Str),(⟨(3:Int),(0:Int),(0:Int),false,([]:Str),([]:List Int),([]:List Int),(5:Int)⟩:Val)⟩:Ent) (⟨([107]:Str),(⟨(1:Int),(2:Int),(1:Int),false,([118]:Str),([]:List Int),([]:List Int),(0:Int)⟩:Val)⟩:Ent))))&&(!(lessE (⟨([107]:Str),(⟨(3:Int),(0:Int),(0:Int),false,([]:Str),([]:List Int),([]:List Int),(5:Int)⟩:Val)⟩:Ent) (⟨([107]:Str),(⟨(3:Int),(0:Int),(0:Int),false,([]:Str),([]:List Int),([]:List Int),(5:Int)⟩:Val)⟩:Ent))))&&((checkE (⟨([107]:Str),(⟨(1:Int),(2:Int),(1:Int),false,([118]:Str),([]:List Int),([]:List Int),(0:Int)⟩:Val)⟩:Ent))==(0:Int)))&&(!(sameE (⟨([107]:Str),(⟨(3:Int),(0:Int),(0:Int),false,([]:Str),([]:List Int),([]:List Int),(5:Int)⟩:Val)⟩:Ent) (⟨([107]:Str),(⟨(1:Int),(2:Int),(1:Int),false,([118]:Str),([]:List Int),([]:List Int),(0:Int)⟩:Val)⟩:Ent))))) (r_asg rfl) ?_
  refine eo_nil_sq ?_
  refine ec_ret ?_
  subst h
  exact (end1 rfl ⟨_,rfl,E286,rfl⟩)
end Go.Proofs.Ytbijobepjjokmaa
